/- Part A4. -/
import Derived.Test.YtlhommikjhhmbaaGreatDoorB3
import Derived.Scope
set_option linter.unusedSectionVars false
set_option linter.unusedVariables false
set_option linter.unusedSimpArgs false
namespace Go.Px
open Bool renaming true->E,false->H
open Go.Region renaming wanted->Y
open List renaming map_map->qc,range'->qk,range->qo,pairwise_map->qs,map->qv,filter_sublist->qx,range_eq_range'->qB,nodup_append->qC,mem_iff_getElem?->qD,isEmpty_iff->qE,eq_nil_iff_forall_not_mem->qF
open List.Nodup renaming sublist->qA
open List.Pairwise renaming imp_of_mem->qy
open Nat renaming blt->O,beq->W,ble->X
open _root_.Option renaming some->G,none->M,some->qb
section
theorem DA:∀{α:Type _}{β:Type _}{f:α->β}{a c:List α},qv f (a++c)=qv f a++qv f c:=@List.map_append
theorem D9:∀{α:Type _}{b:α}{α_1:Type _}{x:Option α_1}{f:α_1->α},Option.map f x=G b↔∃a,x=G a/\f a=b:=@Option.map_eq_some_iff
variable [Dfr]
section
variable {κ:Kp}{C:Cod}{S:St C}{n:Nat}{w0:Start}{σ0:FS}{P:Program}{ρ:Type}{stp:yR C}{dr:YD C}{lp:ZW}{hs:Nat->U3 Hint}
def At(n:Nat)(w0:Start)(σ0:FS)(κ:Kp)(S:St C)(a:Act)(w:World):Prop:=∃L b Z PV,zC κ S L b Z PV/\Inv w0 σ0 Z PV w/\Fits n L b a
def AtP(n:Nat)(w0:Start)(σ0:FS)(κ:Kp)(v:AV C.D)(S:St C)(c:List PanicEntry)(a:Act)(w:World):Prop:=∃u L b Z PV,c=[{v:=u,recovered:=false}]/\Xy C Z u v/\zC κ S L b Z PV/\Inv w0 σ0 Z PV w/\Fits n L b a
def Zi(n:Nat)(w0:Start)(σ0:FS)(κ:Kp)(K:XE C->St C->U3 ρ)(r:ρ):Exit->Act->World->Prop
 | .normal,a,w=>∃S',K .normal S'=G r/\At n w0 σ0 κ S' a w
 | .exit i,a,w=>∃S',K (.exit i) S'=G r/\At n w0 σ0 κ S' a w
 | .ret,a,w=>∃S',K .ret S'=G r/\At n w0 σ0 κ S' a w
 | .panic c,a,w=>∃v S',K (.pan v) S'=G r/\AtP n w0 σ0 κ v S' c a w
 |_,_,_=>False
def zfq(n:Nat)(w0:Start)(σ0:FS)(κ:Kp)(S:St C)(e:XE C)(x:Exit)(a:Act)(w:World):Prop:=match e,x with
 | .normal,.normal=>At n w0 σ0 κ S a w
 | .exit i,.exit j=>i=j/\At n w0 σ0 κ S a w
 | .ret,.ret=>At n w0 σ0 κ S a w
 | .pan v,.panic c=>AtP n w0 σ0 κ v S c a w
 |_,_=>False
def zkH(P:Program)(n:Nat)(κ:Kp)(stp:Oper->St C->U3 (Out C)):Prop:=
 ∀(w0:Start) (σ0:FS),C.gl w0.w σ0->∀(o:Oper) (S:St C) L b Z PV,zC κ S L b Z PV->OpA κ P n w0 σ0 o (stp o S) L b Z PV
def xQ(P:Program)(n:Nat)(κ:Kp)(stp:yR C):Prop:=zkH P n κ (λo S=>stp o S _ G)/\∀(o:Oper) (S:St C) (ρ:Type) (k:Out C->U3 ρ),stp o S ρ k=(stp o S _ G).bind k
def vO(P:Program)(n:Nat)(κ:Kp)(dr:YD C):Prop:=
 ∀(w0:Start) (σ0:FS),C.gl w0.w σ0->∀(ρ:Type) (id:Nat) (ops:Array Oper) (c:List (Nat×Bool)) (S:St C) (K:XE C->St C->U3 ρ) (r:ρ),dr ops c ρ S K=G r->∀(a:Act) (w:World),At n w0 σ0 κ S a w->(Code.region id ops E).wp P (Zi n w0 σ0 κ K r) a w
def xx(lp:ZW):Prop:=∀{s β:Type}(f:s->U3 (Step s β)) (x:s) (y:β),lp f x=G y->∃k,ya f k x=G y
omit [Dfr] in
theorem Xy.mono{Z τ:FS}(l:Z.le τ){u:Value}{v:AV C.D}(h:Xy C Z u v):Xy C τ u v:=⟨h.1,λν a=>(h.2 ν a).mono l⟩
theorem At.close{g:Sig}{x:g.ty C}{a:Act}{w:World}(f:g.close κ.m S=G x)(h:At n w0 σ0 κ S a w):At n w0 σ0 κ (g.open x) a w:=by
 let⟨L,b,Z,PV,hA,hi,i⟩:=h;let⟨Z',c,d,e⟩:=zdF f hA hi;exact⟨L,b,Z',c,e,d,i⟩
theorem Wc{g:Sig}{x:g.ty C}{L:List (Nat×Value)}{b:Nat->Value}{Z:FS}{PV:List Priv}{w:World}(p:g.close κ.m S=G x)(hA:zC κ S L b Z PV)(hi:Inv w0 σ0 Z PV w):∃Z' d,Z.le Z'/\Inv w0 σ0 Z' d w/\zC κ (g.open x) L b Z' d:=by
 let⟨k,h,j⟩:=hi.own;let⟨Z',d,a,l⟩:=zdF (w0:=⟨w,k⟩) (σ0:=Z) p hA (w:=w) ⟨hi.sub,.refl Z,λb o v hb =>.inl hb,⟨k,h,j.sub,j.apart,λb i e =>.inr e⟩,.refl w k⟩;refine⟨Z',d,a.le,?_,l⟩;let⟨g2,f,c⟩:=a.own;refine⟨a.sub,hi.le.trans a.le,λb o v hb=>?_,⟨g2,f,c.sub,c.apart,λb i e=>?_⟩,hi.ext⟩
 ·rcases a.fresh b o v hb with z | z | z
  ·exact hi.fresh b o v z
  ·have:=a.lt hb;grind
  ·exact .inr (j.mine b (o+1) z)
 ·rcases c.mine b i e with z | z
  ·let⟨y,q⟩:=UN.1 e;have:=Bit.at_lt (c.sub b i y q);grind
  ·exact j.mine b i z
theorem Xy.again{Z τ:FS}(l:Z.le τ){u:Value}{v:AV C.D}(h:Xy C Z u v){s:Sh}{y:s.ty C}(c:Sh.get (λ_=>M) s v=G y):Xy C τ u (Sh.put (λk=>k) s y):=by
 refine⟨AV.ok_mono (λj d=>?_) (Sh.put_ok (ρ:=λk=>k) s c),λν' a=>?_⟩
 ·let⟨k,id,e,_⟩:=d;cases e
 ·exact Sh.get_put (ν:=ν') (B:=λ_=>M) ⟨(λk id e=>by cases e),a⟩ s c ((h.2 ν' a).mono l)
theorem AtP.close{g:Sig}{x:g.ty C}{a:Act}{w:World}{v:AV C.D}{c:List PanicEntry}{s:Sh}{y:s.ty C}(p:Sh.get (λ_=>M) s v=G y)(l:g.close κ.m S=G x)(h:AtP n w0 σ0 κ v S c a w):AtP n w0 σ0 κ (Sh.put (λk=>k) s y) (g.open x) c a w:=by
 let⟨u,L,b,Z,PV,e,hp,hA,hi,o⟩:=h;let⟨Z',f,j,d,i⟩:=Wc l hA hi;exact⟨u,L,b,Z',f,e,hp.again j p,i,d,o⟩
theorem zix {k:XK}{g:Sig}{e:XE C}{y:XK.ty C k g}{K:XE C->St C->U3 ρ}{r:ρ}(c:zgy κ.m k g e S=G y) (o:Yj k g y K=G r) {x:Exit}{a:Act}{w:World} :
    zfq n w0 σ0 κ S e x a w->Zi n w0 σ0 κ K r x a w:=by
 intro h;cases e with
 |normal=>
  cases x<;>first | exact h.elim | skip
  cases k<;>first | (cases c;done) | exact⟨_,o,At.close c h⟩
 |exit i=>
  cases x<;>first | exact h.elim | skip
  obtain⟨rfl,h⟩:=h;cases k<;>first | (cases c;done) | skip
  let⟨t,d⟩:=zb c;obtain rfl:=ge t;exact⟨_,o,At.close d h⟩
 |ret=>
  cases x<;>first | exact h.elim | skip
  cases k<;>first | (cases c;done) | exact⟨_,o,At.close c h⟩
 |pan v=>
  cases x<;>first | exact h.elim | skip
  cases k<;>first | (cases c;done) | skip
  rename_i p s;let⟨z,B,d⟩:=gd c;let⟨j,q,u⟩:=gd d;cases u;have A:Sh.hd (s:=s) (l:=g.shs) (Sh.pk (s:=s) (l:=g.shs) z j)=z:=Sh.hd_pk;have D:Sh.tl (s:=s) (l:=g.shs) (Sh.pk (s:=s) (l:=g.shs) z j)=j:=Sh.tl_pk;have f:K (.pan (Sh.put (λk=>k) s (Sh.hd (s:=s) (l:=g.shs) (Sh.pk (s:=s) (l:=g.shs) z j)))) (g.open (Sh.tl (s:=s) (l:=g.shs) (Sh.pk (s:=s) (l:=g.shs) z j)))=G r:=o;rw[A,D] at f;exact⟨_,_,f,AtP.close B q h⟩
theorem Yr:∀{outs:List (XK×Sig)}{e:XE C}{y:zh C outs}{K:XE C->St C->U3 ρ}{r:ρ},zU κ.m outs e S=G y->zT outs y K=G r->∀{x:Exit}{a:Act}{w:World},
    zfq n w0 σ0 κ S e x a w->Zi n w0 σ0 κ K r x a w
 |[],e,y,K,r,c,ho,x,a,w,h=>by cases c
 |[o],e,y,K,r,c,ho,x,a,w,h=>zix c ho h
 |o::o2::l,e,y,K,r,c,ho,x,a,w,h=>by
  unfold zU at c;unfold zT at ho;cases hi:XK.is o.1 e with
  |true=>
   rw[hi,Dy] at c;split at c
   ·rename_i z d;cases c;exact zix d ho h
   ·obtain⟨z,d,rfl⟩:=D9.1 c;exact Yr d ho h
  |false=>
   rw[hi,U8] at c;obtain⟨z,d,rfl⟩:=D9.1 c;exact Yr d ho h
theorem Zi.out{outs:List (XK×Sig)}{y:zh C outs}{K:XE C->St C->U3 ρ}{r:ρ}(f:zT outs y K=G r){x:Exit}{a:Act}{w:World}(h:Zi n w0 σ0 κ (λe S'=>zU κ.m outs e S') y x a w):Zi n w0 σ0 κ K r x a w:=by
 cases x with
 |normal=>let⟨S',c,h⟩:=h;exact Yr c f (e :=.normal) h
 |exit i=>let⟨S',c,h⟩:=h;exact Yr c f (e :=.exit i) (x :=.exit i) ⟨rfl,h⟩
 |ret=>let⟨S',c,h⟩:=h;exact Yr c f (e :=.ret) (x :=.ret) h
 |panic d=>let⟨v,S',c,h⟩:=h;exact Yr c f (e :=.pan v) (x :=.panic d) h
 |goto l=>exact h.elim
 |outgrown=>exact h.elim
theorem At.skip{a:Act}{w:World}(h:At n w0 σ0 κ S a w){d:Nat}(hd:O d n=E):At n w0 σ0 κ (S.put d (.tup [])) (a.put (G d) undef) w:=by
 let⟨L,b,Z,PV,⟨ν,vs,ids,hA⟩,hi,c⟩:=h;exact⟨_,b,Z,PV,⟨ν,vs,ids,hA.put (v:=undef) ⟨[],rfl,trivial⟩ trivial⟩,hi,c.put (by simpa[Da] using hd) _⟩
theorem At.lit{a:Act}{w:World}(h:At n w0 σ0 κ S a w){d:Nat}{q:Bool}(c:S.env d = .bool q):At n w0 σ0 κ (S.put d (.bool q)) a w:=by
 let⟨L,b,Z,PV,⟨ν,vs,ids,hA⟩,hi,f⟩:=h;have:S.put d (.bool q)=S:=by
  unfold St.put;have:upd S.env d (.bool q)=S.env:=by
   funext t;by_cases e:t=d
   ·subst e;rw[zp,c]
   ·rw[zq e]
  rw[this]
 rw[this];exact⟨L,b,Z,PV,⟨ν,vs,ids,hA⟩,hi,f⟩
theorem At.yield{a:Act}{w:World}(h:At n w0 σ0 κ S a w){ops:Array Oper}{j d:Nat}(g:(ops[j]?).bind (·.dst)=G d):(∀q,S.env d = .bool q->yielded ops a.tmps j=G q)/\(S.env d = .tup []->yielded ops a.tmps j=M):=by
 let⟨L,b,Z,PV,⟨ν,vs,ids,hA⟩,hi,i⟩:=h;have k:=congrFun (i.yielded ops) j;have f:=hA.env d;rw[k];unfold zfi;rw[g];refine⟨λq e=>?_,λe=>?_⟩
 ·rw[e] at f;show(match look L b d with | .bool c=>G c | _=>M)=G q;have:=f.bool_inv;grind
 ·rw[e] at f;let⟨us,m,l⟩:=f;grind
theorem zq0 (g:C.gl w0.w σ0) (c:xQ P n κ stp) {o:Oper}{next:St C->(XE C->St C->U3 ρ)->U3 ρ}{K:XE C->St C->U3 ρ}{r:ρ}
    (h:(stp o S ρ λout=>match out with
      | .go S'=>next S' K
      | .pan v S'=>K (.pan v) S')=G r) {a:Act} {w:World} (hA:At n w0 σ0 κ S a w) {Kw:Act->World->Prop} (k:∀S' a' w',next S' K=G r->At n w0 σ0 κ S' a' w'->Kw a' w') :
    o.wp P a w Kw (Zi n w0 σ0 κ K r):=by
 let⟨L,b,Z,PV,hA,hi,j⟩:=hA;rw[c.2] at h;let⟨out,l,h⟩:=gd h;refine c.1 w0 σ0 g o S L b Z PV hA out l a w hi j Kw _ ?_ ?_
 ·rintro S' rfl m Z' e a' w' d i f;exact k S' a' w' h ⟨m,b,Z',e,f,d,i⟩
 ·rintro v S' rfl u Z' e w' d f hp;exact⟨v,S',h,u,L,b,Z',e,rfl,hp,f,d,j⟩
theorem YW(f:C.gl w0.w σ0)(c:xQ P n κ stp){ops:Array Oper}:∀(l:List Oper) {S:St C}{K:XE C->St C->U3 ρ}{r:ρ},ZJ stp n ops l S K=G r->∀{a:Act}{w:World},At n w0 σ0 κ S a w->wpList P ops (Zi n w0 σ0 κ K r) l a w
 |[],S,K,r,h,a,w,hA=>⟨S,h,hA⟩
 |o::l,S,K,r,h,a,w,hA=>by
  unfold ZJ at h;split at h
  · rename_i m;refine wpList_plain m λKw g=>?_
    exact zq0 f c (next:=λS K=>ZJ stp n ops l S K) h hA λS' a' w' p k=>g _ _ (YW f c l p k)
  · rename_i j i m;split at h
    ·cases h
    · rename_i z x;have v:=hA.yield x;have skip:∀{S:St C},At n w0 σ0 κ S a w->ZJ.skip n o S K (λS K=>ZJ stp n ops l S K)=G r->∀(Kw:Act->World->Prop),(∀a w,wpList P ops (Zi n w0 σ0 κ K r) l a w->Kw a w)->Kw (a.put o.dst undef) w:=by
        intro S hA h Kw g;unfold ZJ.skip at h;split at h
        ·rename_i d hd;let⟨y,h⟩:=zb h;rw[hd];exact g _ _ (YW f c l h (hA.skip y))
        ·rename_i hd;rw[hd];exact g _ _ (YW f c l h hA)
      have go:∀{S:St C} {run:Bool},At n w0 σ0 κ S a w->ZJ.go stp n o l S run K (λS K=>ZJ stp n ops l S K)=G r->∀(Kw:Act->World->Prop),(∀a w,wpList P ops (Zi n w0 σ0 κ K r) l a w->Kw a w)->
          (if run=E then o.wp P a w Kw (Zi n w0 σ0 κ K r) else Kw (a.put o.dst undef) w):=by
       intro S run hA h Kw g;unfold ZJ.go at h;cases run with
       |true=>
        rw[jv rfl];exact zq0 f c (next:=λS K=>ZJ stp n ops l S K) h hA λS' a' w' p k=>g _ _ (YW f c l p k)
       |false=>exact skip hA h Kw g
      split at h
      · rename_i q e;have t:=v.1 q e;refine wpList_step λKw g=>?_
        have u:Y o (yielded ops a.tmps)=(q == i):=by simp[Y,m,t]
        rw[u];cases q with
        |true=>
         rw[jv rfl] at h;have:=go (run:=i) (hA.lit e) h Kw g;grind
        |false=>
         rw[jx je] at h;have:=go (run:= !i) (hA.lit e) h Kw g;grind
      · rename_i e;have s:=v.2 e;refine wpList_step λKw g=>?_
        have u:Y o (yielded ops a.tmps)=false:=by simp[Y,m,s]
        rw[u];exact skip hA h Kw g
      ·cases h
def Xb(P:Program)(n:Nat)(w0:Start)(σ0:FS)(κ:Kp)(c:Code)(run:(ρ:Type)->St C->(XE C->St C->U3 ρ)->U3 ρ):Prop:=
 ∀(ρ:Type) (S:St C) (K:XE C->St C->U3 ρ) (r:ρ),run ρ S K=G r->∀(a:Act) (w:World),At n w0 σ0 κ S a w->c.wp P (Zi n w0 σ0 κ K r) a w
theorem XU{c:Code}{i:Nat}{d:(ρ:Type)->St C->(XE C->St C->U3 ρ)->U3 ρ}(h:Xb P n w0 σ0 κ c d):Xb P n w0 σ0 κ c (λ_ S K=>ZD.wrap κ.m hs i S K d):=by
 intro ρ S K r f a w hA;unfold ZD.wrap at f;split at f
 ·rename_i outs _;let⟨y,k,g⟩:=gd f;exact wp_mono (h _ _ _ _ k _ _ hA) λe a w j=>j.out g
 ·exact h _ _ _ _ f _ _ hA
theorem yT(z:C.gl w0.w σ0)(t:xQ P n κ stp)(hdr:vO P n κ dr)(A:xx lp):∀(c:Code) (i:Nat),Xb P n w0 σ0 κ c (λρ S K=>ZD stp dr lp n κ.m hs c i ρ S K)
 | .skip,i=>by
  show Xb P n w0 σ0 κ .skip λ_ S K=>ZD.wrap κ.m hs i S K _
  exact XU λ_ _ _ _ p a w hA=>wp_skip ⟨_,p,hA⟩
 | .ret,i=>by
  show Xb P n w0 σ0 κ .ret λ_ S K=>ZD.wrap κ.m hs i S K _
  exact XU λ_ _ _ _ p a w hA=>wp_ret ⟨_,p,hA⟩
 | .exit j,i=>by
  show Xb P n w0 σ0 κ (.exit j) λ_ S K=>ZD.wrap κ.m hs i S K _
  exact XU λ_ _ _ _ p a w hA=>wp_exit ⟨_,p,hA⟩
 | .seq c d,i=>by
  show Xb P n w0 σ0 κ (.seq c d) λ_ S K=>ZD.wrap κ.m hs i S K _
  refine XU λρ S K r p a w hA=>?_
  refine wp_seq (wp_mono (yT z t hdr A c (i+1) _ _ _ _ p _ _ hA) ?_);intro e a w u;cases e with
  |normal=>let⟨S',s,k⟩:=u;exact yT z t hdr A d _ _ _ _ _ s _ _ k
  |exit j=>let⟨S',s,k⟩:=u;exact⟨S',s,k⟩
  |ret=>let⟨S',s,k⟩:=u;exact⟨S',s,k⟩
  |panic B=>let⟨v,S',s,k⟩:=u;exact⟨v,S',s,k⟩
  |goto l=>exact u.elim
  |outgrown=>exact u.elim
 | .cond x c d,i=>by
  show Xb P n w0 σ0 κ (.cond x c d) λ_ S K=>ZD.wrap κ.m hs i S K _
  refine XU λρ S K r p a w hA=>?_
  have p:(match S.op x with
   | .bool q=>if q=E then ZD stp dr lp n κ.m hs c (i+1) _ S K else ZD stp dr lp n κ.m hs d (i+1+xT c) _ S K
   |_=>M)=G r:=p
  split at p
  · rename_i q e;have T:a.eval x = .bool q:=by
      let⟨L,b,Z,PV,⟨ν,vs,ids,hA⟩,hi,hf⟩:=hA;have:=hA.op x;rw[e] at this;rw[hf.eval];exact this.bool_inv
    cases q with
    |true=>exact wp_cond_true T (yT z t hdr A c _ _ _ _ _ (by simpa using p) _ _ hA)
    |false=>exact wp_cond_false T (yT z t hdr A d _ _ _ _ _ (by simpa using p) _ _ hA)
  ·cases p
 | .block j c,i=>by
  show Xb P n w0 σ0 κ (.block j c) λ_ S K=>ZD.wrap κ.m hs i S K _
  refine XU λρ S K r p a w hA=>?_
  refine wp_block (wp_mono (yT z t hdr A c (i+1) _ _ _ _ p _ _ hA) ?_);intro e a w u;cases e with
  |normal=>let⟨S',s,k⟩:=u;exact⟨S',s,k⟩
  |exit V=>
   let⟨S',s,k⟩:=u;have s:(bif W V j then K .normal S' else K (.exit V) S')=G r:=s;show if V=j then _ else _
   cases e:W V j with
   |true=>rw[e] at s;rw[jv (ge e)];exact⟨S',s,k⟩
   |false=>rw[e] at s;rw[jx (λh=>by rw[h] at e;simp at e)];exact⟨S',s,k⟩
  |ret=>let⟨S',s,k⟩:=u;exact⟨S',s,k⟩
  |panic B=>let⟨v,S',s,k⟩:=u;exact⟨v,S',s,k⟩
  |goto l=>exact u.elim
  |outgrown=>exact u.elim
 | .loop c,i=>by
  intro ρ S K r p a w hA;unfold ZD at p;split at p
  case h_2=>cases p
  rename_i g outs _;let⟨x0,hx0,p⟩:=gd p;let⟨y,hy,ho⟩:=gd p;let⟨m0,R⟩:=A _ _ _ hy;have hA0:=hA.close hx0
  generalize hf:(λx=>ZD stp dr lp n κ.m hs c (i+1) _ (g.open x) λe S'=>match e with
        | .normal=>(g.close κ.m S').bind λx'=>G (Step.next x')
        |e=>(zU κ.m outs e S').bind λy=>G (Step.done y))=f at R
  classical
  let I:Nat->Act->World->Prop:=λm a w=>∃x,ya f m x=G y/\At n w0 σ0 κ (g.open x) a w
  refine wp_loop (λa w=>∃m,I m a w) (λa w=>if h:∃m,I m a w then(wZ h).choose else 0) ⟨m0,x0,R,hA0⟩ ?_;intro a1 w1 h1;have hfind:=(wZ h1).choose_spec.1;rw[dif_pos h1];generalize (wZ h1).choose=Q at hfind |-
  let⟨x,hit,hA1⟩:=hfind;cases Q with
  |zero=>simp[ya] at hit
  |succ Q=>
   simp only[ya] at hit;cases F:f x with
   |none=>grind
   |some st=>
    rw[F] at hit;rw[<- hf] at F;refine wp_mono (yT z t hdr A c (i+1) _ _ _ _ F _ _ hA1) ?_;intro e a2 w2 u;have dn:∀{e':XE C} {S':St C} {N:zh C outs},zU κ.m outs e' S'=G N->st = .done N->∀{x},zfq n w0 σ0 κ S' e' x a2 w2->Zi n w0 σ0 κ K r x a2 w2:=by
     intro e' S' N hc hst x hx;subst hst;simp only[jj,qb.injEq] at hit;subst hit;exact Yr hc ho hx
    cases e with
    |normal=>
     let⟨S',s,k⟩:=u;let⟨x',hx',s⟩:=gd s;cases s;have U:I Q a2 w2:=⟨x',hit,k.close hx'⟩;refine⟨⟨Q,U⟩,?_⟩;rw[dif_pos ⟨Q,U⟩];exact Nat.lt_succ_of_le ((wZ ⟨Q,U⟩).choose_spec.2 _ U)
    |exit j=>
     let⟨S',s,k⟩:=u;let⟨N,D,s⟩:=gd s;exact dn D (qb.inj s).symm (x :=.exit j) ⟨rfl,k⟩
    |ret=>
     let⟨S',s,k⟩:=u;let⟨N,D,s⟩:=gd s;exact dn D (qb.inj s).symm (x :=.ret) k
    |panic B=>
     let⟨v,S',s,k⟩:=u;let⟨N,D,s⟩:=gd s;exact dn D (qb.inj s).symm (x :=.panic B) k
    |goto l=>exact u.elim
    |outgrown=>exact u.elim
 | .region id ops H,i=>by
  show Xb P n w0 σ0 κ (.region id ops H) λ_ S K=>ZD.wrap κ.m hs i S K _
  exact XU λ_ _ _ _ p a w hA=>wp_region_list (YW z t _ p hA)
 | .region id ops E,i=>λρ S K r p a w hA=>by
  have p:(match hs i with
   |some (.draw ord [])=>dr ops ord ρ S K
   |some (.draw ord (o::outs))=>(dr ops ord _ S λe S'=>zU κ.m (o::outs) e S').bind λy=>zT (o::outs) y K
   |_=>M)=G r:=p
  split at p
  ·exact hdr _ _ z _ _ _ _ _ _ _ p _ _ hA
  ·let⟨y,hy,ho⟩:=gd p;exact wp_mono (hdr _ _ z _ _ _ _ _ _ _ hy _ _ hA) λe a w u=>u.out ho
  ·cases p
 | .rangeFunc ..,i=>λ_ _ _ _ p=>by simp[ZD] at p
 | .scope c,i=>by
  show Xb P n w0 σ0 κ (.scope c) λ_ S K=>ZD.wrap κ.m hs i S K _
  refine XU λρ S K r p a w hA=>?_
  refine wp_scope_straight (wp_mono (yT z t hdr A c (i+1) _ _ _ _ p _ _ hA) ?_);intro e a w u;cases e<;>first | exact u | exact u.elim
 | .label _,i=>by
  show Xb P n w0 σ0 κ (.label _) λ_ S K=>ZD.wrap κ.m hs i S K _
  exact XU λ_ _ _ _ p a w hA=>wp_label ⟨_,p,hA⟩
 | .goto _,i=>λ_ _ _ _ p=>by simp[ZD] at p
 | .refuse _,i=>λ_ _ _ _ p=>by simp[ZD] at p
end
end
section
variable [Dfr]
def zdg:List Value->Value
 |[v]=>v
 |vs =>.tuple vs.toArray
section
variable {κ:Kp}{C:Cod}{S:St C}{n:Nat}{w0:Start}{σ0 Z:FS}{P:Program}{ρ:Type}{L:List (Nat×Value)}{b:Nat->Value}{PV:List Priv}
def rvA(P:Program)(S:St C):ResultVar->U3 (AV C.D)
 | .tmp t=>G (S.env t)
 | .cell t T=>match S.env t with
  | .pc id 0=>(match S.heap id with
   |some (.cell cs)=>Yz P T cs 0
   |_=>M)
  |_=>M
def Wd(P:Program)(S:St C):List ResultVar->U3 (List (AV C.D))
 |[]=>G []
 |r::rs=>(rvA P S r).bind λA=>(Wd P S rs).bind λAs=>G (A::As)
theorem zxX {ν:Val}{vs:Nat->List Value}{ids:List Nat}(h:AbsL κ S ν vs ids L b Z PV) {rv:ResultVar}{A:AV C.D}(c:rvA P S rv=G A) {w:World}(B:Y7 Z PV w) {tmps:Array Value}(q:∀i,tmps.getD i undef=look L b i) :
    ∃v,(ZU tmps rv).run P w = .ok v w/\VR C Z ν v A/\A.ok λid=>(S.heap id).isSome=true:=by
 cases rv with
 |tmp t=>cases c;exact⟨_,by simp[ZU,q],h.env t,h.live t⟩
 |cell t T=>
  simp only[rvA] at c;split at c
  · rename_i id e;have hp:=h.env t;rw[e] at hp;have hp:look L b t = .pointer (G ((ν.adr id).add 0)):=hp;split at c
    · rename_i cs f;let⟨s,ti,y,hi,h1,h2,r⟩:=zaf c;let⟨m,z,_⟩:=h.at f;let⟨x,d,g⟩:=B.get z;have d:Z2 (ν.adr id).a (vs id) x:=d;have p:=h.cell id cs f;have k:(((vs id).drop 0).take ti.size).length=ti.size:=by rw[<- h1];simp[p.len]
      have:=vU (P:=P) (w:=w) ((ν.adr id).add 0) (((vs id).drop 0).take ti.size) y hi k.symm (λe=>jE) (λj u o=>by
       have l:j < ti.size:=by
        grind
       rw[Dh l,Ds] at o
       rw[Addr.add_add];simpa using d.cell g o)
      refine⟨_,?_,by rw[r];exact((p.drop 0).take _).val (agg:=Zh s),WQ c (h.livec id cs f)⟩;show(do loadVar T (<- asAddr (tmps.getD t undef)):Sem Value).run P w=_;rw[q t,hp];simpa[asAddr] using this
    ·cases c
  ·cases c
theorem zm9 {ν:Val}{vs:Nat->List Value}{ids:List Nat}(h:AbsL κ S ν vs ids L b Z PV) {w:World}(e:Y7 Z PV w) {tmps:Array Value}(f:∀i,tmps.getD i undef=look L b i):∀{a:List ResultVar}{As:List (AV C.D)},Wd P S a=G As->
    ∃us:List Value,us.length=a.length/\(∀(j:Nat) rv u,a[j]?=G rv->us[j]?=G u->(ZU tmps rv).run P w = .ok u w)/\VRs C Z ν us As/\AV.oks (λid=>(S.heap id).isSome=E) As
 |[],As,c=>by cases c;exact⟨[],rfl,λj rv u h=>by simp at h,trivial,trivial⟩
 |rv::a,As,c=>by
  let⟨A,hA,c⟩:=gd c;let⟨l,d,c⟩:=gd c;cases c;let⟨u,h1,h2,p⟩:=zxX h hA e f;let⟨us,m,t,g,k⟩:=zm9 h e f d;refine⟨u::us,by simp[m],λj o r q s=>?_,⟨h2,g⟩,⟨p,k⟩⟩;grind
theorem zmN {fn:Func}{a:List ResultVar}(f:fn.results.toList=a) (d:a.length<=4) {tmps:Array Value}{w:World}{us:List Value}(e:us.length=a.length) (h:∀(j:Nat) rv u,a[j]?=G rv->us[j]?=G u->(ZU tmps rv).run P w = .ok u w) :
    (results fn tmps).run P w = .ok (zdg us) w:=by
 have c:fn.results=a.toArray:=jE
 match a,us,e,d with
 |[],[],_,_=>exact zmF c
 |[r1],[u1],_,_=>exact zmB c (h 0 r1 u1 rfl rfl)
 |[r1,r2],[u1,u2],_,_=>exact zmC c (h 0 r1 u1 rfl rfl) (h 1 r2 u2 rfl rfl)
 |[r1,r2,r3],[u1,u2,u3],_,_=>exact zmD c (h 0 r1 u1 rfl rfl) (h 1 r2 u2 rfl rfl) (h 2 r3 u3 rfl rfl)
 |[r1,r2,r3,r4],[u1,u2,u3,u4],_,_=>exact zmE c (h 0 r1 u1 rfl rfl) (h 1 r2 u2 rfl rfl) (h 2 r3 u3 rfl rfl) (h 3 r4 u4 rfl rfl)
 |_::_::_::_::_::_,_,_,d=>simp at d
structure Spec(C:Cod) where
 f:FuncId
 nr:Nat
 ins:Sig
 outs:List (XK×Sig)
 F:ins.ty C->U3 (zh C outs)
def xy(As:List (AV C.D))(heap:Nat->U3 (Ent C)):St C:={env:=λi=>(As[i]?).getD .und,heap:=heap}
omit [Dfr] in
def vk(κ:Kp)(st:Start)(σ0:FS)(nr:Nat)(outs:List (XK×Sig))(r:zh C outs)(e:Ending)(w:World):Prop:=
 zT outs r λx S'=>match x,e with
  | .ret,.returned v=>∃a Z' c,v=zdg a/\a.length=nr/\Inv st σ0 Z' c w/\zC κ S' (yq 0 a) (λ_=>undef) Z' c
  | .pan A,.panicked d=>∃u Z' c,d=[{v:=u,recovered:=false}]/\Inv st σ0 Z' c w/\Xy C Z' u A/\zC κ S' [] (λ_=>undef) Z' c
  |_,_=>False
omit [Dfr] in
def Spec.OK (P : Program) (s : Spec C) : Prop := ∃ fn, P.funcs[s.f]? = G fn /\ (fn.name == "runtime.NumGoroutine") = H /\ fn.body.isNone = H /\
 ∀(x:s.ins.ty C) r,s.F x=G r->∀(κ:Kp) (st:Start) (Z:FS),C.gl st.w Z->∀(PV:List Priv) (ν:Val) (vs:Nat->List Value) (ids:List Nat) (args:List Value),κ.m=s.ins.es.length->args.length=s.ins.ts.length->AbsL κ (s.ins.open x) ν vs ids (yq 0 args) (λ_=>undef) Z PV->Pre st Z PV->Calls P s.f args.toArray st.w (vk κ st Z s.nr s.outs r)
def zxY(e e':XE C):Prop:=match e,e' with
 | .pan v,.pan a=>∃(s:Sh) (y:s.ty C),Sh.get (λ_=>M) s v=G y/\a=Sh.put (λk=>k) s y
 | .normal,.normal=>True
 | .ret,.ret=>True
 | .exit i,.exit j=>i=j
 |_,_=>False
theorem YL {m:Nat}{Q:XE C->St C->Prop}:∀{outs:List (XK×Sig)}{e:XE C}{r:zh C outs},zU m outs e S=G r->
    (∀(g:Sig) (x:g.ty C),g.close m S=G x->(∀e',zxY e e'->Q e' (g.open x)))->zT outs r Q
 |[],e,r,h,_=>by cases h
 |[o],e,r,h,k=>closeX_prop h k
 |o::o2::l,e,r,h,k=>by
  unfold zU at h;unfold zT;cases hi:XK.is o.1 e with
  |true=>
   rw[hi,Dy] at h;split at h
   ·rename_i z a;cases h;exact closeX_prop a k
   ·obtain⟨z,a,rfl⟩:=D9.1 h;exact YL a k
  |false=>
   rw[hi,U8] at h;obtain⟨z,a,rfl⟩:=D9.1 h;exact YL a k
where
 closeX_prop {m:Nat} {Q:XE C->St C->Prop} {o:XK×Sig} {e:XE C} {r:XK.ty C o.1 o.2} (h:zgy m o.1 o.2 e S=G r) (k:∀(g:Sig) (x:g.ty C),g.close m S=G x->(∀e',zxY e e'->Q e' (g.open x))):Yj o.1 o.2 r Q:=by
  let⟨kk,g⟩:=o;cases e with
  |normal=>cases kk<;>first | (cases h;done) | exact k g r h .normal trivial
  |exit i=>
   cases kk<;>first | (cases h;done) | skip
   let⟨hij,h2⟩:=zb h;obtain rfl:=ge hij;exact k g r h2 (.exit _) rfl
  |ret=>cases kk<;>first | (cases h;done) | exact k g r h .ret trivial
  |pan v=>
   cases kk<;>first | (cases h;done) | skip
   rename_i s;let⟨z,hz,h2⟩:=gd h;let⟨x',hx',h3⟩:=gd h2;cases h3;show Q (.pan (Sh.put (λk=>k) s (Sh.hd (s:=s) (l:=g.shs) (Sh.pk (s:=s) (l:=g.shs) z x')))) (g.open (Sh.tl (s:=s) (l:=g.shs) (Sh.pk (s:=s) (l:=g.shs) z x')));rw[show Sh.hd (s:=s) (l:=g.shs) (Sh.pk (s:=s) (l:=g.shs) z x')=z from Sh.hd_pk,show Sh.tl (s:=s) (l:=g.shs) (Sh.pk (s:=s) (l:=g.shs) z x')=x' from Sh.tl_pk];exact k g x' hx' _ ⟨s,z,hz,rfl⟩
def zsD(stp:Nat->yR C)(dr:Nat->YD C)(lp:ZW)(fn:Func)(nr:Nat)(ins:Sig)(outs:List (XK×Sig))(hs:Nat->U3 Hint)(x:ins.ty C):U3 (zh C outs):=
 match fn.body with
 |none=>M
 |some c=>chk (X ins.ts.length fn.ntmps && (W fn.results.toList.length nr && (X nr 4 && X ins.es.length 64)))
     (ZD (stp fn.ntmps) (dr fn.ntmps) lp fn.ntmps ins.es.length hs c 0 _ (ins.open x) λe S=>match e with
       | .ret=>(Wd P S fn.results.toList).bind λAs=>zU ins.es.length outs .ret (xy As S.heap)
       | .normal=>(Wd P S fn.results.toList).bind λAs=>zU ins.es.length outs .ret (xy As S.heap)
       | .pan v=>zU ins.es.length outs (.pan v) (xy [] S.heap)
       |_=>M)
end
end
section
section
variable {κ:Kp}{C:Cod}{S:St C}{n:Nat}{w0:Start}{σ0 Z:FS}{P:Program}{ρ:Type}{L:List (Nat×Value)}{b:Nat->Value}{PV:List Priv}
theorem yr{a:List Value}:∀i,look (yq 0 a) (λ_=>undef) i=(a[i]?).getD undef:=λi=>by rw[zaS];simp
theorem zbQ{ν:Val}{vs:Nat->List Value}{ids:List Nat}(h:AbsL κ S ν vs ids L b Z PV){us:List Value}{As:List (AV C.D)}(c:VRs C Z ν us As)(a:AV.oks (λid=>(S.heap id).isSome=E) As):AbsL κ (xy As S.heap) ν vs ids (yq 0 us) (λ_=>undef) Z PV:=by
 refine⟨⟨h.nd,h.dom,h.pv,h.cell,λt=>?_,h.one⟩,λt=>?_,h.livec,h.keep⟩
 ·rw[yr];show VR C Z ν _ ((As[t]?).getD .und);cases e:As[t]? with
  |none=>trivial
  |some A=>
   let⟨u,d,f⟩:=c.get t A e;grind
 ·show((As[t]?).getD .und).ok _;cases e:As[t]? with
  |none=>trivial
  |some A=>exact AV.oks_iff.1 a A (UT e)
theorem At.defers[Dfr]{κ:Kp}{C:Cod}{S:St C}{n:Nat}{w0:Start}{σ0:FS}{a:Act}{w:World}(h:At n w0 σ0 κ S a w):a.defers=Dfr.l:=by
 let⟨_,_,_,_,_,_,c⟩:=h;exact c.defers
theorem zna {κ:Kp}{C:Cod}{P:Program}{S':St C}{L:List (Nat×Value)}{b:Nat->Value}{Z':FS}{e:List Priv}{fn:Func}{nr:Nat}{outs:List (XK×Sig)}{r:zh C outs}{st:Start}{Z:FS}{tmps:Array Value}{w:World}(c4:fn.results.toList.length=nr) (c2:fn.results.toList.length<=4) (k:(Wd P S' fn.results.toList).bind (λAs=>zU κ.m outs .ret (xy As S'.heap))=G r)
    (a:zC κ S' L b Z' e) (f:Inv st Z Z' e w) (c:∀i,tmps.getD i undef=look L b i):∃v,(results fn tmps).run P w = .ok v w/\vk κ st Z nr outs r (.returned v) w:=by
 let⟨As,h,k⟩:=gd k;let⟨ν',j,d,a⟩:=a;let⟨us,t,A,o,x⟩:=zm9 a f.held c h;refine⟨_,zmN rfl c2 t A,?_⟩;have l:=zbQ a o x;refine YL k λg y u e' z=>?_
 cases e'<;>first | exact z.elim | skip
 let⟨p,q,s,h2⟩:=zdF u ⟨ν',j,d,l⟩ f;grind
theorem zdh [Dfr] {κ:Kp}{C:Cod}{P:Program}{S':St C}{fn:Func}{nr:Nat}{outs:List (XK×Sig)}{r:zh C outs}{st:Start}{Z:FS}{a:Act}{w:World}(c4:fn.results.toList.length=nr) (c2:fn.results.toList.length<=4) (f:(Wd P S' fn.results.toList).bind (λAs=>zU κ.m outs .ret (xy As S'.heap))=G r)
    (hA:At fn.ntmps st Z κ S' a w):∃v,(results fn a.tmps).run P w = .ok v w/\vk κ st Z nr outs r (.returned v) w:=by
 let⟨L,b,Z',g,c,e,d⟩:=hA;exact zna c4 c2 f c e d.get
theorem zws {stp : Nat -> yR C} {dr : Nat -> YD C} {lp : ZW} {f : FuncId} {fn : Func} {nr : Nat} {ins : Sig} {outs : List (XK × Sig)} {hs : Nat -> U3 Hint} {F : ins.ty C -> U3 (zh C outs)} (B : ∀ κ, xQ P fn.ntmps κ (stp fn.ntmps)) (hdr : ∀ κ, vO P fn.ntmps κ (dr fn.ntmps)) (Q : xx lp) (hf : P.funcs[f]? = G fn) (hnm : (fn.name == "runtime.NumGoroutine") = H) (R : fn.body.isNone = H) (hF : ∀ x r, F x = G r -> zsD (P := P) stp dr lp fn nr ins outs hs x = G r) :
    Spec.OK P ⟨f,nr,ins,outs,F⟩:=by
 refine⟨fn,hf,hnm,R,?_⟩;intro x r i κ st Z hg PV ν vs ids args U h hA A;have i:=hF x r i;unfold zsD at i;split at i
 ·cases i
 rename_i c hb;let⟨hc,i⟩:=zb i;simp only[gf] at hc;let⟨c1,c4,c2,c3⟩:=hc;have c4:=ge c4;rw[<- c4] at c2;have U:κ.m=ins.es.length:=U;rw[<- U] at i;have h:args.length=ins.ts.length:=h;have hn:args.length<=fn.ntmps:=by rw[h];exact Dg c1
 have hat:At fn.ntmps st Z κ (ins.open x) {tmps:=args.toArray++Array.replicate (fn.ntmps - args.toArray.size) undef,defers:=[]} st.w:=⟨_,_,Z,PV,⟨ν,vs,ids,hA⟩,A.inv,vW hn⟩;refine calls_of_wp hf hb (wp_mono (yT hg (B κ) (hdr κ) Q c 0 _ _ _ _ i _ _ hat) ?_);have p:∀{S':St C} {a:Act} {w:World},(Wd P S' fn.results.toList).bind (λAs=>zU κ.m outs .ret (xy As S'.heap))=G r->At fn.ntmps st Z κ S' a w->a.defers=[]/\∃v,(results fn a.tmps).run P w = .ok v w/\vk κ st Z nr outs r (.returned v) w:=λk d=>⟨d.defers,zdh c4 (Dg c2) k d⟩
 intro e a w q;cases e with
 |normal=>let⟨S',k,d⟩:=q;exact p k d
 |ret=>let⟨S',k,d⟩:=q;exact p k d
 |exit j=>let⟨S',k,d⟩:=q;cases k
 |panic D=>
  let⟨v,S',k,d⟩:=q;obtain⟨u,L,b,Z',V,rfl,hp,⟨ν',t,o,d⟩,hi',hf'⟩:=d;refine⟨hf'.defers,?_⟩;have T:AbsL κ (xy [] S'.heap) ν' t o [] (λ_=>undef) Z' V:=zbQ (us:=[]) d trivial trivial;refine YL k λg y hy e' he=>?_
  cases e'<;>first | exact he.elim | skip
  obtain⟨s,z,hz,rfl⟩:=he;let⟨I,K,hl,N,h2⟩:=Wc hy ⟨ν',t,o,T⟩ hi';exact⟨u,I,K,rfl,N,hp.again hl hz,h2⟩
 |goto l=>exact q.elim
 |outgrown=>exact q.elim
end
variable [Dfr]
mutual
def AV.ren{D:Nat->Type}(ρ:Nat->Nat):AV D->AV D
 | .row j =>.row (ρ j)
 | .pc j o =>.pc (ρ j) o
 | .pr j T i o =>.pr (ρ j) T i o
 | .nx j T i x =>.nx (ρ j) T i x
 | .agg cs =>.agg (AV.rens ρ cs)
 | .tup cs =>.tup (AV.rens ρ cs)
 | .clo f cs =>.clo f (AV.rens ρ cs)
 | .ifc t A =>.ifc t (AV.ren ρ A)
 |A=>A
def AV.rens{D:Nat->Type}(ρ:Nat->Nat):List (AV D)->List (AV D)
 |[]=>[]
 |A::As=>AV.ren ρ A::AV.rens ρ As
end
mutual
def AV.kill{D:Nat->Type}(p:Nat->Bool):AV D->AV D
 | .row j=>bif p j then .und else .row j
 | .pc j o=>bif p j then .und else .pc j o
 | .pr j T i o=>bif p j then .und else .pr j T i o
 | .nx j T i x=>bif p j then .und else .nx j T i x
 | .agg cs =>.agg (AV.kills p cs)
 | .tup cs =>.tup (AV.kills p cs)
 | .clo f cs =>.clo f (AV.kills p cs)
 | .ifc t A =>.ifc t (AV.kill p A)
 |A=>A
def AV.kills{D:Nat->Type}(p:Nat->Bool):List (AV D)->List (AV D)
 |[]=>[]
 |A::As=>AV.kill p A::AV.kills p As
end
section
variable {κ:Kp}{C:Cod}{S:St C}{n:Nat}{w0:Start}{σ0 Z:FS}{P:Program}{L:List (Nat×Value)}{b:Nat->Value}{PV:List Priv}{ν ν':Val}{vs:Nat->List Value}{ids:List Nat}
omit [Dfr] in
mutual
theorem VR.ren{ρ:Nat->Nat}{p:Nat->Prop}(h:∀k,p k->ν'.hdr (ρ k)=ν.hdr k/\ν'.adr (ρ k)=ν.adr k):∀{A:AV C.D}{v:Value},A.ok p->VR C Z ν v A->VR C Z ν' v (AV.ren ρ A)
 | .row _,v,k,r=>by show v=ν'.hdr _;rw[(h _ k).1];exact r
 | .pc _ _,v,k,r=>by show v = .pointer (G ((ν'.adr _).add _));rw[(h _ k).2];exact r
 | .pr _ _ _ _,v,k,r=>by show v = .pointer (G (zi (ν'.hdr _) _));rw[(h _ k).1];exact r
 | .nx _ _ _ _,v,k,r=>by refine⟨?_,r.2⟩;rw[(h _ k).2];exact r.1
 | .agg cs,_,k,⟨vs,e,r⟩=>⟨vs,e,VRs.ren h k r⟩
 | .tup cs,_,k,⟨vs,e,r⟩=>⟨vs,e,VRs.ren h k r⟩
 | .clo _ cs,_,k,⟨vs,e,r⟩=>⟨vs,e,VRs.ren h k r⟩
 | .ifc _ A,_,k,⟨u,e,r⟩=>⟨u,e,VR.ren h k r⟩
 | .int _ _,_,_,r=>r
 | .bool _,_,_,r=>r
 | .str _,_,_,r=>r
 | .sl _ _ _,_,_,r=>r
 | .pz _ _ _,_,_,r=>r
 | .pnil,_,_,r=>r
 | .nils,_,_,r=>r
 | .nilf,_,_,r=>r
 | .nili,_,_,r=>r
 | .und,_,_,_=>trivial
theorem VRs.ren{ρ:Nat->Nat}{p:Nat->Prop}(h:∀k,p k->ν'.hdr (ρ k)=ν.hdr k/\ν'.adr (ρ k)=ν.adr k):∀{cs:List (AV C.D)}{vs:List Value},AV.oks p cs->VRs C Z ν vs cs->VRs C Z ν' vs (AV.rens ρ cs)
 |[],[],_,_=>trivial
 |A::As,v::vs,⟨k,l⟩,⟨r,s⟩=>⟨VR.ren h k r,VRs.ren h l s⟩
 |[],_::_,_,r=>r.elim
 |_::_,[],_,r=>r.elim
end
omit [Dfr] in
mutual
theorem AV.ok_ren{D:Nat->Type}{p q:Nat->Prop}{ρ:Nat->Nat}(h:∀k,p k->q (ρ k)):∀{A:AV D},A.ok p->(AV.ren ρ A).ok q
 | .row _,k=>h _ k
 | .pc _ _,k=>h _ k
 | .pr _ _ _ _,k=>h _ k
 | .nx _ _ _ _,k=>h _ k
 | .agg cs,k=>AV.oks_ren h (A:=cs) k
 | .tup cs,k=>AV.oks_ren h (A:=cs) k
 | .clo _ cs,k=>AV.oks_ren h (A:=cs) k
 | .ifc _ A,k=>AV.ok_ren h (A:=A) k
 | .int _ _,_=>trivial
 | .bool _,_=>trivial
 | .str _,_=>trivial
 | .sl _ _ _,_=>trivial
 | .pz _ _ _,_=>trivial
 | .pnil,_=>trivial
 | .nils,_=>trivial
 | .nilf,_=>trivial
 | .nili,_=>trivial
 | .und,_=>trivial
theorem AV.oks_ren{D:Nat->Type}{p q:Nat->Prop}{ρ:Nat->Nat}(h:∀k,p k->q (ρ k)):∀{A:List (AV D)},AV.oks p A->AV.oks q (AV.rens ρ A)
 |[],_=>trivial
 |A::As,⟨k,l⟩=>⟨AV.ok_ren h k,AV.oks_ren h l⟩
end
omit [Dfr] in
mutual
theorem VR.kill{p:Nat->Bool}:∀{A:AV C.D}{v:Value},VR C Z ν v A->VR C Z ν v (AV.kill p A)
 | .row j,v,r=>by unfold AV.kill;cases p j<;>first | exact r | trivial
 | .pc j _,v,r=>by unfold AV.kill;cases p j<;>first | exact r | trivial
 | .pr j _ _ _,v,r=>by unfold AV.kill;cases p j<;>first | exact r | trivial
 | .nx j _ _ _,v,r=>by unfold AV.kill;cases p j<;>first | exact r | trivial
 | .agg cs,_,⟨vs,e,r⟩=>⟨vs,e,VRs.kill r⟩
 | .tup cs,_,⟨vs,e,r⟩=>⟨vs,e,VRs.kill r⟩
 | .clo _ cs,_,⟨vs,e,r⟩=>⟨vs,e,VRs.kill r⟩
 | .ifc _ A,_,⟨u,e,r⟩=>⟨u,e,VR.kill r⟩
 | .int _ _,_,r=>r
 | .bool _,_,r=>r
 | .str _,_,r=>r
 | .sl _ _ _,_,r=>r
 | .pz _ _ _,_,r=>r
 | .pnil,_,r=>r
 | .nils,_,r=>r
 | .nilf,_,r=>r
 | .nili,_,r=>r
 | .und,_,_=>trivial
theorem VRs.kill{p:Nat->Bool}:∀{cs:List (AV C.D)}{vs:List Value},VRs C Z ν vs cs->VRs C Z ν vs (AV.kills p cs)
 |[],[],_=>trivial
 |A::As,v::vs,⟨r,s⟩=>⟨VR.kill r,VRs.kill s⟩
 |[],_::_,r=>r.elim
 |_::_,[],r=>r.elim
end
omit [Dfr] in
mutual
theorem AV.ok_kill{D:Nat->Type}{q:Nat->Prop}{p:Nat->Bool}:∀{A:AV D},A.ok q->(AV.kill p A).ok λj=>q j/\p j=H
 | .row j,k=>by unfold AV.kill;cases e:p j<;>first | exact⟨k,e⟩ | trivial
 | .pc j _,k=>by unfold AV.kill;cases e:p j<;>first | exact⟨k,e⟩ | trivial
 | .pr j _ _ _,k=>by unfold AV.kill;cases e:p j<;>first | exact⟨k,e⟩ | trivial
 | .nx j _ _ _,k=>by unfold AV.kill;cases e:p j<;>first | exact⟨k,e⟩ | trivial
 | .agg cs,k=>AV.oks_kill (A:=cs) k
 | .tup cs,k=>AV.oks_kill (A:=cs) k
 | .clo _ cs,k=>AV.oks_kill (A:=cs) k
 | .ifc _ A,k=>AV.ok_kill (A:=A) k
 | .int _ _,_=>trivial
 | .bool _,_=>trivial
 | .str _,_=>trivial
 | .sl _ _ _,_=>trivial
 | .pz _ _ _,_=>trivial
 | .pnil,_=>trivial
 | .nils,_=>trivial
 | .nilf,_=>trivial
 | .nili,_=>trivial
 | .und,_=>trivial
theorem AV.oks_kill{D:Nat->Type}{q:Nat->Prop}{p:Nat->Bool}:∀{A:List (AV D)},AV.oks q A->AV.oks (λj=>q j/\p j=H) (AV.kills p A)
 |[],_=>trivial
 |A::As,⟨k,l⟩=>⟨AV.ok_kill k,AV.oks_kill l⟩
end
theorem zwt{f:Nat->Priv}{l:List Nat}(e:l.Nodup){ids:List Nat}(hs:∀j∈l,j∈ids){g:zc}(k:Sep Z (ids.map f) g):Sep Z (l.map f) g:=by
 classical
 have c:∀j,j∈l->∃m:Nat,ids[m]?=G j:=λj a=>qD.1 (hs j a)
 let d:Nat->Nat:=λj=>if a:j∈l then(c j a).choose else 0
 have hp:∀j (a:j∈l),ids[d j]?=G j:=λj a=>by
  grind
 refine k.select (l.map d) ?_ ?_
 ·rw[UD,qs];refine qy ?_ (UD.1 e);grind
 ·rw[qc,qc];refine D0 λj a=>?_
  grind
theorem AbsL.lend (h:AbsL κ S ν vs ids L b Z PV) {g:Sig}{m:Nat}{bl:Bl}{x:g.ty C}{T:St C}{L':List (Nat×Value)}{b':Nat->Value}(hT:T.heap=S.heap) (henv:∀t,VR C Z ν (look L' b' t) (T.env t)) (hg:YZ g m T bl=G x) (hl:g.es.length<=64) :
    ∃ν' vs' ids',AbsL ⟨g.es.length,hl,ν'⟩ (g.open x) ν' vs' ids' L' b' Z (ids'.map λk=>zK C ν' vs' k ((g.open x).heap k))/\
     (∀k id,Bl.fn bl k=G id->ν'.hdr k=ν.hdr id/\ν'.adr k=ν.adr id)/\(∀k,k∈ids'↔(Bl.fn bl k).isSome=E)/\(∀k id,Bl.fn bl k=G id->(S.heap id).isSome=E)/\
     ∀gg,Sep Z PV gg->Sep Z ((ids'.map λk=>zK C ν' vs' k ((g.open x).heap k))++((ids.filter λj=> !yf j bl).map λj=>zK C ν vs j (S.heap j))) gg:=by
 let⟨hb,hg⟩:=zb hg;have hb:=((gf _ _).mp hb).1;have hB:=BdOK.of hb
 let B:=Bl.fn bl
 let ν':Val:={hdr:=λk=>match B k with | some id=>ν.hdr id | none =>.slice M 0 0,adr:=λk=>match B k with | some id=>ν.adr id | none=>default}
 let vs':Nat->List Value:=λk=>match B k with | some id=>vs id | none=>[]
 have hν:Rn B (λk=>k) ν ν':=⟨λk id e=>by simp[ν',e],h.one⟩;have hsplit:=zcc g.ts (g.es.map ESh.sh) (avs:=g.ts.map λt=>T.env t.1) (by simp) hg;have hsl:(qo g.es.length).map (vH T bl)=(qk 0 g.es.length).map λk=>match B k with | some id=>zjd (T.heap id) | none =>.und:=by
  rw[<- qB];rfl
 rw[hsl] at hsplit;have hcell:∀id cs,T.heap id=G (.cell cs)->VRs C Z ν (vs id) cs:=λid cs e=>h.cell id cs (by grind)
 have hheap:=λk id (e:B k=G id)=>za3 (N:=g.es.length) hν (λi j _ _ e=>e) hcell g.es 0 (by omega) hsplit (λk e he=>by rw[UZ];exact hB.gone k e he) k id e (UL _) (by have:=hB.lt k id e;omega)
 have hnone:∀k,B k=M->(g.open x).heap k=none:=λk e=>by
  refine vR g.es 0 λj e' he hj=>?_
  have hj:k=j:=by simpa using hj
  subst hj;exact(hB.gone k e' he).2 e
 have hsome:∀k,((g.open x).heap k).isSome=E↔(B k).isSome=true:=λk=>by
  cases e:B k with
  |none=>grind
  |some id=>
   rcases hheap k id e with⟨cs,cs',_,h2,_⟩ | ⟨T,s,_,h2⟩ | ⟨q,T,b2,s,_,h2⟩ | ⟨T,s,g1,g2,_,h2,_⟩
   all_goals rw[show(g.open x).heap k=_ from h2];simp
 have henv':=zcd (L:=L') (b:=b') (Z:=Z) hν (g.es.map ESh.sh) henv g.ts hg
 let ids':=(qo g.es.length).filter λk=>(B k).isSome
 have hmem:∀k,k∈ids'↔(B k).isSome=true:=λk=>by
  simp only[ids',D7,D8];refine⟨λh=>h.2,λh=>⟨?_,h⟩⟩;let⟨id,e⟩:=UN.1 h;exact hB.lt k id e
 have hnd:ids'.Nodup:=qA qx List.nodup_range;have hin:∀k id,B k=G id->(S.heap id).isSome=E/\zK C ν' vs' k ((g.open x).heap k)=zK C ν vs id (S.heap id):=λk id e=>by
  rcases hheap k id e with⟨cs,cs',h1,h2,_⟩ | ⟨T',s,h1,h2⟩ | ⟨q,T',b2,s,h1,h2⟩ | ⟨T',s,g1,g2,h1,h2,h3⟩
  ·rw[hT] at h1;refine⟨by rw[h1];rfl,?_⟩;rw[show(g.open x).heap k=_ from h2,h1];simp[zK,ν',vs',e]
  ·rw[hT] at h1;refine⟨by rw[h1];rfl,?_⟩;rw[show(g.open x).heap k=_ from h2,h1];simp[zK,ν',e]
  ·rw[hT] at h1;refine⟨by rw[h1];rfl,?_⟩;rw[show(g.open x).heap k=_ from h2,h1];simp[zK,ν',e]
  ·rw[hT] at h1;refine⟨by rw[h1];rfl,?_⟩;rw[show(g.open x).heap k=_ from h2,h1];simp only[zK,ν',e];rw[zc7 λj hj=>⟨(h3 j hj).symm,rfl⟩]
 refine⟨ν',vs',ids',⟨⟨hnd,λk=>by grind,rfl,λk cs hk=>?_,λt=>(henv' t).1,λi=>?_⟩,λt=>?_,λk cs hk=>?_,λk hk hs=>⟨rfl,rfl,λ_=>rfl⟩⟩,λk id e=>?_,hmem,λk id e=>(hin k id e).1,λgg ks=>?_⟩
 · let⟨id,e⟩:=UN.1 ((hsome k).1 (by rw[hk];rfl));rcases hheap k id e with⟨c,c',h1,h2,h3,_⟩ | ⟨T,s,h1,h2⟩ | ⟨q,T,b2,s,h1,h2⟩ | ⟨T,s,g1,g2,h1,h2,_⟩
   ·rw[show(g.open x).heap k=_ from h2] at hk;grind
   ·rw[show(g.open x).heap k=_ from h2] at hk;cases hk
   ·rw[show(g.open x).heap k=_ from h2] at hk;cases hk
   ·rw[show(g.open x).heap k=_ from h2] at hk;cases hk
 · simp only[ν'];cases B i with
   |none=>rfl
   |some id=>exact h.one id
 ·refine AV.ok_mono (λj hj=>?_) (henv' t).2;let⟨k2,id2,e2,e3⟩:=hj;grind
 · let⟨id,e⟩:=UN.1 ((hsome k).1 (by rw[hk];rfl));rcases hheap k id e with⟨c,c',h1,h2,_,h4⟩ | ⟨T,s,h1,h2⟩ | ⟨q,T,b2,s,h1,h2⟩ | ⟨T,s,g1,g2,h1,h2,_⟩
   ·rw[show(g.open x).heap k=_ from h2] at hk;cases hk;refine AV.oks_mono (λj hj=>?_) h4;let⟨k2,id2,e2,e3⟩:=hj;grind
   ·rw[show(g.open x).heap k=_ from h2] at hk;cases hk
   ·rw[show(g.open x).heap k=_ from h2] at hk;cases hk
   ·rw[show(g.open x).heap k=_ from h2] at hk;cases hk
 ·grind
 · rw[h.pv] at ks
   let imgs:List Nat:=ids'.map λk=>(B k).getD 0
   have himg:∀k,k∈ids'->B k=G ((B k).getD 0):=λk hk=>by
    let⟨id,e⟩:=UN.1 ((hmem k).1 hk);rw[e];rfl
   have e1:(ids'.map λk=>zK C ν' vs' k ((g.open x).heap k))=imgs.map λj=>zK C ν vs j (S.heap j):=by
    rw[qc];exact D0 λk hk=>(hin k _ (himg k hk)).2
   rw[e1,<- DA];refine zwt ?_ ?_ ks
   · refine qC.2 ⟨?_,qA qx h.nd,?_⟩
     ·show(ids'.map λk=>(B k).getD 0).Nodup;rw[UD,qs];refine qy ?_ (UD.1 hnd);intro i j hi hj hne e;have h1:=himg i hi;have h2:=himg j hj;rw[e] at h1;exact hne (hB.inj i j _ h1 h2)
     ·intro i hi j hj e;subst e;obtain⟨k,hk,rfl⟩:=D4.1 hi;have:=(D7.1 hj).2;rw[Xj (himg k hk)] at this;cases this
   · intro j hj;rcases U5.1 hj with hj | hj
     ·obtain⟨k,hk,rfl⟩:=D4.1 hj;exact(h.dom _).2 (hin k _ (himg k hk)).1
     ·exact(D7.1 hj).1
end
end
section
variable [Dfr]
def zD(id:Nat):List Nat->Bool
 |[]=>H
 |a::r=>W id a || zD id r
theorem zR{id:Nat}:∀{l:List Nat},zD id l=E↔id∈l
 |[]=>by simp[zD]
 |a::r=>by
  simp only[zD,UO,zR (l:=r),Db];constructor
  ·rintro(h | h)
   ·exact .inl (ge h)
   grind
  ·rintro(rfl | h)
   ·left;simp
   grind
theorem zfr{id:Nat}:∀{bl:Bl},yf id bl=E->∃k,Bl.fn bl k=G id
 |[],h=>by cases h
 |none::r,h=>by
  let⟨k,e⟩:=zfr (bl:=r) h;exact⟨k+1,by simpa[Bl.fn] using e⟩
 |some a::r,h=>by
  simp only[yf,UO] at h;rcases h with h | h
  ·exact⟨0,by simp[Bl.fn,ge h]⟩
  ·let⟨k,e⟩:=zfr (bl:=r) h;exact⟨k+1,by simpa[Bl.fn] using e⟩
def YH:List ESh->Bl->List Nat
 |e::es,b::bl=>(match b with
  |some id=>bif e.isGone then [id] else []
  |none=>[])++YH es bl
 |_,_=>[]
theorem zaj{id:Nat}:∀{es:List ESh}{bl:Bl},id∈YH es bl↔∃(k:Nat) (e:ESh),es[k]?=G e/\e.isGone=E/\Bl.fn bl k=G id
 |[],bl=>by simp[YH]
 |e::es,[]=>by simp[YH,Bl.fn]
 |e::es,b::bl=>by
  rw[show YH (e::es) (b::bl)=(match b with | some id=>bif e.isGone then [id] else [] | none=>[])++YH es bl from rfl,U5,zaj (es:=es) (bl:=bl)];constructor
  ·rintro(h | ⟨k,e',h1,h2,c⟩)
   ·cases b with
    |none=>cases h
    |some a=>
     cases d:e.isGone with
     |false=>grind
     |true=>rw[d] at h;simp at h;exact⟨0,e,rfl,d,by simp[Bl.fn,h]⟩
   ·exact⟨k+1,e',by simpa using h1,h2,by simpa[Bl.fn] using c⟩
  ·rintro⟨k,e',h1,h2,c⟩;cases k with
   |zero=>
    left;simp at h1;subst h1;have:b=G id:=by simpa[Bl.fn] using c
    grind
   |succ k=>exact .inr ⟨k,e',by simpa using h1,h2,by simpa[Bl.fn] using c⟩
section
variable {κ κs:Kp}{C:Cod}{S Sr:St C}{n:Nat}{w0:Start}{σ0 Z Z':FS}{P:Program}{L Lr:List (Nat×Value)}{b br:Nat->Value}{PV A':List Priv}{ν νr:Val}{vs vsr:Nat->List Value}{ids idsr:List Nat}
def Ent.ren(ρ:Nat->Nat):Ent C->Ent C
 | .cell cs =>.cell (AV.rens ρ cs)
 | .row T s =>.row T s
 | .obj k T b s =>.obj k T b s
 | .orow T s g =>.orow T s g
def Own.ufx(b:Bool):Own->Own
 | .fix=>bif b then .fix else .all
 |g=>g
theorem Own.ufx_fl{b:Bool}{g:Own}(j:Nat):(g.ufx b).fl j=g.fl j:=by
 cases g<;>cases b<;>rfl
def Ent.mv(ρ:Nat->Nat)(b:Bool):Ent C->Ent C
 | .cell cs =>.cell (AV.rens ρ cs)
 | .row T s =>.row T s
 | .obj k T b s =>.obj k T b s
 | .orow T s g =>.orow T s (g.ufx b)
theorem zwu{ρ:Nat->Nat}{b:Bool}{o:U3 (Ent C)}(h:Z0 (o.map (Ent.mv ρ b))=E):Z0 o=E/\b=true:=by
 cases o with
 |none=>cases h
 |some e=>
  cases e with
  |orow T s g=>cases g<;>cases b<;>first | exact⟨rfl,rfl⟩ | cases h
  |cell=>cases h
  |row=>cases h
  |obj=>cases h
def kpL(Sr:St C):Bl->Nat->List Nat
 |[],_=>[]
 |b::bl,k=>(match b with
  |some id=>bif Z0 (Sr.heap k) then [id] else []
  |none=>[])++kpL Sr bl (k+1)
theorem znb{id:Nat}:∀{bl:Bl}{k0:Nat},id∈kpL Sr bl k0->∃k,Bl.fn bl k=G id/\Z0 (Sr.heap (k0+k))=E
 |[],_,h=>by cases h
 |b::bl,k0,h=>by
  rcases U5.1 h with h | h
  ·cases b with
   |none=>cases h
   |some a=>
    cases c:Z0 (Sr.heap k0) with
    |false=>grind
    |true=>
     rw[c] at h;have:id=a:=by simpa using h
     subst this;exact⟨0,rfl,c⟩
  ·let⟨k,h1,h2⟩:=znb (bl:=bl) h;exact⟨k+1,by simpa[Bl.fn] using h1,jE⟩
def Ent.kill(p:Nat->Bool):Ent C->Ent C
 | .cell cs =>.cell (AV.kills p cs)
 | .row T s =>.row T s
 | .obj k T b s =>.obj k T b s
 | .orow T s g =>.orow T s g
def xz(d:Nat)(bl:Bl)(k:Nat):Nat:=match Bl.fn bl k with
 |some id=>id
 |none=>nid d k
def wR(ρ:Nat->Nat)(fx:Nat->Bool)(Hr:Nat->U3 (Ent C)):List ESh->Nat->(Nat->U3 (Ent C))->Nat->U3 (Ent C)
 |[],_,base=>base
 |e::es,k,base=>λi=>bif !e.isGone && W i (ρ k) then(Hr k).map (Ent.mv ρ (fx (ρ k))) else wR ρ fx Hr es (k+1) base i
theorem vP{ρ:Nat->Nat}{fx:Nat->Bool}{Hr base:Nat->U3 (Ent C)}{i:Nat}:∀{es:List ESh}{k0:Nat},(∀k e,es[k]?=G e->e.isGone=H->i≠ρ (k0+k))->wR ρ fx Hr es k0 base i=base i
 |[],_,_=>rfl
 |e::es,k0,h=>by
  unfold wR;have c:=vP (ρ:=ρ) (fx:=fx) (Hr:=Hr) (base:=base) (i:=i) (es:=es) (k0:=k0+1) λk e' d a=>by
   have:=h (k+1) e' (by simpa using d) a;grind
  cases a:e.isGone with
  |true=>simpa using c
  |false=>
   cases hb:W i (ρ k0) with
   |true=>exact absurd (ge hb) (h 0 e rfl a)
   |false=>simpa using c
theorem zdi{ρ:Nat->Nat}{fx:Nat->Bool}{Hr base:Nat->U3 (Ent C)}:∀{es:List ESh}{k0:Nat},(∀i j ei ej,es[i]?=G ei->es[j]?=G ej->ei.isGone=H->ej.isGone=H->ρ (k0+i)=ρ (k0+j)->i=j)->∀{k:Nat}{e:ESh},es[k]?=G e->e.isGone=H->wR ρ fx Hr es k0 base (ρ (k0+k))=(Hr (k0+k)).map (Ent.mv ρ (fx (ρ (k0+k))))
 |[],_,_,k,e,h,_=>by simp at h
 |e0::es,k0,hinj,k,e,h,hg=>by
  unfold wR;cases k with
  |zero=>
   simp at h;subst h;simp[hg]
  |succ k=>
   have d:es[k]?=G e:=by simpa using h
   have c:(!e0.isGone && W (ρ (k0+(k+1))) (ρ k0))=false:=by
    cases a:e0.isGone with
    |true=>rfl
    |false=>
     cases hb:W (ρ (k0+(k+1))) (ρ k0) with
     |false=>rfl
     |true=>
      have:=hinj (k+1) 0 e e0 h rfl hg a (ge hb);omega
   rw[c,U8]
   have:=zdi (ρ:=ρ) (fx:=fx) (Hr:=Hr) (base:=base) (es:=es) (k0:=k0+1) (λi j ei ej hi f l g e=>by
    have:=hinj (i+1) (j+1) ei ej (by simpa using hi) (by simpa using f) l g jE
    omega) d hg
   grind
def Zz(S Sr:St C)(d:Nat)(bl:Bl)(es:List ESh):St C:=
 let gone:=λi=>zD i (YH es bl)
 let lent:=λi=>yf i bl && !zD i (kpL Sr bl 0)
 {env:=λt=>AV.kill gone (AV.knx lent (S.env t)),heap:=wR (xz d bl) (λi=>Z0 (S.heap i)) Sr.heap es 0 λi=>bif gone i then M else(S.heap i).map λe=>Ent.kill gone (Ent.knx lent e)}
theorem zwv{d i j:Nat}(h:nid d i=nid d j):i=j:=by unfold nid at h;omega
theorem AbsL.merge (h:AbsL κ S ν vs ids L b Z PV) (R:AbsL κs Sr νr vsr idsr Lr br Z' A') (hle:Z.le Z') {bl:Bl}{d:Nat}{es:List ESh}
    (hinj:∀i j id,Bl.fn bl i=G id->Bl.fn bl j=G id->i=j) (hlt:∀k id,Bl.fn bl k=G id->k < κs.m) (hin:∀k id,Bl.fn bl k=G id->(S.heap id).isSome=E)
    (hkeep:∀k id,Bl.fn bl k=G id->κs.ν0.hdr k=ν.hdr id/\κs.ν0.adr k=ν.adr id)
    (D:∀k,(Sr.heap k).isSome=E↔∃e,es[k]?=G e/\e.isGone=H) (hfr:∀k,(Sr.heap k).isSome=E->Bl.fn bl k=M->S.heap (nid d k)=M) (hlen:κs.m<=es.length) :
    ∃ν2 u ids2,AbsL κ (Zz S Sr d bl es) ν2 u ids2 L b Z' (A'++((ids.filter λj=> !yf j bl).map λj=>zK C ν vs j (S.heap j)))/\
     (∀k,(Sr.heap k).isSome=E->ν2.hdr (xz d bl k)=νr.hdr k/\ν2.adr (xz d bl k)=νr.adr k)/\∀k,(Sr.heap k).isSome=E->((Zz S Sr d bl es).heap (xz d bl k)).isSome=true:=by
 classical
 let ρ:=xz d bl
 let gone:Nat->Bool:=λi=>zD i (YH es bl)
 let lent:Nat->Bool:=λi=>yf i bl && !zD i (kpL Sr bl 0)
 let kk:Ent C->Ent C:=λe=>Ent.kill gone (Ent.knx lent e)
 have U:∀k id,Bl.fn bl k=G id->ρ k=id:=λk id e=>by simp[ρ,xz,e]
 have hrn:∀k,Bl.fn bl k=M->ρ k=nid d k:=λk e=>by simp[ρ,xz,e]
 have hρ:∀i j,(Sr.heap i).isSome=E->(Sr.heap j).isSome=E->ρ i=ρ j->i=j:=λi j hi V e=>by
  cases ei:Bl.fn bl i with
  |some a=>
   rw[U i a ei] at e;cases ej:Bl.fn bl j with
   |some c=>grind
   |none=>
    grind
  |none=>
   rw[hrn i ei] at e;cases ej:Bl.fn bl j with
   |some c=>
    grind
   |none=>rw[hrn j ej] at e;exact zwv e
 let nm:Nat->U3 Nat:=λi=>if r:∃k,(Sr.heap k).isSome=E/\ρ k=i then G r.choose else M
 have hnm:∀k,(Sr.heap k).isSome=E->nm (ρ k)=G k:=λk o=>by
  have r:∃j,(Sr.heap j).isSome=E/\ρ j=ρ k:=⟨k,o,rfl⟩
  grind
 have K:∀i,(∀k,(Sr.heap k).isSome=E->ρ k≠i)->nm i=none:=λi hi=>by
  grind
 let ν2:Val:={hdr:=λi=>match nm i with | some k=>νr.hdr k | none=>ν.hdr i,adr:=λi=>match nm i with | some k=>νr.adr k | none=>ν.adr i}
 let u:Nat->List Value:=λi=>match nm i with | some k=>vsr k | none=>vs i
 have f1:∀k,(Sr.heap k).isSome=E->ν2.hdr (ρ k)=νr.hdr k/\ν2.adr (ρ k)=νr.adr k:=λk o=>jE
 have old:∀k i,(Sr.heap k).isSome=E->(S.heap i).isSome=E->ρ k=i->Bl.fn bl k=G i:=λk i o hi e=>by
  cases ek:Bl.fn bl k with
  |some a=>grind
  |none=>grind
 have f2:∀i,(S.heap i).isSome=E->ν.hdr i=ν2.hdr i/\(ν.adr i).a=(ν2.adr i).a:=λi hi=>by
  by_cases r:∃k,(Sr.heap k).isSome=E/\ρ k=i
  ·let⟨k,h1,h2⟩:=r;have e:=old k i h1 hi h2;have k1:=R.keep k (hlt k i e) h1;have k2:=hkeep k i e;have k3:=f1 k h1;rw[h2] at k3;grind
  grind
 have fk:∀k i,(Sr.heap k).isSome=E->Bl.fn bl k=G i->Z0 (Sr.heap k)=E->(ν.adr i).sub=(ν2.adr i).sub:=λk i h1 e F=>by
  have k1:=R.keep k (hlt k i e) h1;have k3:=f1 k h1;rw[U k i e] at k3;grind
 have f3:∀i,(S.heap i).isSome=E->lent i=H->(ν.adr i).sub=(ν2.adr i).sub:=λi hi hm=>by
  by_cases r:∃k,(Sr.heap k).isSome=E/\ρ k=i
  ·let⟨k,h1,h2⟩:=r;have e:=old k i h1 hi h2;have hm:(yf i bl && !zD i (kpL Sr bl 0))=false:=hm;rw[Xj e,Bool.true_and,Bool.not_eq_false'] at hm;let⟨j,Q,e2⟩:=znb (zR.1 hm);grind
  grind
 have H1:∀k,(Sr.heap k).isSome=E->(Zz S Sr d bl es).heap (ρ k)=(Sr.heap k).map (Ent.mv ρ (Z0 (S.heap (ρ k)))):=λk o=>by
  let⟨e,he,v⟩:=(D k).1 o
  have:=zdi (ρ:=ρ) (fx:=λi=>Z0 (S.heap i)) (Hr:=Sr.heap) (base:=λi=>bif gone i then M else(S.heap i).map kk) (es:=es) (k0:=0) (λi j ei ej hi V gi gj e=>by
   rw[UZ,UZ] at e
   exact hρ i j ((D i).2 ⟨ei,hi,gi⟩) ((D j).2 ⟨ej,V,gj⟩) e) he v
  rw[UZ] at this;exact this
 have H2:∀i,(∀k,(Sr.heap k).isSome=E->ρ k≠i)->(Zz S Sr d bl es).heap i=bif gone i then M else(S.heap i).map kk:=λi hi=>
  vP λk e he v=>by rw[UZ];exact λe'=>hi k ((D k).2 ⟨e,he,v⟩) e'.symm
 have gmem:∀i,gone i=E->yf i bl=true:=λi hi=>by
  let⟨k,e,_,_,f⟩:=zaj.1 (zR.1 hi);exact Xj f
 have galive:∀i,gone i=E->∀k,(Sr.heap k).isSome=E->ρ k≠i:=λi hi k o e=>by
  let⟨j,ee,h1,h2,f⟩:=zaj.1 (zR.1 hi);have hi':=hin j i f;have e2:=old k i o hi' e;have:=hinj j k i f e2;subst this;let⟨e3,l,h5⟩:=(D j).1 o;rw[h1] at l;cases l;rw[h2] at h5;cases h5
 have I:∀i,i∈ids.filter (λj=> !yf j bl)->(S.heap i).isSome=E/\gone i=H/\∀k,(Sr.heap k).isSome=E->ρ k≠i:=λi hi=>by
  let⟨h1,h2⟩:=D7.1 hi;have f:=(h.dom i).1 h1;have h2:yf i bl=false:=by simpa using h2
  refine⟨f,?_,λk o e=>?_⟩
  · cases v:gone i with
    |false=>rfl
    |true=>rw[gmem i v] at h2;cases h2
  ·rw[Xj (old k i o f e)] at h2;cases h2
 have w:∀k,(Sr.heap k).isSome=E->((Zz S Sr d bl es).heap (ρ k)).isSome=true:=λk o=>by rw[H1 k o];simpa using o
 have y:∀i,(S.heap i).isSome=E/\gone i=H->((Zz S Sr d bl es).heap i).isSome=true:=λi ⟨h1,h2⟩=>by
  by_cases r:∃k,(Sr.heap k).isSome=E/\ρ k=i
  ·let⟨k,f,l⟩:=r;rw[<- l];exact w k f
  ·rw[H2 i λk f l=>r ⟨k,f,l⟩,h2];simpa using h1
 have A:∀k,k∈idsr↔(Sr.heap k).isSome=true:=R.dom
 refine⟨ν2,u,idsr.map ρ++ids.filter λj=> !yf j bl,⟨⟨?_,λi=>?_,?_,λi cs hi=>?_,λt=>?_,λi=>?_⟩,λt=>?_,λi cs hi=>?_,λk o hs=>?_⟩,f1,w⟩
 · refine qC.2 ⟨?_,qA qx h.nd,?_⟩
   ·rw[UD,qs];refine qy ?_ (UD.1 R.nd);intro i j hi V hne e;exact hne (hρ i j ((A i).1 hi) ((A j).1 V) e)
   ·intro i hi j V e;subst e;obtain⟨k,o,rfl⟩:=D4.1 hi;exact(I _ V).2.2 k ((A k).1 o) rfl
 · rw[U5];constructor
   · rintro(hi | hi)
     ·obtain⟨k,o,rfl⟩:=D4.1 hi;exact w k ((A k).1 o)
     ·have:=I i hi;exact y i ⟨this.1,this.2.1⟩
   · intro hi;by_cases r:∃k,(Sr.heap k).isSome=E/\ρ k=i
     ·let⟨k,f,l⟩:=r;exact .inl (D4.2 ⟨k,(A k).2 f,l⟩)
     · right;have h2:=H2 i λk f l=>r ⟨k,f,l⟩
       rw[h2] at hi;cases v:gone i with
       |true=>rw[v] at hi;cases hi
       |false=>
        rw[v] at hi;have hs:(S.heap i).isSome=true:=by simpa using hi
        refine D7.2 ⟨(h.dom i).2 hs,?_⟩;cases hm:yf i bl with
        |false=>rfl
        |true=>
         exfalso;let⟨k,ek⟩:=zfr hm;have hkl:k < es.length:=Nat.lt_of_lt_of_le (hlt k i ek) hlen;cases hge:es[k].isGone with
         |true=>
          have:gone i=true:=zR.2 (zaj.2 ⟨k,es[k],UJ hkl,hge,ek⟩);rw[v] at this;cases this
         |false=>exact r ⟨k,(D k).2 ⟨_,UJ hkl,hge⟩,U k i ek⟩
 · rw[DA];congr 1
   · rw[R.pv,qc];refine D0 λk o=>?_
     have o:=(A k).1 o;show _=zK C ν2 u (ρ k) ((Zz S Sr d bl es).heap (ρ k));rw[H1 k o];have Q:=f1 k o;cases hs:Sr.heap k with
     |none=>rw[hs] at o;cases o
     |some B=>
      cases B with
      |orow T s g=>
       show Priv.row (Zd C T) T (νr.hdr k) (hpl C T (νr.adr k).sub s g)=Priv.row (Zd C T) T (ν2.hdr (ρ k)) (hpl C T (ν2.adr (ρ k)).sub s (g.ufx _));rw[Q.1,Q.2,zc7 (g:=g) (g':=g.ufx (Z0 (S.heap (ρ k)))) λj _=>⟨(Own.ufx_fl j).symm,rfl⟩]
      |cell=>simp[zK,Ent.mv,Q,u,hnm k o]
      |row=>simp[zK,Ent.mv,Q]
      |obj=>simp[zK,Ent.mv,Q]
   · refine D0 λi hi=>?_
     let⟨r1,r2,N⟩:=I i hi;show _=zK C ν2 u i ((Zz S Sr d bl es).heap i);rw[H2 i N,r2,U8];have Q:=f2 i r1;have e2:=K i N;cases hs:S.heap i with
     |none=>rw[hs] at r1;cases r1
     |some B=>
      have e3:=f3 i r1 (by show(yf i bl && _)=H;rw[show yf i bl=H by simpa using(D7.1 hi).2];rfl);cases B<;>simp[zK,kk,Ent.kill,Ent.knx,<- Q.1,<- Q.2,<- e3,u,e2]
 · by_cases r:∃k,(Sr.heap k).isSome=E/\ρ k=i
   · let⟨k,f,l⟩:=r;subst l;rw[H1 k f] at hi;cases hs:Sr.heap k with
     |none=>rw[hs] at f;cases f
     |some B=>
      rw[hs] at hi;cases B with
      |row T s=>cases hi
      |obj q T b s=>cases hi
      |orow T s g=>cases hi
      |cell x=>
       cases hi;show VRs C Z' ν2 (u (ρ k)) _;simp only[u,hnm k f];exact VRs.ren (p:=λid=>(Sr.heap id).isSome=E) (λj V=>f1 j V) (R.livec k x hs) (R.cell k x hs)
   · have N:∀k,(Sr.heap k).isSome=E->ρ k≠i:=λk f l=>r ⟨k,f,l⟩
     rw[H2 i N] at hi;cases v:gone i with
     |true=>rw[v] at hi;cases hi
     |false=>
      rw[v,U8] at hi;cases hs:S.heap i with
      |none=>rw[hs] at hi;cases hi
      |some B=>
       rw[hs] at hi;cases B with
       |row T s=>cases hi
       |obj q T b s=>cases hi
       |orow T s g=>cases hi
       |cell x=>
        cases hi;show VRs C Z' ν2 (u i) _;simp only[u,K i N];exact VRs.kill (VRs.knx (q:=lent) f2 f3 (h.livec i x hs) ((h.cell i x hs).mono hle))
 ·exact VR.kill (VR.knx (q:=lent) f2 f3 (h.live t) ((h.env t).mono hle))
 · show(ν2.hdr i).oneCell'=E;simp only[ν2];cases nm i with
   |none=>exact h.one i
   |some k=>exact R.one k
 ·exact AV.ok_mono y (AV.ok_kill (AV.ok_knx (h.live t)))
 · by_cases r:∃k,(Sr.heap k).isSome=E/\ρ k=i
   · let⟨k,f,l⟩:=r;subst l;rw[H1 k f] at hi;cases hs:Sr.heap k with
     |none=>rw[hs] at f;cases f
     |some B=>
      rw[hs] at hi;cases B with
      |row T s=>cases hi
      |obj q T b s=>cases hi
      |orow T s g=>cases hi
      |cell x=>cases hi;exact AV.oks_ren w (R.livec k x hs)
   · have N:∀k,(Sr.heap k).isSome=E->ρ k≠i:=λk f l=>r ⟨k,f,l⟩
     rw[H2 i N] at hi;cases v:gone i with
     |true=>rw[v] at hi;cases hi
     |false=>
      rw[v,U8] at hi;cases hs:S.heap i with
      |none=>rw[hs] at hi;cases hi
      |some B=>
       rw[hs] at hi;cases B with
       |row T s=>cases hi
       |obj q T b s=>cases hi
       |orow T s g=>cases hi
       |cell x=>cases hi;exact AV.oks_mono y (AV.oks_kill (AV.oks_knx (h.livec i x hs)))
 · have z:(S.heap k).isSome=true:=by
     by_cases r:∃j,(Sr.heap j).isSome=E/\ρ j=k
     · let⟨j,f,l⟩:=r;cases ej:Bl.fn bl j with
       |some a=>rw[U j a ej] at l;rw[<- l];exact hin j a ej
       |none=>
        rw[hrn j ej] at l;have:=yQ κ d j;omega
     · rw[H2 k λj f l=>r ⟨j,f,l⟩] at hs;cases v:gone k with
       |true=>rw[v] at hs;cases hs
       |false=>rw[v] at hs;simpa using hs
   have:=h.keep k o z;have e2:=f2 k z;refine⟨e2.1.symm.trans this.1,e2.2.symm.trans this.2.1,λF=>?_⟩;by_cases r:∃j,(Sr.heap j).isSome=E/\ρ j=k
   ·let⟨j,f,l⟩:=r;subst l;rw[H1 j f] at F;let⟨g1,g2⟩:=zwu F;exact(fk j _ f (old j _ f z rfl) g1).symm.trans (this.2.2 g2)
   · have N:∀j,(Sr.heap j).isSome=E->ρ j≠k:=λj f l=>r ⟨j,f,l⟩
     have e3:ν2.adr k=ν.adr k:=by simp[ν2,K k N]
     rw[e3];refine this.2.2 ?_;rw[H2 k N] at F;cases v:gone k with
     |true=>rw[v] at F;cases F
     |false=>
      rw[v,U8] at F;cases hs2:S.heap k with
      |none=>rw[hs2] at F;cases F
      |some B=>rw[hs2] at F;cases B<;>first | exact F | cases F
end
variable [Dfr]
section
variable {C:Cod}
def yn:(outs:List (XK×Sig))->zh C outs->List ESh
 |[],y=>y.elim
 |[o],_=>o.2.es
 |o::a::r,y=>match(y:XK.ty C o.1 o.2⊕zh C (a::r)) with
  | .inl _=>o.2.es
  | .inr y=>yn (a::r) y
def zee(es:List ESh)(S:St C):Prop:=∀k,(S.heap k).isSome=E↔∃e,es[k]?=G e/\e.isGone=H
theorem zdj:∀(es:List ESh) (k0:Nat) (x:Sh.tys C (es.map ESh.sh)) (k:Nat),(ZN (λk=>k) es k0 x k).isSome=E↔∃j e,k=k0+j/\es[j]?=G e/\e.isGone=H
 |[],k0,x,k=>by simp[ZN]
 |e::es,k0,x,k=>by
  unfold ZN;cases hb:W k k0 with
  |true=>
   have c:=ge hb;subst c;rw[Dy];constructor
   ·intro h;refine⟨0,e,rfl,rfl,?_⟩;cases e<;>first | rfl | (simp[ESh.ent] at h)
   ·rintro⟨j,e',h1,h2,a⟩;have:j=0:=Zc
    subst this;simp at h2;subst h2;cases e<;>first | rfl | cases a
  |false=>
   rw[U8,zdj es (k0+1)];constructor
   ·rintro⟨j,e',h1,h2,a⟩;exact⟨j+1,e',Zc,by simpa using h2,a⟩
   ·rintro⟨j,e',h1,h2,a⟩;cases j with
    |zero=>subst h1;simp at hb
    |succ j=>grind
theorem xR(g:Sig)(x:g.ty C):zee g.es (g.open x):=λk=>by
 show(ZN (λk=>k) g.es 0 (W1 g.ts (g.es.map ESh.sh) x) k).isSome=E↔_;rw[zdj];constructor
 ·grind
 grind
theorem XA{α:Type}{Q:XE C->St C->Prop}{K:XE C->St C->α}{z:α}:∀{outs:List (XK×Sig)}{r:zh C outs},zT outs r K=z->zT outs r Q->∃e S,K e S=z/\Q e S/\zee (yn outs r) S
 |[],r,_,_=>r.elim
 |[o],r,h,q=>one h q
 |o::o2::l,r,h,q=>by
  unfold zT at h q;unfold yn;cases r with
  |inl a=>exact one h q
  |inr y=>exact XA h q
where
 one {α:Type} {Q:XE C->St C->Prop} {K:XE C->St C->α} {z:α} {o:XK×Sig} {y:XK.ty C o.1 o.2} (h:Yj o.1 o.2 y K=z) (q:Yj o.1 o.2 y Q):∃e S,K e S=z/\Q e S/\zee o.2.es S:=by
  let⟨k,g⟩:=o;cases k with
  |normal=>exact⟨_,_,h,q,xR g _⟩
  |exit i=>exact⟨_,_,h,q,xR g _⟩
  |ret=>exact⟨_,_,h,q,xR g _⟩
  |pan s=>exact⟨_,_,h,q,xR g _⟩
end
def vB:Nat:=1000000000
section
variable {κ:Kp}{C:Cod}{S:St C}{n:Nat}{w0:Start}{σ0 Z:FS}{P:Program}{L:List (Nat×Value)}{b:Nat->Value}{PV:List Priv}{ν:Val}{vs:Nat->List Value}{ids:List Nat}
def virt(S:St C)(As:List (AV C.D)):St C:={env:=λt=>bif O t vB then S.env t else(As[t - vB]?).getD .und,heap:=S.heap}
def unvirt(S:St C):St C:={env:=λt=>bif O t vB then S.env t else .und,heap:=S.heap}
def yo(L:List (Nat×Value))(b:Nat->Value)(us:List Value)(t:Nat):Value:=bif O t vB then look L b t else(us[t - vB]?).getD undef
omit [Dfr] in
theorem AbsL.virt(h:AbsL κ S ν vs ids L b Z PV){us:List Value}{As:List (AV C.D)}(c:VRs C Z ν us As)(a:AV.oks (λid=>(S.heap id).isSome=E) As):AbsL κ (virt S As) ν vs ids [] (yo L b us) Z PV:=by
 refine⟨⟨h.nd,h.dom,h.pv,h.cell,λt=>?_,h.one⟩,λt=>?_,h.livec,h.keep⟩
 ·show VR C Z ν (yo L b us t) (bif O t vB then S.env t else(As[t - vB]?).getD .und);unfold yo;cases O t vB with
  |true=>exact h.env t
  |false=>
   simp only[U8];cases e:As[t - vB]? with
   |none=>trivial
   |some A=>
    let⟨u,d,f⟩:=c.get _ A e;grind
 ·show(bif O t vB then S.env t else(As[t - vB]?).getD .und).ok _;cases O t vB with
  |true=>exact h.live t
  |false=>
   simp only[U8];cases e:As[t - vB]? with
   |none=>trivial
   |some A=>exact AV.oks_iff.1 a A (UT e)
omit [Dfr] in
theorem AbsL.unvirt{us:List Value}(h:AbsL κ S ν vs ids [] (yo L b us) Z PV):AbsL κ (unvirt S) ν vs ids L b Z PV:=by
 refine⟨⟨h.nd,h.dom,h.pv,h.cell,λt=>?_,h.one⟩,λt=>?_,h.livec,h.keep⟩
 ·show VR C Z ν _ (bif O t vB then S.env t else .und);have:=h.env t;have this:VR C Z ν (yo L b us t) (S.env t):=this;unfold yo at this;cases e:O t vB with
  |true=>grind
  |false=>trivial
 ·show(bif O t vB then S.env t else .und).ok _;cases O t vB with
  |true=>exact h.live t
  |false=>trivial
def Sig.shift(g:Sig):Sig:={ts:=g.ts.map λt=>(vB+t.1,t.2),es:=g.es}
def xf(S:St C):St C:={env:=λt=>S.env (vB+t),heap:=S.heap}
def YM(ins:Sig)(T:St C)(n:Nat):U3 (St C×Bl×ins.ty C):=
 let S2:=ins.shift.prep 0 T
 let bl:=ZA ins.shift 0 S2
 chk (W n ins.ts.length && X ins.es.length 64) ((YZ ins 0 (xf S2) bl).map λx=>(S2,bl,x))
def YX(ins:Sig)(S:St C)(As:List (AV C.D)):U3 (St C×Bl×ins.ty C):=
 let S2:=ins.shift.prep 0 (virt S As)
 let bl:=ZA ins.shift 0 S2
 chk (W As.length ins.ts.length && X ins.es.length 64) ((YZ ins 0 (xf S2) bl).map λx=>(S2,bl,x))
def VE(S Sr:St C)(d:Nat)(bl:Bl):Nat->Bool
 |0=>E
 |k+1=>(match Bl.fn bl k with
  |some _=>E
  |none=>isNone (Sr.heap k) || isNone (S.heap (nid d k))) && VE S Sr d bl k
theorem zdk{S Sr:St C}{d:Nat}{bl:Bl}:∀{N:Nat},VE S Sr d bl N=E->∀k,k < N->(Sr.heap k).isSome=E->Bl.fn bl k=M->S.heap (nid d k)=M
 |N+1,h,k,hk,h1,h2=>by
  simp only[VE,gf] at h;by_cases e:k=N
  ·subst e;rw[h2] at h;simp only[UO] at h;rcases h.1 with q | q
   ·rw[Ze q] at h1;cases h1
   ·exact Ze q
  ·exact zdk h.2 k Zc h1 h2
def zkI(ρ:Nat->Nat)(nr:Nat)(Sr:St C):AV C.D:=match nr with
 |1=>AV.ren ρ (Sr.env 0)
 |k =>.tup ((qo k).map λi=>AV.ren ρ (Sr.env i))
def We(S2:St C)(d nr:Nat)(bl:Bl)(es:List ESh)(e:XE C)(Sr:St C):U3 (Out C):=
 chk (VE S2 Sr d bl es.length) (match e with
  | .ret=>G (.go ((unvirt (Zz S2 Sr d bl es)).put d (zkI (xz d bl) nr Sr)))
  | .pan A=>G (.pan A (unvirt (Zz S2 Sr d bl es)))
  |_=>M)
def xA(s:Spec C)(d:Nat)(S2:St C)(bl:Bl)(x:s.ins.ty C):U3 (Out C):=
 (s.F x).bind λr=>chk (X s.ins.es.length (yn s.outs r).length) (zT s.outs r λe Sr=>We S2 d s.nr bl (yn s.outs r) e Sr)
mutual
def AV.flat{D:Nat->Type}:AV D->Bool
 | .int _ _=>E
 | .bool _=>E
 | .str _=>E
 | .pnil=>E
 | .nils=>E
 | .nilf=>E
 | .nili=>E
 | .und=>E
 | .agg cs=>AV.flats cs
 | .tup cs=>AV.flats cs
 | .clo _ cs=>AV.flats cs
 | .ifc _ A=>AV.flat A
 |_=>H
def AV.flats{D:Nat->Type}:List (AV D)->Bool
 |[]=>E
 |A::As=>AV.flat A && AV.flats As
end
omit [Dfr] in
mutual
theorem VR.flat{Z':FS}{ν':Val}:∀{A:AV C.D}{v:Value},A.flat=E->VR C Z ν v A->VR C Z' ν' v A
 | .int _ _,v,_,r=>by rw[r.int_inv];exact Rv.int
 | .bool _,v,_,r=>by rw[r.bool_inv];exact Rv.bool
 | .str _,v,_,r=>by rw[r.str_inv];exact Rv.str
 | .pnil,v,_,r=>by rw[r.pnil_inv];exact Rv.pnil
 | .nils,v,_,r=>r
 | .nilf,v,_,r=>by
  have:Rv C Z v .nilf:=r;cases this;exact Rv.nilf
 | .nili,v,_,r=>by rw[r.nili_inv];exact Rv.nili
 | .und,v,_,r=>trivial
 | .agg cs,v,h,⟨vs,e,r⟩=>⟨vs,e,VRs.flat h r⟩
 | .tup cs,v,h,⟨vs,e,r⟩=>⟨vs,e,VRs.flat h r⟩
 | .clo _ cs,v,h,⟨vs,e,r⟩=>⟨vs,e,VRs.flat h r⟩
 | .ifc _ A,v,h,⟨u,e,r⟩=>⟨u,e,VR.flat (A:=A) h r⟩
 | .sl _ _ _,_,h,_=>by cases h
 | .row _,_,h,_=>by cases h
 | .pc _ _,_,h,_=>by cases h
 | .pr _ _ _ _,_,h,_=>by cases h
 | .nx _ _ _ _,_,h,_=>by cases h
 | .pz _ _ _,_,h,_=>by cases h
theorem VRs.flat{Z':FS}{ν':Val}:∀{cs:List (AV C.D)}{vs:List Value},AV.flats cs=E->VRs C Z ν vs cs->VRs C Z' ν' vs cs
 |[],[],_,_=>trivial
 |A::As,v::vs,h,⟨r,s⟩=>by
  simp only[AV.flats,gf] at h;exact⟨VR.flat h.1 r,VRs.flat h.2 s⟩
 |[],_::_,_,r=>r.elim
 |_::_,[],_,r=>r.elim
end
omit [Dfr] in
mutual
theorem WS{D:Nat->Type}{p:Nat->Prop}:∀{A:AV D},A.flat=E->A.ok p
 | .int _ _,_=>trivial
 | .bool _,_=>trivial
 | .str _,_=>trivial
 | .pnil,_=>trivial
 | .nils,_=>trivial
 | .nilf,_=>trivial
 | .nili,_=>trivial
 | .und,_=>trivial
 | .agg cs,h=>zbR (A:=cs) h
 | .tup cs,h=>zbR (A:=cs) h
 | .clo _ cs,h=>zbR (A:=cs) h
 | .ifc _ A,h=>WS (A:=A) h
 | .sl _ _ _,h=>by cases h
 | .row _,h=>by cases h
 | .pc _ _,h=>by cases h
 | .pr _ _ _ _,h=>by cases h
 | .nx _ _ _ _,h=>by cases h
 | .pz _ _ _,h=>by cases h
theorem zbR{D:Nat->Type}{p:Nat->Prop}:∀{A:List (AV D)},AV.flats A=E->AV.oks p A
 |[],_=>trivial
 |A::As,h=>by
  simp only[AV.flats,gf] at h;exact⟨WS h.1,zbR h.2⟩
end
mutual
def Sh.flat:Sh->Bool
 | .int _=>E
 | .bool=>E
 | .str=>E
 | .pnil=>E
 | .nilf=>E
 | .nili=>E
 | .und=>E
 | .tup l=>Sh.flats l
 | .ifc _ s=>Sh.flat s
 |_=>H
def Sh.flats:List Sh->Bool
 |[]=>E
 |s::l=>Sh.flat s && Sh.flats l
end
def Spec.view(s:Spec C):Bool:=s.ins.es.isEmpty && s.outs.all λo=>o.2.es.isEmpty && (Sh.flats (o.2.ts.map (·.2)) && (match o.1 with | .pan t=>t.flat | _=>E))
mutual
def AV.flatN{D:Nat->Type}:AV D->Bool
 | .int _ _=>E
 | .bool _=>E
 | .str _=>E
 | .pnil=>E
 | .nils=>E
 | .nilf=>E
 | .nili=>E
 | .und=>E
 | .row _=>E
 | .pc _ _=>E
 | .pr _ _ _ _=>E
 | .nx _ _ _ _=>E
 | .agg cs=>AV.flatNs cs
 | .tup cs=>AV.flatNs cs
 | .clo _ cs=>AV.flatNs cs
 | .ifc _ A=>AV.flatN A
 |_=>H
def AV.flatNs{D:Nat->Type}:List (AV D)->Bool
 |[]=>E
 |A::As=>AV.flatN A && AV.flatNs As
end
omit [Dfr] in
mutual
theorem VR.flatN{Z':FS}:∀{A:AV C.D}{v:Value},A.flatN=E->VR C Z ν v A->VR C Z' ν v A
 | .int _ _,v,_,r=>by rw[r.int_inv];exact Rv.int
 | .bool _,v,_,r=>by rw[r.bool_inv];exact Rv.bool
 | .str _,v,_,r=>by rw[r.str_inv];exact Rv.str
 | .pnil,v,_,r=>by rw[r.pnil_inv];exact Rv.pnil
 | .nils,v,_,r=>r
 | .nilf,v,_,r=>by
  have:Rv C Z v .nilf:=r;cases this;exact Rv.nilf
 | .nili,v,_,r=>by rw[r.nili_inv];exact Rv.nili
 | .und,v,_,r=>trivial
 | .row _,v,_,r=>r
 | .pc _ _,v,_,r=>r
 | .pr _ _ _ _,v,_,r=>r
 | .nx _ _ _ _,v,_,r=>r
 | .agg cs,v,h,⟨vs,e,r⟩=>⟨vs,e,VRs.flatN h r⟩
 | .tup cs,v,h,⟨vs,e,r⟩=>⟨vs,e,VRs.flatN h r⟩
 | .clo _ cs,v,h,⟨vs,e,r⟩=>⟨vs,e,VRs.flatN h r⟩
 | .ifc _ A,v,h,⟨u,e,r⟩=>⟨u,e,VR.flatN (A:=A) h r⟩
 | .sl _ _ _,_,h,_=>by cases h
 | .pz _ _ _,_,h,_=>by cases h
theorem VRs.flatN{Z':FS}:∀{cs:List (AV C.D)}{vs:List Value},AV.flatNs cs=E->VRs C Z ν vs cs->VRs C Z' ν vs cs
 |[],[],_,_=>trivial
 |A::As,v::vs,h,⟨r,s⟩=>by
  simp only[AV.flatNs,gf] at h;exact⟨VR.flatN h.1 r,VRs.flatN h.2 s⟩
 |[],_::_,_,r=>r.elim
 |_::_,[],_,r=>r.elim
end
mutual
def Sh.flatN:Sh->Bool
 | .int _=>E
 | .bool=>E
 | .str=>E
 | .pnil=>E
 | .nils=>E
 | .nilf=>E
 | .nili=>E
 | .und=>E
 | .row _=>E
 | .pc _ _=>E
 | .pr _ _ _=>E
 | .nx _ _=>E
 | .nxe _ _ _ _=>E
 | .nxp _ _ _=>E
 | .agg l=>Sh.flatNs l
 | .tup l=>Sh.flatNs l
 | .clo _ l=>Sh.flatNs l
 | .ifc _ s=>Sh.flatN s
 |_=>H
def Sh.flatNs:List Sh->Bool
 |[]=>E
 |s::l=>Sh.flatN s && Sh.flatNs l
end
omit [Dfr] in
mutual
theorem Sh.put_flatN{ρ:Nat->Nat}:∀(s:Sh) {x:s.ty C},s.flatN=E->(Sh.put ρ s x).flatN=E
 | .int _,_,_=>rfl
 | .bool,_,_=>rfl
 | .str,_,_=>rfl
 | .pnil,_,_=>rfl
 | .nils,_,_=>rfl
 | .nilf,_,_=>rfl
 | .nili,_,_=>rfl
 | .und,_,_=>rfl
 | .row _,_,_=>rfl
 | .pc _ _,_,_=>rfl
 | .pr _ _ _,_,_=>rfl
 | .nx _ _,_,_=>rfl
 | .nxe _ _ _ _,_,_=>rfl
 | .nxp _ _ _,_,_=>rfl
 | .agg l,x,h=>Sh.putc_flatN l h
 | .tup l,x,h=>Sh.puts_flatN l h
 | .clo _ l,x,h=>Sh.puts_flatN l h
 | .ifc _ s,x,h=>Sh.put_flatN s h
 | .val _,_,h=>by cases h
 | .sl _,_,h=>by cases h
 | .pz _ _,_,h=>by cases h
 | .orow _,_,h=>by cases h
theorem Sh.puts_flatN{ρ:Nat->Nat}:∀(l:List Sh) {x:Sh.tys C l},Sh.flatNs l=E->AV.flatNs (Sh.puts ρ l x)=E
 |[],_,_=>rfl
 |s::l,x,h=>by
  simp only[Sh.flatNs,gf] at h;simp only[Sh.puts,AV.flatNs,gf];exact⟨Sh.put_flatN s h.1,Sh.puts_flatN l h.2⟩
theorem Sh.putc_flatN{ρ:Nat->Nat}:∀(l:List Sh) {x:Sh.tys C l},Sh.flatNs l=E->AV.flatNs (Sh.putc ρ l x)=E
 |[],_,_=>rfl
 |s::l,x,h=>by
  simp only[Sh.flatNs,gf] at h;have a:Sh.isVal s=none:=by cases s<;>first | rfl | (simp[Sh.flatN] at h)
  unfold Sh.putc;simp only[a,AV.flatNs,gf];exact⟨Sh.put_flatN s h.1,Sh.putc_flatN l h.2⟩
end
def zAc:U3 Nat->Bool
 |none=>E
 |some _=>H
def Cod.flt(C:Cod)(T:Nat):Bool:=(C.lfs T).all zAc
def Cod.floE(C:Cod)(T:Nat):List (U3 Nat)->Nat->Bool
 |[],_=>E
 |none::r,k=>Cod.floE C T r (k+1)
 |some U::r,k=>W k (C.nst T) && (C.flt U && Cod.floE C T r (k+1))
def Cod.flo(C:Cod)(T:Nat):Bool:=Cod.floE C T (C.lfs T) 0
def ESh.free(C:Cod):ESh->Bool
 | .cell l=>Sh.flatNs l
 | .row T=>C.flt T
 | .orow T=>C.flo T
 | .gone=>E
 |_=>H
theorem zww{T:Nat}(h:C.flt T=E){x:C.D T}{j:Nat}{A:AV C.D}(a:(C.emb T x)[j]?=G A):A.num=true:=by
 rcases C.lfs_ok T x j A a with h1 | ⟨U,s,_,h2⟩ | ⟨U,s,_,h2⟩
 ·exact h1
 ·have:=Dx.1 h _ (UT h2);cases this
 ·have:=Dx.1 h _ (UT h2);cases this
theorem zbf{T:Nat}:∀{l:List (U3 Nat)}{k j:Nat}{U:Nat},Cod.floE C T l k=E->l[j]?=G (G U)->k+j=C.nst T/\C.flt U=E
 |none::r,k,0,U,h,e=>by simp at e
 |none::r,k,j+1,U,h,e=>by
  have:=zbf (l:=r) (k:=k+1) (j:=j) (U:=U) h (by simpa using e);grind
 |some V::r,k,0,U,h,e=>by
  simp at e;subst e;simp only[Cod.floE,gf] at h;exact⟨by have:=ge h.1;omega,h.2.1⟩
 |some V::r,k,j+1,U,h,e=>by
  simp only[Cod.floE,gf] at h;have:=zbf (l:=r) (k:=k+1) (j:=j) (U:=U) h.2.2 (by simpa using e);grind
 |[],k,j,U,h,e=>by simp at e
theorem zkJ{Z Z':FS}{u:Value}{A:AV C.D}(h:A.num=E)(r:Rv C Z u A):Rv C Z' u A:=by
 cases r<;>first | (cases h;done) | exact .int | exact .bool | exact .str
theorem zkK{α:Type}{T:OTy α}{e:TypeId}{v:Value}{s:Sl α}{Z Z':FS}{h:zc}(l:∀x cs g,x∈s.xs->T.rel Z g cs x->T.rel Z' g cs x)(r:zn T e v s Z h):zn T e v s Z' h:=by
 rcases r with r | r | ⟨q,a,cur,hb,w,o,p,f,u,t,r0,m,y,j,A,c⟩
 ·exact .inl r
 ·exact .inr (.inl r)
 ·refine .inr (.inr ⟨q,a,cur,hb,w,o,p,f,u,t,r0,m,y,j,A,?_⟩);let⟨h1,hs,h2,z,k⟩:=c;exact⟨h1,hs,λi x d=>l x _ _ (UT d) (h2 i x d),z,k⟩
theorem znc{Z Z':FS}{T:Nat}{v:Value}{s:Sl (C.D T)}{h:zc}(c:C.flt T=E)(r:zn (zB C T).o T v s Z h):zn (zB C T).o T v s Z' h:=
 zkK (λx cs g _ r=>⟨r.1,λj A a=>by
  let⟨u,d,e⟩:=r.2 j A a
  exact⟨u,d,zkJ (zww c a) e⟩⟩) r
theorem zwx{Z Z':FS}{T:Nat}{v:Value}{sub:Nat->Value}{s:Sl (C.D T)}{h:zc}(f:C.flo T=E)(r:zn (Zd C T) T v (hpl C T sub s .all) Z h):zn (Zd C T) T v (hpl C T sub s .all) Z' h:=by
 refine zkK (λp cs g hp r=>?_) r;have h1:p.2.1=1:=by
  let⟨j,c⟩:=qD.1 hp;simp only[hpl,Du] at c;cases o:s.xs[j]? with
  |none=>grind
  |some x=>rw[o] at c;cases c;rfl
 let⟨B,w,m,l,I,t⟩:=(r:Yb C T Z g cs p);refine⟨B,w,λj A c F=>?_,l,λe=>jE,λe=>?_⟩
 ·let⟨u,a,d⟩:=m j A c F;refine⟨u,a,zkJ ?_ d⟩;rcases C.lfs_ok T p.1 j A c with h2 | ⟨U,s',_,h2⟩ | ⟨U,s',_,h2⟩
  ·exact h2
  ·have:=(zbf f h2).1;omega
  ·have:=(zbf f h2).1;omega
 ·let⟨U,s',a,d⟩:=t e;refine⟨U,s',a,znc ?_ d⟩;have z:Zn C T p.1 ≠.und:=jE
  unfold Zn at a z;cases k:(C.emb T p.1)[C.nst T]? with
  |none=>grind
  |some A=>
   rw[k] at a;have a:A = .sl U s' false:=a;subst a;rcases C.lfs_ok T p.1 _ _ k with h2 | ⟨y,q,i,h2⟩ | ⟨y,q,i,h2⟩
   ·cases h2
   ·cases i;exact(zbf f h2).2
   ·cases i
theorem zcV{ρ:Nat->Nat}:∀(ts:List (Nat×Sh)) (a:List Sh) (x:Sh.tys C (ts.map (·.2)++a)) (t:Nat),Sh.flatNs (ts.map (·.2))=E->(W0 ρ ts a x t).flatN=E
 |[],_,_,_,_=>rfl
 |(t0,s)::ts,a,x,t,h=>by
  simp only[UF,Sh.flatNs,gf] at h;unfold W0;cases W t t0 with
  |true=>exact Sh.put_flatN s h.1
  |false=>exact zcV ts a _ t h.2
theorem zcW{ρ:Nat->Nat}:∀(es:List ESh) (k0:Nat) (x:Sh.tys C (es.map ESh.sh)) (i:Nat) {e:Ent C},es.all (ESh.free C)=E->ZN ρ es k0 x i=G e->(∃cs,e = .cell cs/\AV.flatNs cs=E)\/(∃T s,e = .row T s/\C.flt T=E)\/∃T s,e = .orow T s .all/\C.flo T=E
 |[],k0,x,i,e,h,he=>by cases he
 |e0::es,k0,x,i,e,h,he=>by
  simp only[List.all_cons,gf] at h;unfold ZN at he;cases hb:W i (ρ k0) with
  |false=>rw[hb] at he;exact zcW es (k0+1) _ i h.2 he
  |true=>
   rw[hb,Dy] at he;have h1:=h.1;cases e0 with
   |cell l=>cases he;exact .inl ⟨_,rfl,Sh.putc_flatN l h1⟩
   |row T=>cases he;exact .inr (.inl ⟨T,_,rfl,h1⟩)
   |orow T=>cases he;exact .inr (.inr ⟨T,_,rfl,h1⟩)
   |obj k T=>cases h1
   |xrow T=>cases h1
   |forow T=>cases h1
   |gone=>cases he
omit [Dfr] in
theorem AbsL.free {κ:Kp}{g:Sig}{x:g.ty C}{ν:Val}{vs:Nat->List Value}{ids:List Nat}{L:List (Nat×Value)}{b:Nat->Value}{Z Z':FS}{PV:List Priv}(h:AbsL κ (g.open x) ν vs ids L b Z' PV) (h1:Sh.flatNs (g.ts.map (·.2))=E) (h2:g.es.all (ESh.free C)=E) :
    AbsL κ (g.open x) ν vs ids L b Z PV/\∀m,Sep Z' PV m->Sep Z PV m:=by
 have c:∀i e,(g.open x).heap i=G e->(∃cs,e = .cell cs/\AV.flatNs cs=E)\/(∃T s,e = .row T s/\C.flt T=E)\/∃T s,e = .orow T s .all/\C.flo T=true:=λi e k=>zcW g.es 0 _ i h2 k
 refine⟨⟨⟨h.nd,h.dom,h.pv,λid cs o=>?_,λt=>VR.flatN (zcV g.ts _ _ t h1) (h.env t),h.one⟩,h.live,h.livec,h.keep⟩,λm hs=>?_⟩
 · rcases c id _ o with⟨cs',e,j⟩ | ⟨T,s,e,_⟩ | ⟨T,s,e,_⟩
   ·cases e;exact VRs.flatN j (h.cell id cs o)
   all_goals grind
 · let⟨d,r,q,u⟩:=hs;refine⟨d,λi p hp=>?_,q,u⟩;have a:=r i p hp;rw[h.pv,UA] at hp;cases hid:ids[i]? with
   |none=>grind
   |some id=>
    rw[hid] at hp;cases hp;have l:=(h.dom id).1 (UT hid);cases k:(g.open x).heap id with
    |none=>grind
    |some e=>
     have a:(zK C ν vs id ((g.open x).heap id)).holds Z' (d i):=a;show(zK C ν vs id ((g.open x).heap id)).holds Z (d i);rw[k] at a |-
     rcases c id e k with⟨cs',f,_⟩ | ⟨T,s,f,j⟩ | ⟨T,s,f,j⟩
     ·subst f;exact a
     ·subst f;exact znc j a
     ·subst f;exact zwx j a
def Spec.viewO(s:Spec C):Bool:=s.ins.es.isEmpty && s.outs.all λo=>(o.2.es.all (ESh.free C) && Sh.flatNs (o.2.ts.map (·.2))) && X o.2.es.length 64
theorem Inv.past_own{w w':World}{τ Z':FS}{A':List Priv}(hi:Inv w0 σ0 Z PV w)(d:Z.le τ)(k:Inv ⟨w,zc.none⟩ τ Z' A' w')(l:∀h,Sep Z' A' h->Sep Z A' h):Inv w0 σ0 Z (A'++PV) w':=by
 let⟨h,hs,m⟩:=hi.own;let⟨g,f,a⟩:=k.own;have c:=d.trans k.le
 have i:Inv ⟨w,zc.none⟩ Z Z A' w':=⟨c.sub k.sub,.refl Z,λ_ _ _ e =>.inl e,⟨g,l g f,a.sub,λq o e=>by
  cases j:Z q o with
  |none=>rfl
  |some v=>exact absurd (a.apart q o e) (by rw[c q o v j];simp),a.mine⟩,k.ext⟩
 exact hi.call (A':=A') (C:=PV) (h1:=zc.none) (h2:=h) m hs (zc.none_le _) (.refl _) (zc.none_disj _) i
theorem ze2{α:Type}{Q:XE C->St C->Prop}{K:XE C->St C->α}{z:α}:∀{outs:List (XK×Sig)}{r:zh C outs},zT outs r K=z->zT outs r Q->∃e S,K e S=z/\Q e S/\zee (yn outs r) S/\∃o∈outs,∃x:o.2.ty C,S=o.2.open x
 |[],r,_,_=>r.elim
 |[o],r,h,q=>by
  let⟨e,S,h1,h2,c,d⟩:=one h q;exact⟨e,S,h1,h2,c,o,je,d⟩
 |o::o2::l,r,h,q=>by
  unfold zT at h q;unfold yn;cases r with
  |inl a=>
   let⟨e,S,h1,h2,c,d⟩:=one h q;grind
  |inr y=>
   let⟨e,S,h1,h2,c,o',f,d⟩:=ze2 h q;grind
where
 one {α:Type} {Q:XE C->St C->Prop} {K:XE C->St C->α} {z:α} {o:XK×Sig} {y:XK.ty C o.1 o.2} (h:Yj o.1 o.2 y K=z) (q:Yj o.1 o.2 y Q):∃e S,K e S=z/\Q e S/\zee o.2.es S/\∃x:o.2.ty C,S=o.2.open x:=by
  let⟨k,g⟩:=o;cases k with
  |normal=>exact⟨_,_,h,q,xR g _,_,rfl⟩
  |exit i=>exact⟨_,_,h,q,xR g _,_,rfl⟩
  |ret=>exact⟨_,_,h,q,xR g _,_,rfl⟩
  |pan s=>exact⟨_,_,h,q,xR g _,_,rfl⟩
def zbg(S:St C)(d nr:Nat)(e:XE C)(Sr:St C):U3 (Out C):=match e with
 | .ret=>chk (zkI (λk=>k) nr Sr).flat (G (.go (S.put d (zkI (λk=>k) nr Sr))))
 | .pan A=>chk A.flat (G (.pan A S))
 |_=>M
def yU(s:Spec C)(d:Nat)(S:St C)(x:s.ins.ty C):U3 (Out C):=
 chk s.ins.es.isEmpty ((s.F x).bind λr=>zT s.outs r λe Sr=>zbg S d s.nr e Sr)
def zu4:XE C->Bool
 | .pan A=>A.flat
 |_=>E
def yI(s:Spec C)(d:Nat)(S:St C)(x:s.ins.ty C):U3 (Out C):=
 (s.F x).bind λr=>zT s.outs r λe Sr=>chk (zu4 e) (We S d s.nr [] (yn s.outs r) e Sr)
theorem zhw {ρ:Nat->Nat}{ν':Val}{Sr:St C}{νr:Val}{a:List Value}{p q:Nat->Prop}(e:∀t,VR C Z νr (look (yq 0 a) (λ_=>undef) t) (Sr.env t)) (d:∀t,(Sr.env t).ok p) (g:∀k,p k->ν'.hdr (ρ k)=νr.hdr k/\ν'.adr (ρ k)=νr.adr k) (o:∀k,p k->q (ρ k)) :
    VR C Z ν' (zdg a) (zkI ρ a.length Sr)/\(zkI ρ a.length Sr).ok q:=by
 have key:∀i,VR C Z ν' ((a[i]?).getD undef) (AV.ren ρ (Sr.env i))/\(AV.ren ρ (Sr.env i)).ok q:=λi=>by
  have:=e i;rw[yr] at this;exact⟨this.ren g (d i),AV.ok_ren o (d i)⟩
 have f:∀(m:Nat) (l:List Value),(∀i,i < l.length->l[i]?=a[m+i]?)->VRs C Z ν' l ((qk m l.length).map λi=>AV.ren ρ (Sr.env i))/\AV.oks q ((qk m l.length).map λi=>AV.ren ρ (Sr.env i)):=by
  intro m l
  induction l generalizing m with
  |nil=>exact λ_=>⟨trivial,trivial⟩
  |cons v l j=>
   intro h;have h0:=h 0 je;have k:=key m;rw[show a[m]?=G v from by grind] at k;have:=j (m+1) λi hi=>by
    have:=h (i+1) (by simpa using hi);grind
   simp only[jz,List.range'_succ,UF];exact⟨⟨k.1,this.1⟩,⟨k.2,this.2⟩⟩
 have c:=f 0 a λi _=>jE
 rw[<- qB] at c
 match a,key,c with
 |[],_,c=>exact⟨⟨[],rfl,c.1⟩,c.2⟩
 |[v],key,_=>exact key 0
 |u::v::l,_,c=>exact⟨⟨_,rfl,c.1⟩,c.2⟩
def Spec.OKc(s:Spec C)(us:List Value)(cl:World->(Ending->World->Prop)->Prop):Prop:=
 ∀(x:s.ins.ty C) r,s.F x=G r->∀(κ:Kp) (st:Start) (Z:FS),C.gl st.w Z->∀(PV:List Priv) (ν:Val) (vs:Nat->List Value) (ids:List Nat),κ.m=s.ins.es.length->us.length=s.ins.ts.length->AbsL κ (s.ins.open x) ν vs ids (yq 0 us) (λ_=>undef) Z PV->Pre st Z PV->cl st.w (vk κ st Z s.nr s.outs r)
theorem ze3 {s:Spec C}{us:List Value}{cl:World->(Ending->World->Prop)->Prop}(hs:s.OKc us cl) (F:∀{w:World}{Q Q':Ending->World->Prop},cl w Q->(∀e w,Q e w->Q' e w)->cl w Q') (hgl:C.gl w0.w σ0) {d:Nat}{As:List (AV C.D)}{S2:St C}{bl:Bl}{x:s.ins.ty C}(hl:YX s.ins S As=G (S2,bl,x))
    (h:AbsL κ S ν vs ids L b Z PV) (hr:VRs C Z ν us As) (N:AV.oks (λid=>(S.heap id).isSome=E) As) {out:Out C} (ho:xA s d S2 bl x=G out) {w:World} (hi:Inv w0 σ0 Z PV w) :
    cl w λe w'=>match e with
     | .returned v=>∃S' Z' y,out = .go S'/\Inv w0 σ0 Z' y w'/\zC κ S' ((d,v)::L) b Z' y
     | .panicked c=>∃A S' u Z' y,out = .pan A S'/\c=[{v:=u,recovered:=false}]/\Inv w0 σ0 Z' y w'/\Xy C Z' u A/\zC κ S' L b Z' y
     | .outgrown=>False:=by
 unfold YX at hl;let⟨hc,hl⟩:=zb hl;simp only[gf] at hc;have c1:=ge hc.1;have c2:=Dg hc.2;let⟨x',hx,he⟩:=D9.1 hl;cases he;let⟨I,PV1,z,ν1,vs1,ids1,h1⟩:=zcf (g:=s.ins.shift) (m:=0) ⟨ν,vs,ids,h.virt hr N⟩ hi;generalize hS2:s.ins.shift.prep 0 (virt S As)=S2 at *
 generalize hbl:ZA s.ins.shift 0 S2=bl at *
 have V:∀t,VR C I ν1 (look (yq 0 us) (λ_=>undef) t) ((xf S2).env t):=λt=>by
  have:=h1.env (vB+t);rw[yr];have e:look [] (yo L b us) (vB+t)=(us[t]?).getD undef:=by
   show yo L b us (vB+t)=_;unfold yo;have:O (vB+t) vB=false:=by
    cases e:O (vB+t) vB with
    |false=>rfl
    |true=>rw[Da] at e;omega
   rw[this];simp
  rw[e] at this;exact this
 let⟨ν',vs',ids',k1,k2,k3,k4,k5⟩:=h1.lend (T:=xf S2) rfl V hx c2;have hB:=BdOK.of ((gf _ _).mp (zb hx).1).1;let⟨gg,hsep,hg⟩:=z.own;let⟨f1,f2,s1,s2,l1,l2,dd⟩:=(k5 gg hsep).split;let⟨r,hr',ho⟩:=gd ho;let⟨p,ho⟩:=zb ho;have p:=Dg p;have hus:us.length=s.ins.ts.length:=by rw[<- c1,hr.len]
 have B:=hs x r hr' ⟨s.ins.es.length,c2,ν'⟩ ⟨w,f1⟩ I (C.glm z.le z.ext hgl) _ ν' vs' ids' rfl hus k1 ⟨z.sub,s1,hg.sub.mono l1,(hg.mono l1).apart⟩;refine F B ?_;intro e w' hp;let⟨e',Sr,K,U,q3⟩:=XA ho hp;unfold We at K;let⟨hfr,K⟩:=zb K
 have merge:∀{Lr br Z' A'},zC ⟨s.ins.es.length,c2,ν'⟩ Sr Lr br Z' A'->Inv ⟨w,f1⟩ I Z' A' w'->∃νr ν2 f a j,Inv w0 σ0 Z' j w'/\AbsL κ (unvirt (Zz S2 Sr d bl (yn s.outs r))) ν2 f a L b Z' j/\(∀t,VR C Z' νr (look Lr br t) (Sr.env t))/\(∀t,(Sr.env t).ok λid=>(Sr.heap id).isSome=E)/\
     (∀k,(Sr.heap k).isSome=E->ν2.hdr (xz d bl k)=νr.hdr k/\ν2.adr (xz d bl k)=νr.adr k)/\∀k,(Sr.heap k).isSome=E->((Zz S2 Sr d bl (yn s.outs r)).heap (xz d bl k)).isSome=true:=by
  rintro Lr br Z' A' ⟨νr,vsr,idsr,hA⟩ l;have R:∀k,(Sr.heap k).isSome=E->Bl.fn bl k=M->S2.heap (nid d k)=none:=λk hk hn=>by
   let⟨e,he,_⟩:=(q3 k).1 hk;exact zdk hfr k (UC.1 he).1 hk hn
  let⟨ν2,f,a,m1,m2,m3⟩:=h1.merge (d:=d) (es:=yn s.outs r) hA l.le hB.inj hB.lt k4 k2 q3 R p;exact⟨νr,ν2,f,a,_,z.call hg s2 l1 l2 dd l,m1.unvirt,hA.env,hA.live,m2,m3⟩
 cases e' with
 |normal=>cases K
 |exit i=>cases K
 |ret=>
  cases e with
  |returned v=>
   obtain⟨vals,Z',A',rfl,hnr,l,hA⟩:=U;let⟨νr,ν2,f,a,j,m1,m2,m3,m4,m5,m6⟩:=merge hA l;cases K;have o:=zhw (ρ:=xz d bl) (q:=λi=>((Zz S2 Sr d bl (yn s.outs r)).heap i).isSome=E) m3 m4 m5 m6;rw[hnr] at o;exact⟨_,Z',j,rfl,m1,ν2,f,a,m2.put o.1 o.2⟩
  |panicked c=>exact U.elim
  |outgrown=>exact U.elim
 |pan A=>
  cases e with
  |returned v=>exact U.elim
  |outgrown=>exact U.elim
  |panicked c=>
   obtain⟨u,Z',A',rfl,l,hp',hA⟩:=U;let⟨νr,ν2,f,a,j,m1,m2,m3,m4,m5,m6⟩:=merge hA l;cases K;exact⟨_,_,u,Z',j,rfl,rfl,m1,hp',ν2,f,a,m2⟩
theorem zoh {s:Spec C}(hs:s.OK P) (i:C.gl w0.w σ0) {d:Nat}{As:List (AV C.D)}{us:List Value}{S2:St C}{bl:Bl}{x:s.ins.ty C}(m:YX s.ins S As=G (S2,bl,x))
    (h:AbsL κ S ν vs ids L b Z PV) (p:VRs C Z ν us As) (g:AV.oks (λid=>(S.heap id).isSome=E) As) {out:Out C} (l:xA s d S2 bl x=G out) {w:World} (hi:Inv w0 σ0 Z PV w) :
    Calls P s.f us.toArray w λe w'=>match e with
     | .returned v=>∃S' Z' a,out = .go S'/\Inv w0 σ0 Z' a w'/\zC κ S' ((d,v)::L) b Z' a
     | .panicked c=>∃A S' u Z' a,out = .pan A S'/\c=[{v:=u,recovered:=false}]/\Inv w0 σ0 Z' a w'/\Xy C Z' u A/\zC κ S' L b Z' a
     | .outgrown=>False:=by
 let⟨fn,t,_,_,hs⟩:=hs;exact ze3 (cl:=λw Q=>Calls P s.f us.toArray w Q) (λx r j κ st Z i PV ν vs ids h1 h2 q o=>hs x r j κ st Z i PV ν vs ids us h1 h2 q o) (λh k=>Calls.mono h k) i m h p g l hi
theorem ze4 {s:Spec C}(hs:s.OK P) (hgl:C.gl w0.w σ0) {d:Nat}{T:St C}{N:Nat}{us:List Value}{S2:St C}{bl:Bl}{x:s.ins.ty C}(hl:YM s.ins T N=G (S2,bl,x)) (hN:us.length=N)
    (h:AbsL κ S ν vs ids L b Z PV) {out:Out C} (Q:yU s d S x=G out) {w:World} (hi:Inv w0 σ0 Z PV w) (hT:∀w0 σ0,Inv w0 σ0 Z PV w->∃c D,Inv w0 σ0 c D w/\zC κ T [] (yo L b us) c D) :
    Calls P s.f us.toArray w λe w'=>match e with
     | .returned v=>∃S' Z' j,out = .go S'/\Inv w0 σ0 Z' j w'/\zC κ S' ((d,v)::L) b Z' j
     | .panicked a=>∃A S' u Z' j,out = .pan A S'/\a=[{v:=u,recovered:=false}]/\Inv w0 σ0 Z' j w'/\Xy C Z' u A/\zC κ S' L b Z' j
     | .outgrown=>False:=by
 let⟨hes,Q⟩:=zb Q;unfold YM at hl;let⟨hc,hl⟩:=zb hl;simp only[gf] at hc;have c1:=ge hc.1;have c2:=Dg hc.2;let⟨x',hx,he⟩:=D9.1 hl;cases he;let⟨gg,V,hg⟩:=hi.own;let⟨σ0',PV0',hi0',R⟩:=hT ⟨w,gg⟩ Z ⟨hi.sub,.refl Z,λb o v hb =>.inl hb,⟨gg,V,hg.sub,hg.apart,λb i e =>.inr e⟩,.refl w gg⟩;let⟨c,D,p,ν1,vs1,ids1,h1⟩:=zcf (g:=s.ins.shift) (m:=0) R hi0';generalize hS2:s.ins.shift.prep 0 T=S2 at *
 generalize hbl:ZA s.ins.shift 0 S2=bl at *
 have K:∀t,VR C c ν1 (look (yq 0 us) (λ_=>undef) t) ((xf S2).env t):=λt=>by
  have:=h1.env (vB+t);rw[yr];have e:look [] (yo L b us) (vB+t)=(us[t]?).getD undef:=by
   show yo L b us (vB+t)=_;unfold yo;have:O (vB+t) vB=false:=by
    cases e:O (vB+t) vB with
    |false=>rfl
    |true=>rw[Da] at e;omega
   rw[this];simp
  rw[e] at this;exact this
 let⟨ν',vs',ids',k1,k2,k3,k4,k5⟩:=h1.lend (T:=xf S2) rfl K hx c2;have hB:=BdOK.of ((gf _ _).mp (zb hx).1).1;have U:ids'=[]:=qF.2 λk hk=>by
  let⟨id,e⟩:=UN.1 ((k3 k).1 hk);have:=hB.lt k id e;grind
 rw[U] at k1;let⟨r,hr',Q⟩:=gd Q;have hus:us.length=s.ins.ts.length:=by rw[hN,c1]
 let⟨fn,hf,_,_,hs⟩:=hs;have z:=hs x r hr' ⟨s.ins.es.length,c2,ν'⟩ ⟨w,zc.none⟩ c (C.glm p.le p.ext (C.glm hi.le hi.ext hgl)) _ ν' vs' _ us rfl hus k1 (Pre.empty p.sub);refine Calls.mono z ?_;intro e w' hp;let⟨e',Sr,y,I,q3⟩:=XA Q hp;unfold zbg at y;cases e' with
 |normal=>cases y
 |exit i=>cases y
 |ret=>
  cases e with
  |returned v=>
   obtain⟨vals,Z',A',rfl,hnr,F,νr,vsr,idsr,hA⟩:=I;let⟨l,y⟩:=zb y;cases y;have B:=zhw (Z:=Z') (ρ:=λk=>k) (ν':=νr) (q:=λi=>(Sr.heap i).isSome=E) hA.env hA.live (λk _=>⟨rfl,rfl⟩) (λk hk=>hk);rw[hnr] at B;exact⟨_,Z,PV,rfl,hi.past p.le F,ν,vs,ids,h.put (VR.flat l B.1) (WS l)⟩
  |panicked a=>exact I.elim
  |outgrown=>exact I.elim
 |pan A=>
  cases e with
  |returned v=>exact I.elim
  |outgrown=>exact I.elim
  |panicked a=>
   obtain⟨u,Z',A',rfl,F,hp',hA⟩:=I;let⟨l,y⟩:=zb y;cases y;exact⟨_,_,u,Z,PV,rfl,rfl,hi.past p.le F,⟨WS l,λν hν=>VR.flat l (hp'.2 ν hν)⟩,ν,vs,ids,h⟩
theorem AbsL.nilB {κs:Kp}{C:Cod}{S Sr:St C}{d:Nat}{es:List ESh}{νr:Val}{vsr:Nat->List Value}{idsr:List Nat}{Lr:List (Nat×Value)}{br:Nat->Value}{A':List Priv}{κ:Kp}{ν:Val}{vs:Nat->List Value}{ids:List Nat}{L:List (Nat×Value)}{b:Nat->Value}{Z:FS}{PV:List Priv}(h:AbsL κ S ν vs ids L b Z PV) (r:AbsL κs Sr νr vsr idsr Lr br Z A') (u:κs.m=0)
    (l:zee es Sr) (g:∀k,(Sr.heap k).isSome=E->S.heap (nid d k)=M) :
    ∃ν2 f a,AbsL κ (Go.Px.unvirt (Zz S Sr d [] es)) ν2 f a L b Z (A'++PV)/\
     (∀k,(Sr.heap k).isSome=E->ν2.hdr (xz d [] k)=νr.hdr k/\ν2.adr (xz d [] k)=νr.adr k)/\∀k,(Sr.heap k).isSome=E->((Go.Px.unvirt (Zz S Sr d [] es)).heap (xz d [] k)).isSome=true:=by
 let⟨ν2,f,a,c,s,o⟩:=h.merge (bl:=[]) (d:=d) (es:=es) r (.refl Z) (λi j id e=>by simp[Bl.fn] at e) (λk id e=>by simp[Bl.fn] at e) (λk id e=>by simp[Bl.fn] at e) (λk id e=>by simp[Bl.fn] at e) l (λk p _=>g k p) Zc;have q:(ids.filter λj=> !yf j [])=ids:=List.filter_eq_self.2 λj _=>rfl
 rw[q,<- h.pv] at c;refine⟨ν2,f,a,?_,s,o⟩;refine⟨⟨c.nd,c.dom,c.pv,c.cell,λt=>?_,c.one⟩,λt=>?_,c.livec,c.keep⟩
 · show VR C Z ν2 _ (bif O t vB then _ else .und);cases O t vB with
   |true=>exact c.env t
   |false=>trivial
 · show(bif O t vB then _ else AV.und).ok _;cases O t vB with
   |true=>exact c.live t
   |false=>trivial
theorem ze5 {s:Spec C}(hs:s.OK P) (D:s.viewO=E) (hgl:C.gl w0.w σ0) {d:Nat}{T:St C}{N:Nat}{us:List Value}{S2:St C}{bl:Bl}{x:s.ins.ty C}(hl:YM s.ins T N=G (S2,bl,x)) (hN:us.length=N)
    (h:AbsL κ S ν vs ids L b Z PV) {out:Out C} (ho:yI s d S x=G out) {w:World} (hi:Inv w0 σ0 Z PV w) (hT:∀w0 σ0,Inv w0 σ0 Z PV w->∃p R,Inv w0 σ0 p R w/\zC κ T [] (yo L b us) p R) :
    Calls P s.f us.toArray w λe w'=>match e with
     | .returned v=>∃S' Z' z,out = .go S'/\Inv w0 σ0 Z' z w'/\zC κ S' ((d,v)::L) b Z' z
     | .panicked c=>∃A S' u Z' z,out = .pan A S'/\c=[{v:=u,recovered:=false}]/\Inv w0 σ0 Z' z w'/\Xy C Z' u A/\zC κ S' L b Z' z
     | .outgrown=>False:=by
 simp only[Spec.viewO,gf] at D;let⟨hes,D⟩:=D;unfold YM at hl;let⟨hc,hl⟩:=zb hl;simp only[gf] at hc;have c1:=ge hc.1;have c2:=Dg hc.2;let⟨x',hx,he⟩:=D9.1 hl;cases he;let⟨gg,hsep,hg⟩:=hi.own;let⟨σ0',PV0',hi0',hA0'⟩:=hT ⟨w,gg⟩ Z ⟨hi.sub,.refl Z,λb o v hb =>.inl hb,⟨gg,hsep,hg.sub,hg.apart,λb i e =>.inr e⟩,.refl w gg⟩;let⟨p,R,Q,ν1,vs1,ids1,h1⟩:=zcf (g:=s.ins.shift) (m:=0) hA0' hi0';generalize hS2:s.ins.shift.prep 0 T=S2 at *
 generalize hbl:ZA s.ins.shift 0 S2=bl at *
 have henv:∀t,VR C p ν1 (look (yq 0 us) (λ_=>undef) t) ((xf S2).env t):=λt=>by
  have:=h1.env (vB+t);rw[yr];have e:look [] (yo L b us) (vB+t)=(us[t]?).getD undef:=by
   show yo L b us (vB+t)=_;unfold yo;have:O (vB+t) vB=false:=by
    cases e:O (vB+t) vB with
    |false=>rfl
    |true=>rw[Da] at e;omega
   rw[this];simp
  rw[e] at this;exact this
 let⟨ν',vs',ids',k1,k2,k3,k4,k5⟩:=h1.lend (T:=xf S2) rfl henv hx c2;have hB:=BdOK.of ((gf _ _).mp (zb hx).1).1;have hids:ids'=[]:=qF.2 λk hk=>by
  let⟨id,e⟩:=UN.1 ((k3 k).1 hk);have:=hB.lt k id e;rw[qE.1 hes] at this;simp at this
 rw[hids] at k1;let⟨r,hr',ho⟩:=gd ho;have hus:us.length=s.ins.ts.length:=by rw[hN,c1]
 let⟨fn,hf,_,_,hs⟩:=hs;have K:=hs x r hr' ⟨s.ins.es.length,c2,ν'⟩ ⟨w,zc.none⟩ p (C.glm Q.le Q.ext (C.glm hi.le hi.ext hgl)) _ ν' vs' _ us rfl hus k1 (Pre.empty Q.sub);refine Calls.mono K ?_;intro e w' hp;obtain⟨e',Sr,I,V,q3,o,ho1,F,rfl⟩:=ze2 ho hp;have l:=Dx.1 D o ho1;simp only[gf] at l;let⟨hpf,I⟩:=zb I;unfold We at I;let⟨hfr,I⟩:=zb I;have hm0:s.ins.es.length=0:=by rw[qE.1 hes];rfl
 have merge:∀{Lr br Z' A'},zC ⟨s.ins.es.length,c2,ν'⟩ (o.2.open F) Lr br Z' A'->Inv ⟨w,zc.none⟩ p Z' A' w'->∃νr ν2 j a,Inv w0 σ0 Z (A'++PV) w'/\AbsL κ (unvirt (Zz S (o.2.open F) d [] (yn s.outs r))) ν2 j a L b Z (A'++PV)/\(∀t,VR C Z νr (look Lr br t) ((o.2.open F).env t))/\(∀t,((o.2.open F).env t).ok λid=>((o.2.open F).heap id).isSome=E)/\
     (∀k,((o.2.open F).heap k).isSome=E->ν2.hdr (xz d [] k)=νr.hdr k/\ν2.adr (xz d [] k)=νr.adr k)/\∀k,((o.2.open F).heap k).isSome=E->((unvirt (Zz S (o.2.open F) d [] (yn s.outs r))).heap (xz d [] k)).isSome=true:=by
  rintro Lr br Z' A' ⟨νr,vsr,idsr,hA⟩ B;let⟨U,hsp⟩:=hA.free (Z:=Z) l.1.2 l.1.1;let⟨ν2,j,a,m1,m2,m3⟩:=h.nilB (d:=d) U hm0 q3 λk hk=>by
   let⟨e,he,_⟩:=(q3 k).1 hk;exact zdk hfr k (UC.1 he).1 hk (by simp[Bl.fn])
  exact⟨νr,ν2,j,a,hi.past_own Q.le B hsp,m1,U.env,U.live,m2,m3⟩
 cases e' with
 |normal=>cases I
 |exit i=>cases I
 |ret=>
  cases e with
  |returned v=>
   obtain⟨vals,Z',A',rfl,hnr,B,hA⟩:=V;let⟨νr,ν2,j,a,m1,m2,m3,m4,m5,m6⟩:=merge hA B;cases I;have y:=zhw (ρ:=xz d []) (q:=λi=>((unvirt (Zz S (o.2.open F) d [] (yn s.outs r))).heap i).isSome=E) m3 m4 m5 m6;rw[hnr] at y;exact⟨_,Z,_,rfl,m1,ν2,j,a,m2.put y.1 y.2⟩
  |panicked c=>exact V.elim
  |outgrown=>exact V.elim
 |pan A=>
  cases e with
  |returned v=>exact V.elim
  |outgrown=>exact V.elim
  |panicked c=>
   obtain⟨u,Z',A',rfl,B,hp',hA⟩:=V;let⟨νr,ν2,j,a,m1,m2,m3,m4,m5,m6⟩:=merge hA B;cases I;exact⟨_,_,u,Z,_,rfl,rfl,m1,⟨WS hpf,λν hν=>VR.flat hpf (hp'.2 ν hν)⟩,ν2,j,a,m2⟩
end
variable [Dfr]
section
variable {κ:Kp}{C:Cod}{S:St C}{n:Nat}{w0:Start}{σ0 Z:FS}{P:Program}{L:List (Nat×Value)}{b:Nat->Value}{PV:List Priv}{ν:Val}{vs:Nat->List Value}{ids:List Nat}
mutual
def AV.nxs{D:Nat->Type}:AV D->List Nat
 | .nx id _ _ _=>[id]
 | .agg cs=>AV.nxss cs
 |_=>[]
def AV.nxss{D:Nat->Type}:List (AV D)->List Nat
 |[]=>[]
 |A::As=>AV.nxs A++AV.nxss As
end
mutual
def vQ{α:Type}(S:St C):AV C.D->(AV C.D->U3 α)->U3 α
 | .nx id T i .whole,K=>zM S id T i λU u=>K (.sl U u H)
 | .agg cs,K=>Wg S cs λcs'=>K (.agg cs')
 |A,K=>K A
def Wg{α:Type}(S:St C):List (AV C.D)->(List (AV C.D)->U3 α)->U3 α
 |[],K=>K []
 |A::As,K=>vQ S A λA'=>Wg S As λa=>K (A'::a)
end
mutual
def zhx(S:St C):AV C.D->AV C.D->Prop
 | .nx id T i .whole,B=>∃s g q U u c,S.heap id=G (.orow T s g)/\g.rd=E/\za s i=G q/\Zn C T q = .sl U u c/\B = .sl U u H
 | .agg cs,B=>∃ds,B = .agg ds/\vZ S cs ds
 |A,B=>B=A
def vZ(S:St C):List (AV C.D)->List (AV C.D)->Prop
 |[],Bs=>Bs=[]
 |A::As,Bs=>∃B a,Bs=B::a/\zhx S A B/\vZ S As a
end
theorem zoi{α:Type}{id T:Nat}{i:Int}{K:(U:Nat)->Sl (C.D U)->U3 α}{a:α}(h:zM S id T i K=G a):∃s g q U u c,S.heap id=G (.orow T s g)/\g.rd=E/\za s i=G q/\Zn C T q = .sl U u c/\K U u=G a:=by
 unfold zM at h;split at h
 ·rename_i T' s g hs;let⟨d,h⟩:=zb h;simp only[gf] at d;obtain rfl:=ge d.1;let⟨q,e,h⟩:=gd h;grind
 ·cases h
omit [Dfr] in
mutual
theorem zwy{α:Type}{r:α}:∀{A:AV C.D}{K:AV C.D->U3 α},vQ S A K=G r->∃B,K B=G r/\zhx S A B
 | .nx id T i .whole,K,h=>by
  let⟨s,g,q,U,u,c,h1,h2,e,d,a⟩:=zoi h;exact⟨_,a,s,g,q,U,u,c,h1,h2,e,d,rfl⟩
 | .agg cs,K,h=>by
  let⟨ds,h1,h2⟩:=zbS (As:=cs) h;exact⟨_,h1,ds,rfl,h2⟩
 | .nx _ _ _ (.part _ _ _),K,h=>⟨_,h,rfl⟩
 | .nx _ _ _ (.elem _ _ _),K,h=>⟨_,h,rfl⟩
 | .int _ _,K,h=>⟨_,h,rfl⟩
 | .bool _,K,h=>⟨_,h,rfl⟩
 | .str _,K,h=>⟨_,h,rfl⟩
 | .tup _,K,h=>⟨_,h,rfl⟩
 | .sl _ _ _,K,h=>⟨_,h,rfl⟩
 | .row _,K,h=>⟨_,h,rfl⟩
 | .pc _ _,K,h=>⟨_,h,rfl⟩
 | .pr _ _ _ _,K,h=>⟨_,h,rfl⟩
 | .pz _ _ _,K,h=>⟨_,h,rfl⟩
 | .pnil,K,h=>⟨_,h,rfl⟩
 | .nils,K,h=>⟨_,h,rfl⟩
 | .clo _ _,K,h=>⟨_,h,rfl⟩
 | .nilf,K,h=>⟨_,h,rfl⟩
 | .ifc _ _,K,h=>⟨_,h,rfl⟩
 | .nili,K,h=>⟨_,h,rfl⟩
 | .und,K,h=>⟨_,h,rfl⟩
theorem zbS{α:Type}{r:α}:∀{As:List (AV C.D)}{K:List (AV C.D)->U3 α},Wg S As K=G r->∃a,K a=G r/\vZ S As a
 |[],K,h=>⟨_,h,rfl⟩
 |A::As,K,h=>by
  let⟨B,h1,h2⟩:=zwy (A:=A) h;let⟨a,d,c⟩:=zbS (As:=As) h1;exact⟨_,d,B,a,rfl,h2,c⟩
end
omit [Dfr] in
mutual
theorem zq1{α β:Type}{k:α->U3 β}:∀{A:AV C.D}{K:AV C.D->U3 α},(vQ S A K).bind k=vQ S A λB=>(K B).bind k
 | .nx id T i .whole,K=>by
  show(zM S id T i _).bind k=zM S id T i _;unfold zM;split
  ·cases a:(W T _ && Own.rd _) with
   |false=>rfl
   |true=>
    show((za _ i).bind _).bind k=(za _ i).bind _;grind
  ·rfl
 | .agg cs,K=>zbT (As:=cs)
 | .nx _ _ _ (.part _ _ _),K=>rfl
 | .nx _ _ _ (.elem _ _ _),K=>rfl
 | .int _ _,K=>rfl
 | .bool _,K=>rfl
 | .str _,K=>rfl
 | .tup _,K=>rfl
 | .sl _ _ _,K=>rfl
 | .row _,K=>rfl
 | .pc _ _,K=>rfl
 | .pr _ _ _ _,K=>rfl
 | .pz _ _ _,K=>rfl
 | .pnil,K=>rfl
 | .nils,K=>rfl
 | .clo _ _,K=>rfl
 | .nilf,K=>rfl
 | .ifc _ _,K=>rfl
 | .nili,K=>rfl
 | .und,K=>rfl
theorem zbT{α β:Type}{k:α->U3 β}:∀{As:List (AV C.D)}{K:List (AV C.D)->U3 α},(Wg S As K).bind k=Wg S As λa=>(K a).bind k
 |[],K=>rfl
 |A::As,K=>by
  show(vQ S A _).bind k=vQ S A _;rw[zq1 (A:=A)];congr 1;funext B;exact zbT (As:=As)
end
def AV.bas{D:Nat->Type}:AV D->Bool
 | .agg cs=>cs.all AV.base
 |A=>A.base
def FzR(C:Cod)(S:St C)(ν:Val)(τ:FS)(l:List Nat):Prop:=∀id∈l,∀T s g,S.heap id=G (.orow T s g)->g.rd=E->∀i q U u c,za s i=G q->Zn C T q = .sl U u c->Rv C τ ((ν.adr id).sub i.toNat) (.sl U u c)
theorem zwz(h:AbsL κ S ν vs ids L b Z PV)(id:Nat){w:World}(hi:Inv w0 σ0 Z PV w):∃Z' r l,Inv w0 σ0 Z' r w/\AbsL κ (S.frz1 id) ν vs l L b Z' r/\Z.le Z'/\FzR C S ν Z' [id]:=by
 unfold St.frz1;split
 ·rename_i T s hs;let⟨m,y,hid⟩:=h.at hs;let⟨h1,f,p,a,d⟩:=hi.freeze y;have f:zn (zB C T).o T (ν.hdr id) s Z h1:=f;refine⟨_,_,_,d,h.sub hid a ((Rv.of_vrel (f.fast a λb o v e=>Xx b o v e)).vr) trivial rfl,a,?_⟩;intro j k T' s' g t;grind
 ·rename_i T s g hs;cases z:g.rd with
  |false=>
   refine⟨Z,PV,ids,hi,h,.refl Z,?_⟩;intro j k T' s' g' t x;grind
  |true=>
   let⟨m,y,hid⟩:=h.at hs;let⟨h1,f,p,a,d⟩:=hi.freeze y;have f:zn (Zd C T) T (ν.hdr id) (hpl C T (ν.adr id).sub s g) Z h1:=f;have A:=f.fast a λb o v e=>Xx b o v e
   refine⟨_,_,_,d,h.sub hid a ((Rv.of_vrel (zkv z A)).vr) trivial rfl,a,?_⟩;intro j k T' s' g' t x i q U u c D B;have k:=Dz.1 k;subst k;rw[hs] at t;cases t;exact zwi z A D B
 ·rename_i h1 h2;refine⟨Z,PV,ids,hi,h,.refl Z,?_⟩;intro j k T' s' g' t;grind
theorem zq2{id j T:Nat}{s:Sl (C.D T)}{g:Own}(a:j≠id)(h:S.heap j=G (.orow T s g)):(S.frz1 id).heap j=G (.orow T s g):=by
 have key:∀R:AV C.D,(S.sub id R).heap j=G (.orow T s g):=λR=>by
  show(bif W j id then M else(S.heap j).map _)=_;cases hb:W j id with
  |true=>exact absurd (ge hb) a
  |false=>rw[h];rfl
 unfold St.frz1;grind
theorem zkL:∀(l:List Nat) {S:St C}{Z:FS}{PV:List Priv}{ids:List Nat}(h:AbsL κ S ν vs ids L b Z PV) {w:World}(hi:Inv w0 σ0 Z PV w),∃Z' f a,Inv w0 σ0 Z' f w/\AbsL κ (S.frz l) ν vs a L b Z' f/\Z.le Z'/\FzR C S ν Z' l
 |[],S,Z,PV,ids,h,w,hi=>⟨Z,PV,ids,hi,h,.refl Z,λid hid=>by cases hid⟩
 |id::r,S,Z,PV,ids,h,w,hi=>by
  let⟨B,I,z,t,h1,D,K⟩:=zwz h id hi;let⟨o,m,d,p,h2,l2,F⟩:=zkL r h1 t;refine⟨o,m,d,p,h2,D.trans l2,?_⟩;intro j N T s g A y i q U u c v x;by_cases e:j=id
  ·exact(K j (by simp[e]) T s g A y i q U u c v x).mono l2
  ·have k:j∈r:=by
    grind
   exact F j k T s g (zq2 e A) y i q U u c v x
omit [Dfr] in
mutual
theorem zhx.vr{τ:FS}{l:List Nat}(d:Z.le τ)(f:FzR C S ν τ l):∀{A B:AV C.D}{v:Value},zhx S A B->(∀j∈A.nxs,j∈l)->VR C Z ν v A->VR C τ ν v B
 | .nx id T i .whole,B,v,⟨s,g,q,U,u,c,h1,h2,o,m,k⟩,a,r=>by
  subst k;have:=f id (a id (by simp[AV.nxs])) T s g h1 h2 i q U u c o m;rw[show v=(ν.adr id).sub i.toNat from r.1];exact(Rv.of_vrel this.vrel).vr
 | .agg cs,B,v,⟨ds,e,h⟩,a,⟨vs,p,r⟩=>by
  subst e;exact⟨vs,p,vZ.vr d f h a r⟩
 | .nx _ _ _ (.part _ _ _),B,v,h,a,r=>by rw[show B=_ from h];exact r.mono d
 | .nx _ _ _ (.elem _ _ _),B,v,h,a,r=>by rw[show B=_ from h];exact r.mono d
 | .int _ _,B,v,h,a,r=>by rw[show B=_ from h];exact r.mono d
 | .bool _,B,v,h,a,r=>by rw[show B=_ from h];exact r.mono d
 | .str _,B,v,h,a,r=>by rw[show B=_ from h];exact r.mono d
 | .tup _,B,v,h,a,r=>by rw[show B=_ from h];exact r.mono d
 | .sl _ _ _,B,v,h,a,r=>by rw[show B=_ from h];exact r.mono d
 | .row _,B,v,h,a,r=>by rw[show B=_ from h];exact r.mono d
 | .pc _ _,B,v,h,a,r=>by rw[show B=_ from h];exact r.mono d
 | .pr _ _ _ _,B,v,h,a,r=>by rw[show B=_ from h];exact r.mono d
 | .pz _ _ _,B,v,h,a,r=>by rw[show B=_ from h];exact r.mono d
 | .pnil,B,v,h,a,r=>by rw[show B=_ from h];exact r.mono d
 | .nils,B,v,h,a,r=>by rw[show B=_ from h];exact r.mono d
 | .clo _ _,B,v,h,a,r=>by rw[show B=_ from h];exact r.mono d
 | .nilf,B,v,h,a,r=>by rw[show B=_ from h];exact r.mono d
 | .ifc _ _,B,v,h,a,r=>by rw[show B=_ from h];exact r.mono d
 | .nili,B,v,h,a,r=>by rw[show B=_ from h];exact r.mono d
 | .und,B,v,h,a,r=>by rw[show B=_ from h];trivial
theorem vZ.vr{τ:FS}{l:List Nat}(d:Z.le τ)(f:FzR C S ν τ l):∀{As a:List (AV C.D)}{us:List Value},vZ S As a->(∀j∈AV.nxss As,j∈l)->VRs C Z ν us As->VRs C τ ν us a
 |[],a,[],h,_,_=>by rw[show a=[] from h];trivial
 |A::As,a,u::us,⟨B,Bs',e,h1,h2⟩,hm,⟨r1,r2⟩=>by
  subst e;exact⟨zhx.vr d f h1 (λj c=>hm j (by simp only[AV.nxss,U5];exact .inl c)) r1,vZ.vr d f h2 (λj c=>hm j (by simp only[AV.nxss,U5];exact .inr c)) r2⟩
 |[],_,_::_,_,_,r=>r.elim
 |_::_,_,[],_,_,r=>r.elim
end
def zaY{D:Nat->Type}:List (AV D)->List (AV D)->Nat->U3 (AV D)
 |A::_,B::_,0=>bif A.nxs.isEmpty then M else G B
 |_::As,_::Bs,t+1=>zaY As Bs t
 |_,_,_=>M
def zgb(S:St C)(As a:List (AV C.D)):St C:=
 let T:=(virt S As).frz (AV.nxss As)
 {env:=λt=>bif O t vB then T.env t else match zaY As a (t - vB) with
     |some B=>B
     |none=>T.env t,heap:=T.heap}
def okX{D:Nat->Type}:List (AV D)->List (AV D)->Bool
 |A::As,B::Bs=>(A.nxs.isEmpty || B.bas) && okX As Bs
 |_,_=>E
omit [Dfr] in
theorem VR.bas{Z:FS}{ν ν':Val}{A:AV C.D}{v:Value}(h:A.bas=E)(r:VR C Z ν v A):VR C Z ν' v A/\A.ok (λ_=>False):=by
 by_cases e:∃cs,A = .agg cs
 ·obtain⟨cs,rfl⟩:=e;let⟨vs,e,r⟩:=r;have hb:∀B∈cs,B.base=true:=λB a=>Dx.1 h B a
  refine⟨⟨vs,e,.of r.len λj u B h1 h2=>((r.rel h1 h2).rv (hb B (UT h2))).vr⟩,?_⟩;exact AV.oks_iff.2 λB a=>Vm (hb B a)
 ·have hb:A.base=true:=by
   cases A<;>first | exact h | grind
  exact⟨(r.rv hb).vr,Vm hb⟩
theorem zhy{ν':Val}{τ:FS}{l:List Nat}(d:Z.le τ)(f:FzR C S ν τ l):∀{As a:List (AV C.D)}{us:List Value}{t:Nat}{B:AV C.D},vZ S As a->okX As a=E->(∀j∈AV.nxss As,j∈l)->VRs C Z ν us As->zaY As a t=G B->VR C τ ν' ((us[t]?).getD undef) B/\B.ok (λ_=>False)
 |A::As,B0::a,u::us,0,B,⟨B1,Bs1,e,h1,h2⟩,hk,hm,⟨r1,r2⟩,hs=>by
  cases e;simp only[okX,gf] at hk;unfold zaY at hs;cases g:A.nxs.isEmpty with
  |true=>grind
  |false=>
   rw[g] at hs hk;cases hs;have:=zhx.vr d f h1 (λj c=>hm j (by simp only[AV.nxss,U5];exact .inl c)) r1;exact VR.bas jE this
 |A::As,B0::a,u::us,t+1,B,⟨B1,Bs1,e,h1,h2⟩,hk,hm,⟨r1,r2⟩,hs=>by
  cases e;simp only[okX,gf] at hk;have:=zhy (ν':=ν') d f (t:=t) h2 hk.2 (λj c=>hm j (by simp only[AV.nxss,U5];exact .inr c)) r2 hs;grind
 |[],a,us,t,B,h,_,_,_,hs=>by
  rw[show a=[] from h] at hs;cases t<;>cases hs
 |A::As,[],us,t,B,⟨_,_,e,_⟩,_,_,_,hs=>by cases e
 |A::As,B0::a,[],t,B,_,_,_,r,hs=>r.elim
theorem zsE (h:AbsL κ S ν vs ids L b Z PV) {us:List Value}{As e:List (AV C.D)}(k:VRs C Z ν us As) (d:AV.oks (λid=>(S.heap id).isSome=E) As) (m:okX As e=E) (o:vZ S As e) {w:World}{w0:Start}{σ0:FS}(hi:Inv w0 σ0 Z PV w) :
    ∃a c,Inv w0 σ0 a c w/\zC κ (zgb S As e) [] (yo L b us) a c:=by
 let⟨a,c,g,l,h1,p,q⟩:=zkL (AV.nxss As) (h.virt k d) hi;have f:FzR C S ν a (AV.nxss As):=q;refine⟨a,c,l,ν,vs,g,⟨h1.nd,h1.dom,h1.pv,h1.cell,λt=>?_,h1.one⟩,λt=>?_,h1.livec,h1.keep⟩
 · show VR C a ν (look [] (yo L b us) t) (bif O t vB then _ else match zaY As e (t - vB) with | some B=>B | none=>_);cases hb:O t vB with
   |true=>exact h1.env t
   |false=>
    simp only[U8];cases hs:zaY As e (t - vB) with
    |none=>exact h1.env t
    |some B=>
     have:=(zhy (ν':=ν) p f o m (λj i=>i) k hs).1;show VR C a ν (yo L b us t) B;unfold yo;grind
 · show(bif O t vB then _ else match zaY As e (t - vB) with | some B=>B | none=>_:AV C.D).ok _;cases hb:O t vB with
   |true=>exact h1.live t
   |false=>
    simp only[U8];cases hs:zaY As e (t - vB) with
    |none=>exact h1.live t
    |some B=>exact AV.ok_mono (λ_ h=>h.elim) (zhy (ν':=ν) p f o m (λj i=>i) k hs).2
def XB(S:St C)(id:Nat):List Nat:=match S.heap id with
 |some (.cell cs)=>AV.rowss cs
 |_=>[]
def wB{α:Type}:List (Nat×Sh)->St C->(St C->U3 α)->U3 α
 |[],T,K=>K T
 |(t,s)::ts,T,K=>match s,T.env (vB+t) with
  | .pz a _,.pc id off=>(match(T.frz (XB T id)).heap id with
   |some (.cell cs)=>(C.imp a cs).bind λq=>wB ts {env:=upd ((T.frz (XB T id)).sub id .und).env (vB+t) (.pz a q off),heap:=((T.frz (XB T id)).sub id .und).heap} K
   |_=>M)
  |_,_=>wB ts T K
theorem zbU{α β:Type}{k:α->U3 β}:∀{ts:List (Nat×Sh)}{T:St C}{K:St C->U3 α},(wB ts T K).bind k=wB ts T λT'=>(K T').bind k
 |[],T,K=>rfl
 |(t,s)::ts,T,K=>by
  unfold wB;split
  ·split
   ·rw[gh];congr 1;funext q;exact zbU
   ·rfl
  ·exact zbU
theorem zC.envv{T:St C}{L:List (Nat×Value)}{b:Nat->Value}(h:AbsL κ T ν vs ids L b Z PV){t:Nat}{A:AV C.D}(c:VR C Z ν (look L b t) A)(a:A.ok λid=>(T.heap id).isSome=E):AbsL κ {env:=upd T.env t A,heap:=T.heap} ν vs ids L b Z PV:=by
 refine⟨⟨h.nd,h.dom,h.pv,h.cell,λi=>?_,h.one⟩,λi=>?_,h.livec,h.keep⟩
 ·show VR C Z ν _ (upd T.env t A i);by_cases e:i=t
  ·subst e;rw[zp];exact c
  ·rw[zq e];exact h.env i
 ·show(upd T.env t A i).ok _;by_cases e:i=t
  ·subst e;rw[zp];exact a
  ·rw[zq e];exact h.live i
theorem zwA {T:St C}{L:List (Nat×Value)}{b:Nat->Value}(h:AbsL κ T ν vs ids L b Z PV) {t id off g:Nat}{cs:List (AV C.D)}{q:C.D g}(z:look L b t = .pointer (G ((ν.adr id).a.add off))) (s:T.heap id=G (.cell cs)) (y:C.imp g cs=G q) {w:World}{w0:Start}{σ0:FS}(hi:Inv w0 σ0 Z PV w) :
    ∃e f,Inv w0 σ0 e f w/\zC κ {env:=upd (T.sub id .und).env t (.pz g q off),heap:=(T.sub id .und).heap} L b e f:=by
 let⟨m,x,hid⟩:=h.at s;let⟨h1,i,r,d,k⟩:=hi.freeze x;have i:Z2 (ν.adr id).a (vs id) h1:=i;have h2:=h.sub hid d (R :=.und) trivial trivial rfl;refine⟨_,_,k,ν,vs,_,zC.envv h2 (A :=.pz g q off) ?_ trivial⟩;rw[z];have p:=(h.cell id cs s).mono d;have c:=WP (ν:=ν) p y;have v:=c.1;refine Rv.pz (λj=>((vs id)[j]?).getD default) (λj A l=>?_) (λj A l=>?_)
 ·let⟨u,o,B⟩:=c.2 j A l;rw[o];rw[Addr.add_eq _ i.1];simpa[FS.cell] using Xx (Z:=Z) _ _ _ (i.2 j u o)
 ·let⟨u,o,B⟩:=c.2 j A l;grind
theorem v6 {α:Type}{r:α}:∀{ts:List (Nat×Sh)}{T:St C}{K:St C->U3 α},wB ts T K=G r->
    ∃T',K T'=G r/\∀{κ:Kp} {L:List (Nat×Value)} {b:Nat->Value} {us:List Value} {w:World} {w0:Start} {σ0 Z:FS} {PV:List Priv},zC κ T [] (yo L b us) Z PV->Inv w0 σ0 Z PV w->∃a c,Inv w0 σ0 a c w/\zC κ T' [] (yo L b us) a c
 |[],T,K,h=>⟨T,h,λhA hi=>⟨_,_,hi,hA⟩⟩
 |(t,s)::ts,T,K,h=>by
   unfold wB at h;split at h
   · rename_i u o id off e;split at h
     ·rename_i cs d;let⟨q,m,h⟩:=gd h;let⟨T',h1,h2⟩:=v6 h;refine⟨T',h1,λhA hi=>?_⟩;let⟨ν,vs,ids,hA⟩:=hA;have i:=hA.env (vB+t);rw[e] at i;let⟨a,c,g,f,p,_,_⟩:=zkL (XB T id) hA hi;let⟨j,k,l,v⟩:=zwA p i d m f;grind
     ·cases h
   ·exact v6 h
def xB(Γ:List (Spec C))(S:St C)(d f:Nat)(As:List (AV C.D)):U3 (Out C):=match Γ with
 |[]=>M
 |s :: Γ=>bif W s.f f && (s.view || s.viewO) then Wg S As λa=>chk (okX As a) (wB s.ins.ts (zgb S As a) λT=>match YM s.ins T As.length with
    |some (_,_,x)=>bif s.view then yU s d S x else yI s d S x
    |none=>M) else xB Γ S d f As
def YN(Γ0 Γ:List (Spec C))(S:St C)(d f:Nat)(As:List (AV C.D)):U3 (Out C):=match Γ with
 |[]=>xB Γ0 S d f As
 |s::Γ=>bif W s.f f then(match YX s.ins S As with
  |some (S2,bl,x)=>bif s.view then yU s d S x else bif s.viewO then yI s d S x else xA s d S2 bl x
  |none=>YN Γ0 Γ S d f As) else YN Γ0 Γ S d f As
def vE(Γ:List (Spec C))(S:St C)(d f:Nat)(As:List (AV C.D)):U3 (Out C):=YN Γ Γ S d f As
theorem zgc (l:C.gl w0.w σ0) {d:Nat}{f:FuncId}{As:List (AV C.D)}{us:List Value}{out:Out C}(h:AbsL κ S ν vs ids L b Z PV) (r:VRs C Z ν us As) (c:AV.oks (λid=>(S.heap id).isSome=E) As) {w:World}(hi:Inv w0 σ0 Z PV w):∀{Γ:List (Spec C)},(∀s∈Γ,s.OK P)->xB Γ S d f As=G out->
    ∃ fn, P.funcs[f]? = G fn /\ (fn.name == "runtime.NumGoroutine") = H /\ fn.body.isNone = H /\ Calls P f us.toArray w fun e w' => match e with
     | .returned v=>∃S' Z' g,out = .go S'/\Inv w0 σ0 Z' g w'/\zC κ S' ((d,v)::L) b Z' g
     | .panicked j=>∃A S' u Z' g,out = .pan A S'/\j=[{v:=u,recovered:=false}]/\Inv w0 σ0 Z' g w'/\Xy C Z' u A/\zC κ S' L b Z' g
     | .outgrown=>False
 |[],_,a=>by cases a
 |s::Γ,i,a=>by
  unfold xB at a;cases q:(W s.f f && (s.view || s.viewO)) with
  |false=>
   rw[q,U8] at a;exact zgc l h r c hi (λs hs=>i s (D2 _ hs)) a
  |true=>
   rw[q,Dy] at a;simp only[gf,UO] at q;have:=ge q.1;subst this;let⟨U,a,I⟩:=zbS a;let⟨K,a⟩:=zb a;let⟨T,o,Q⟩:=v6 a;have p:∀w0 σ0,Inv w0 σ0 Z PV w->∃k m,Inv w0 σ0 k m w/\zC κ T [] (yo L b us) k m:=λw0 σ0 hi=>by
    let⟨k,m,R,N⟩:=zsE h r c K I hi;grind
   let⟨fn,h1,h2,z,_⟩:=i s je;split at o
   · rename_i S2 bl x y;have F:us.length=As.length:=r.len;cases B:s.view with
     |true=>rw[B] at o;exact⟨fn,h1,h2,z,ze4 (i s je) l y F h o hi p⟩
     |false=>
      rw[B] at o;have t:s.viewO=true:=jE
      exact⟨fn,h1,h2,z,ze5 (i s je) t l y F h o hi p⟩
   ·cases o
theorem zbV (c:C.gl w0.w σ0) {d:Nat}{f:FuncId}{As:List (AV C.D)}{us:List Value}{out:Out C}(h:AbsL κ S ν vs ids L b Z PV) (i:VRs C Z ν us As) (a:AV.oks (λid=>(S.heap id).isSome=E) As) {w:World}(hi:Inv w0 σ0 Z PV w):∀{Γ0 Γ:List (Spec C)},(∀s∈Γ0,s.OK P)->(∀s∈Γ,s.OK P)->YN Γ0 Γ S d f As=G out->
    ∃ fn, P.funcs[f]? = G fn /\ (fn.name == "runtime.NumGoroutine") = H /\ fn.body.isNone = H /\ Calls P f us.toArray w fun e w' => match e with
     | .returned v=>∃S' Z' g,out = .go S'/\Inv w0 σ0 Z' g w'/\zC κ S' ((d,v)::L) b Z' g
     | .panicked j=>∃A S' u Z' g,out = .pan A S'/\j=[{v:=u,recovered:=false}]/\Inv w0 σ0 Z' g w'/\Xy C Z' u A/\zC κ S' L b Z' g
     | .outgrown=>False
 |Γ0,[],hΓ0,_,ho=>zgc c h i a hi hΓ0 ho
 |Γ0,s::Γ,hΓ0,hΓ,ho=>by
  unfold YN at ho;cases m:W s.f f with
  |false=>
   rw[m,U8] at ho;exact zbV c h i a hi hΓ0 (λs hs=>hΓ s (D2 _ hs)) ho
  |true=>
   rw[m,Dy] at ho;have:=ge m;subst this;split at ho
   · rename_i S2 bl x l;have hs:=hΓ s je;let⟨fn,h1,h2,o,_⟩:=hs;cases p:s.view with
     |true=>rw[p] at ho;exact⟨fn,h1,h2,o,ze4 (hΓ s je) c (T:=virt S As) (N:=As.length) l i.len h ho hi (λw0 σ0 hi=>⟨Z,PV,hi,ν,vs,ids,h.virt i a⟩)⟩
     |false=>
      rw[p,U8] at ho;cases k:s.viewO with
      |true=>rw[k] at ho;exact⟨fn,h1,h2,o,ze5 (hΓ s je) k c (T:=virt S As) (N:=As.length) l i.len h ho hi (λw0 σ0 hi=>⟨Z,PV,hi,ν,vs,ids,h.virt i a⟩)⟩
      |false=>rw[k] at ho;exact⟨fn,h1,h2,o,zoh (hΓ s je) c l h i a ho hi⟩
   ·exact zbV c h i a hi hΓ0 (λs hs=>hΓ s (D2 _ hs)) ho
theorem ziy (j:C.gl w0.w σ0) {d:Nat}{f:FuncId}{As:List (AV C.D)}{us:List Value}{out:Out C}(h:AbsL κ S ν vs ids L b Z PV) (l:VRs C Z ν us As) (g:AV.oks (λid=>(S.heap id).isSome=E) As) {w:World}(hi:Inv w0 σ0 Z PV w) {Γ:List (Spec C)}(i:∀s∈Γ,s.OK P) (k:vE Γ S d f As=G out) :
    ∃ fn, P.funcs[f]? = G fn /\ (fn.name == "runtime.NumGoroutine") = H /\ fn.body.isNone = H /\ Calls P f us.toArray w fun e w' => match e with
     | .returned v=>∃S' Z' a,out = .go S'/\Inv w0 σ0 Z' a w'/\zC κ S' ((d,v)::L) b Z' a
     | .panicked c=>∃A S' u Z' a,out = .pan A S'/\c=[{v:=u,recovered:=false}]/\Inv w0 σ0 Z' a w'/\Xy C Z' u A/\zC κ S' L b Z' a
     | .outgrown=>False:=zbV j h l g hi i i k
end
end
end Go.Px
