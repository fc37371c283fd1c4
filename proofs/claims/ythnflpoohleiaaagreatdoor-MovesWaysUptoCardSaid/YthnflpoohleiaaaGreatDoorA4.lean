/- Part A4. -/
import Derived.Test.YthnflpoohleiaaaGreatDoorB3
import Derived.Scope
set_option linter.unusedSectionVars false
set_option linter.unusedVariables false
set_option linter.unusedSimpArgs false
namespace Go.Px
open Bool renaming true->E,false->H
open Go.Region renaming wanted->Y
open List renaming map_map->qc,range'->qk,range->qo,pairwise_map->qs,map->qv,filter_sublist->qx,range_eq_range'->qB,nodup_append->qC,mem_iff_getElem?->qD,isEmpty_iff->qE,eq_nil_iff_forall_not_mem->qF
open List.Nodup renaming sublist->qA
open List.Pairwise renaming imp_of_mem->qy
open Nat renaming blt->O,beq->W,ble->X
open _root_.Option renaming some->G,none->M,some->qb
section
theorem D2:∀{α:Type _}{β:Type _}{f:α->β}{b a:List α},qv f (b++a)=qv f b++qv f a:=@List.map_append
theorem D1:∀{α:Type _}{b:α}{α_1:Type _}{x:Option α_1}{f:α_1->α},Option.map f x=G b↔∃a,x=G a/\f a=b:=@Option.map_eq_some_iff
variable [Dfr]
section
variable {κ:Kp}{C:Cod}{S:St C}{n:Nat}{w0:Start}{σ0:FS}{P:Program}{ρ:Type}{stp:yQ C}{dr:YC C}{lp:ZX}{hs:Nat->Uv Hint}
def At(n:Nat)(w0:Start)(σ0:FS)(κ:Kp)(S:St C)(a:Act)(w:World):Prop:=∃L b Z PV,zD κ S L b Z PV/\Inv w0 σ0 Z PV w/\Fits n L b a
def AtP(n:Nat)(w0:Start)(σ0:FS)(κ:Kp)(v:AV C.D)(S:St C)(c:List PanicEntry)(a:Act)(w:World):Prop:=∃u L b Z PV,c=[{v:=u,recovered:=false}]/\Xx C Z u v/\zD κ S L b Z PV/\Inv w0 σ0 Z PV w/\Fits n L b a
def Zj(n:Nat)(w0:Start)(σ0:FS)(κ:Kp)(K:XE C->St C->Uv ρ)(r:ρ):Exit->Act->World->Prop
 | .normal,a,w=>∃S',K .normal S'=G r/\At n w0 σ0 κ S' a w
 | .exit i,a,w=>∃S',K (.exit i) S'=G r/\At n w0 σ0 κ S' a w
 | .ret,a,w=>∃S',K .ret S'=G r/\At n w0 σ0 κ S' a w
 | .panic b,a,w=>∃v S',K (.pan v) S'=G r/\AtP n w0 σ0 κ v S' b a w
 |_,_,_=>False
def zfr(n:Nat)(w0:Start)(σ0:FS)(κ:Kp)(S:St C)(e:XE C)(x:Exit)(a:Act)(w:World):Prop:=match e,x with
 | .normal,.normal=>At n w0 σ0 κ S a w
 | .exit i,.exit j=>i=j/\At n w0 σ0 κ S a w
 | .ret,.ret=>At n w0 σ0 κ S a w
 | .pan v,.panic b=>AtP n w0 σ0 κ v S b a w
 |_,_=>False
def zku(P:Program)(n:Nat)(κ:Kp)(stp:Oper->St C->Uv (Out C)):Prop:=
 ∀(w0:Start) (σ0:FS),C.gl w0.w σ0->∀(o:Oper) (S:St C) L b Z PV,zD κ S L b Z PV->OpA κ P n w0 σ0 o (stp o S) L b Z PV
def xP(P:Program)(n:Nat)(κ:Kp)(stp:yQ C):Prop:=zku P n κ (λo S=>stp o S _ G)/\∀(o:Oper) (S:St C) (ρ:Type) (k:Out C->Uv ρ),stp o S ρ k=(stp o S _ G).bind k
def vM(P:Program)(n:Nat)(κ:Kp)(dr:YC C):Prop:=
 ∀(w0:Start) (σ0:FS),C.gl w0.w σ0->∀(ρ:Type) (id:Nat) (ops:Array Oper) (b:List (Nat×Bool)) (S:St C) (K:XE C->St C->Uv ρ) (r:ρ),dr ops b ρ S K=G r->∀(a:Act) (w:World),At n w0 σ0 κ S a w->(Code.region id ops E).wp P (Zj n w0 σ0 κ K r) a w
def xv(lp:ZX):Prop:=∀{s β:Type}(f:s->Uv (Step s β)) (x:s) (y:β),lp f x=G y->∃k,yb f k x=G y
omit [Dfr] in
theorem Xx.mono{Z τ:FS}(l:Z.le τ){u:Value}{v:AV C.D}(h:Xx C Z u v):Xx C τ u v:=⟨h.1,λν a=>(h.2 ν a).mono l⟩
theorem At.close{g:Sig}{x:g.ty C}{a:Act}{w:World}(f:g.close κ.m S=G x)(h:At n w0 σ0 κ S a w):At n w0 σ0 κ (g.open x) a w:=by
 let⟨L,b,Z,PV,hA,hi,e⟩:=h;let⟨Z',c,d,i⟩:=zdI f hA hi;exact⟨L,b,Z',c,i,d,e⟩
theorem Wb{g:Sig}{x:g.ty C}{L:List (Nat×Value)}{b:Nat->Value}{Z:FS}{PV:List Priv}{w:World}(n:g.close κ.m S=G x)(hA:zD κ S L b Z PV)(hi:Inv w0 σ0 Z PV w):∃Z' d,Z.le Z'/\Inv w0 σ0 Z' d w/\zD κ (g.open x) L b Z' d:=by
 let⟨k,h,j⟩:=hi.own;let⟨Z',d,a,p⟩:=zdI (w0:=⟨w,k⟩) (σ0:=Z) n hA (w:=w) ⟨hi.sub,.refl Z,λb o v hb =>.inl hb,⟨k,h,j.sub,j.apart,λb i e =>.inr e⟩,.refl w k⟩;refine⟨Z',d,a.le,?_,p⟩;let⟨g2,f,c⟩:=a.own;refine⟨a.sub,hi.le.trans a.le,λb o v hb=>?_,⟨g2,f,c.sub,c.apart,λb i e=>?_⟩,hi.ext⟩
 ·rcases a.fresh b o v hb with z | z | z
  ·exact hi.fresh b o v z
  ·have:=a.lt hb;grind
  ·exact .inr (j.mine b (o+1) z)
 ·rcases c.mine b i e with z | z
  ·let⟨y,l⟩:=UG.1 e;have:=Bit.at_lt (c.sub b i y l);grind
  ·exact j.mine b i z
theorem Xx.again{Z τ:FS}(l:Z.le τ){u:Value}{v:AV C.D}(h:Xx C Z u v){s:Sh}{y:s.ty C}(b:Sh.get (λ_=>M) s v=G y):Xx C τ u (Sh.put (λk=>k) s y):=by
 refine⟨AV.ok_mono (λj c=>?_) (Sh.put_ok (ρ:=λk=>k) s b),λν' a=>?_⟩
 ·let⟨k,id,e,_⟩:=c;cases e
 ·exact Sh.get_put (ν:=ν') (B:=λ_=>M) ⟨(λk id e=>by cases e),a⟩ s b ((h.2 ν' a).mono l)
theorem AtP.close{g:Sig}{x:g.ty C}{a:Act}{w:World}{v:AV C.D}{c:List PanicEntry}{s:Sh}{y:s.ty C}(j:Sh.get (λ_=>M) s v=G y)(o:g.close κ.m S=G x)(h:AtP n w0 σ0 κ v S c a w):AtP n w0 σ0 κ (Sh.put (λk=>k) s y) (g.open x) c a w:=by
 let⟨u,L,b,Z,PV,e,hp,hA,hi,i⟩:=h;let⟨Z',d,l,f,p⟩:=Wb o hA hi;exact⟨u,L,b,Z',d,e,hp.again l j,p,f,i⟩
theorem zio {k:XK}{g:Sig}{e:XE C}{y:XK.ty C k g}{K:XE C->St C->Uv ρ}{r:ρ}(b:zgw κ.m k g e S=G y) (j:Yi k g y K=G r) {x:Exit}{a:Act}{w:World} :
    zfr n w0 σ0 κ S e x a w->Zj n w0 σ0 κ K r x a w:=by
 intro h;cases e with
 |normal=>
  cases x<;>first | exact h.elim | skip
  cases k<;>first | (cases b;done) | exact⟨_,j,At.close b h⟩
 |exit i=>
  cases x<;>first | exact h.elim | skip
  obtain⟨rfl,h⟩:=h;cases k<;>first | (cases b;done) | skip
  let⟨p,c⟩:=zb b;obtain rfl:=ge p;exact⟨_,j,At.close c h⟩
 |ret=>
  cases x<;>first | exact h.elim | skip
  cases k<;>first | (cases b;done) | exact⟨_,j,At.close b h⟩
 |pan v=>
  cases x<;>first | exact h.elim | skip
  cases k<;>first | (cases b;done) | skip
  rename_i q s;let⟨z,u,c⟩:=gd b;let⟨d,t,o⟩:=gd c;cases o;have B:Sh.hd (s:=s) (l:=g.shs) (Sh.pk (s:=s) (l:=g.shs) z d)=z:=Sh.hd_pk;have A:Sh.tl (s:=s) (l:=g.shs) (Sh.pk (s:=s) (l:=g.shs) z d)=d:=Sh.tl_pk;have f:K (.pan (Sh.put (λk=>k) s (Sh.hd (s:=s) (l:=g.shs) (Sh.pk (s:=s) (l:=g.shs) z d)))) (g.open (Sh.tl (s:=s) (l:=g.shs) (Sh.pk (s:=s) (l:=g.shs) z d)))=G r:=j;rw[B,A] at f;exact⟨_,_,f,AtP.close u t h⟩
theorem Yq:∀{outs:List (XK×Sig)}{e:XE C}{y:zg C outs}{K:XE C->St C->Uv ρ}{r:ρ},zU κ.m outs e S=G y->zT outs y K=G r->∀{x:Exit}{a:Act}{w:World},
    zfr n w0 σ0 κ S e x a w->Zj n w0 σ0 κ K r x a w
 |[],e,y,K,r,b,ho,x,a,w,h=>by cases b
 |[o],e,y,K,r,b,ho,x,a,w,h=>zio b ho h
 |o::o2::l,e,y,K,r,b,ho,x,a,w,h=>by
  unfold zU at b;unfold zT at ho;cases hi:XK.is o.1 e with
  |true=>
   rw[hi,Dq] at b;split at b
   ·rename_i z c;cases b;exact zio c ho h
   ·obtain⟨z,c,rfl⟩:=D1.1 b;exact Yq c ho h
  |false=>
   rw[hi,U0] at b;obtain⟨z,c,rfl⟩:=D1.1 b;exact Yq c ho h
theorem Zj.out{outs:List (XK×Sig)}{y:zg C outs}{K:XE C->St C->Uv ρ}{r:ρ}(d:zT outs y K=G r){x:Exit}{a:Act}{w:World}(h:Zj n w0 σ0 κ (λe S'=>zU κ.m outs e S') y x a w):Zj n w0 σ0 κ K r x a w:=by
 cases x with
 |normal=>let⟨S',c,h⟩:=h;exact Yq c d (e :=.normal) h
 |exit i=>let⟨S',c,h⟩:=h;exact Yq c d (e :=.exit i) (x :=.exit i) ⟨rfl,h⟩
 |ret=>let⟨S',c,h⟩:=h;exact Yq c d (e :=.ret) (x :=.ret) h
 |panic b=>let⟨v,S',c,h⟩:=h;exact Yq c d (e :=.pan v) (x :=.panic b) h
 |goto l=>exact h.elim
 |outgrown=>exact h.elim
theorem At.skip{a:Act}{w:World}(h:At n w0 σ0 κ S a w){d:Nat}(hd:O d n=E):At n w0 σ0 κ (S.put d (.tup [])) (a.put (G d) undef) w:=by
 let⟨L,b,Z,PV,⟨ν,vs,ids,hA⟩,hi,c⟩:=h;exact⟨_,b,Z,PV,⟨ν,vs,ids,hA.put (v:=undef) ⟨[],rfl,trivial⟩ trivial⟩,hi,c.put (by simpa[UT] using hd) _⟩
theorem At.lit{a:Act}{w:World}(h:At n w0 σ0 κ S a w){d:Nat}{q:Bool}(f:S.env d = .bool q):At n w0 σ0 κ (S.put d (.bool q)) a w:=by
 let⟨L,b,Z,PV,⟨ν,vs,ids,hA⟩,hi,c⟩:=h;have:S.put d (.bool q)=S:=by
  unfold St.put;have:upd S.env d (.bool q)=S.env:=by
   funext t;by_cases e:t=d
   ·subst e;rw[zp,f]
   ·rw[zq e]
  rw[this]
 rw[this];exact⟨L,b,Z,PV,⟨ν,vs,ids,hA⟩,hi,c⟩
theorem At.yield{a:Act}{w:World}(h:At n w0 σ0 κ S a w){ops:Array Oper}{j d:Nat}(i:(ops[j]?).bind (·.dst)=G d):(∀q,S.env d = .bool q->yielded ops a.tmps j=G q)/\(S.env d = .tup []->yielded ops a.tmps j=M):=by
 let⟨L,b,Z,PV,⟨ν,vs,ids,hA⟩,hi,g⟩:=h;have k:=congrFun (g.yielded ops) j;have f:=hA.env d;rw[k];unfold zfj;rw[i];refine⟨λq e=>?_,λe=>?_⟩
 ·rw[e] at f;show(match look L b d with | .bool c=>G c | _=>M)=G q;have:=f.bool_inv;grind
 ·rw[e] at f;let⟨us,l,m⟩:=f;grind
theorem zqU (g:C.gl w0.w σ0) (c:xP P n κ stp) {o:Oper}{next:St C->(XE C->St C->Uv ρ)->Uv ρ}{K:XE C->St C->Uv ρ}{r:ρ}
    (h:(stp o S ρ λout=>match out with
      | .go S'=>next S' K
      | .pan v S'=>K (.pan v) S')=G r) {a:Act} {w:World} (hA:At n w0 σ0 κ S a w) {Kw:Act->World->Prop} (m:∀S' a' w',next S' K=G r->At n w0 σ0 κ S' a' w'->Kw a' w') :
    o.wp P a w Kw (Zj n w0 σ0 κ K r):=by
 let⟨L,b,Z,PV,hA,hi,j⟩:=hA;rw[c.2] at h;let⟨out,l,h⟩:=gd h;refine c.1 w0 σ0 g o S L b Z PV hA out l a w hi j Kw _ ?_ ?_
 ·rintro S' rfl k Z' d a' w' e i f;exact m S' a' w' h ⟨k,b,Z',d,f,e,i⟩
 ·rintro v S' rfl u Z' d w' e f hp;exact⟨v,S',h,u,L,b,Z',d,rfl,hp,f,e,j⟩
theorem YU(c:C.gl w0.w σ0)(b:xP P n κ stp){ops:Array Oper}:∀(l:List Oper) {S:St C}{K:XE C->St C->Uv ρ}{r:ρ},ZK stp n ops l S K=G r->∀{a:Act}{w:World},At n w0 σ0 κ S a w->wpList P ops (Zj n w0 σ0 κ K r) l a w
 |[],S,K,r,h,a,w,hA=>⟨S,h,hA⟩
 |o::l,S,K,r,h,a,w,hA=>by
  unfold ZK at h;split at h
  · rename_i k;refine wpList_plain k λKw f=>?_
    exact zqU c b (next:=λS K=>ZK stp n ops l S K) h hA λS' a' w' t i=>f _ _ (YU c b l t i)
  · rename_i j g k;split at h
    ·cases h
    · rename_i y v;have u:=hA.yield v;have skip:∀{S:St C},At n w0 σ0 κ S a w->ZK.skip n o S K (λS K=>ZK stp n ops l S K)=G r->∀(Kw:Act->World->Prop),(∀a w,wpList P ops (Zj n w0 σ0 κ K r) l a w->Kw a w)->Kw (a.put o.dst undef) w:=by
        intro S hA h Kw f;unfold ZK.skip at h;split at h
        ·rename_i d hd;let⟨x,h⟩:=zb h;rw[hd];exact f _ _ (YU c b l h (hA.skip x))
        ·rename_i hd;rw[hd];exact f _ _ (YU c b l h hA)
      have go:∀{S:St C} {run:Bool},At n w0 σ0 κ S a w->ZK.go stp n o l S run K (λS K=>ZK stp n ops l S K)=G r->∀(Kw:Act->World->Prop),(∀a w,wpList P ops (Zj n w0 σ0 κ K r) l a w->Kw a w)->
          (if run=E then o.wp P a w Kw (Zj n w0 σ0 κ K r) else Kw (a.put o.dst undef) w):=by
       intro S run hA h Kw f;unfold ZK.go at h;cases run with
       |true=>
        rw[jv rfl];exact zqU c b (next:=λS K=>ZK stp n ops l S K) h hA λS' a' w' t i=>f _ _ (YU c b l t i)
       |false=>exact skip hA h Kw f
      split at h
      · rename_i q e;have m:=u.1 q e;refine wpList_step λKw f=>?_
        have s:Y o (yielded ops a.tmps)=(q == g):=by simp[Y,k,m]
        rw[s];cases q with
        |true=>
         rw[jv rfl] at h;have:=go (run:=g) (hA.lit e) h Kw f;grind
        |false=>
         rw[jx je] at h;have:=go (run:= !g) (hA.lit e) h Kw f;grind
      · rename_i e;have p:=u.2 e;refine wpList_step λKw f=>?_
        have s:Y o (yielded ops a.tmps)=false:=by simp[Y,k,p]
        rw[s];exact skip hA h Kw f
      ·cases h
def Xa(P:Program)(n:Nat)(w0:Start)(σ0:FS)(κ:Kp)(c:Code)(run:(ρ:Type)->St C->(XE C->St C->Uv ρ)->Uv ρ):Prop:=
 ∀(ρ:Type) (S:St C) (K:XE C->St C->Uv ρ) (r:ρ),run ρ S K=G r->∀(a:Act) (w:World),At n w0 σ0 κ S a w->c.wp P (Zj n w0 σ0 κ K r) a w
theorem XS{c:Code}{i:Nat}{b:(ρ:Type)->St C->(XE C->St C->Uv ρ)->Uv ρ}(h:Xa P n w0 σ0 κ c b):Xa P n w0 σ0 κ c (λ_ S K=>ZD.wrap κ.m hs i S K b):=by
 intro ρ S K r d a w hA;unfold ZD.wrap at d;split at d
 ·rename_i outs _;let⟨y,g,j⟩:=gd d;exact wp_mono (h _ _ _ _ g _ _ hA) λe a w f=>f.out j
 ·exact h _ _ _ _ d _ _ hA
theorem yS(z:C.gl w0.w σ0)(t:xP P n κ stp)(hdr:vM P n κ dr)(A:xv lp):∀(c:Code) (i:Nat),Xa P n w0 σ0 κ c (λρ S K=>ZD stp dr lp n κ.m hs c i ρ S K)
 | .skip,i=>by
  show Xa P n w0 σ0 κ .skip λ_ S K=>ZD.wrap κ.m hs i S K _
  exact XS λ_ _ _ _ p a w hA=>wp_skip ⟨_,p,hA⟩
 | .ret,i=>by
  show Xa P n w0 σ0 κ .ret λ_ S K=>ZD.wrap κ.m hs i S K _
  exact XS λ_ _ _ _ p a w hA=>wp_ret ⟨_,p,hA⟩
 | .exit j,i=>by
  show Xa P n w0 σ0 κ (.exit j) λ_ S K=>ZD.wrap κ.m hs i S K _
  exact XS λ_ _ _ _ p a w hA=>wp_exit ⟨_,p,hA⟩
 | .seq c d,i=>by
  show Xa P n w0 σ0 κ (.seq c d) λ_ S K=>ZD.wrap κ.m hs i S K _
  refine XS λρ S K r p a w hA=>?_
  refine wp_seq (wp_mono (yS z t hdr A c (i+1) _ _ _ _ p _ _ hA) ?_);intro e a w u;cases e with
  |normal=>let⟨S',s,k⟩:=u;exact yS z t hdr A d _ _ _ _ _ s _ _ k
  |exit j=>let⟨S',s,k⟩:=u;exact⟨S',s,k⟩
  |ret=>let⟨S',s,k⟩:=u;exact⟨S',s,k⟩
  |panic B=>let⟨v,S',s,k⟩:=u;exact⟨v,S',s,k⟩
  |goto l=>exact u.elim
  |outgrown=>exact u.elim
 | .cond x c d,i=>by
  show Xa P n w0 σ0 κ (.cond x c d) λ_ S K=>ZD.wrap κ.m hs i S K _
  refine XS λρ S K r p a w hA=>?_
  have p:(match S.op x with
   | .bool q=>if q=E then ZD stp dr lp n κ.m hs c (i+1) _ S K else ZD stp dr lp n κ.m hs d (i+1+xS c) _ S K
   |_=>M)=G r:=p
  split at p
  · rename_i q e;have T:a.eval x = .bool q:=by
      let⟨L,b,Z,PV,⟨ν,vs,ids,hA⟩,hi,hf⟩:=hA;have:=hA.op x;rw[e] at this;rw[hf.eval];exact this.bool_inv
    cases q with
    |true=>exact wp_cond_true T (yS z t hdr A c _ _ _ _ _ (by simpa using p) _ _ hA)
    |false=>exact wp_cond_false T (yS z t hdr A d _ _ _ _ _ (by simpa using p) _ _ hA)
  ·cases p
 | .block j c,i=>by
  show Xa P n w0 σ0 κ (.block j c) λ_ S K=>ZD.wrap κ.m hs i S K _
  refine XS λρ S K r p a w hA=>?_
  refine wp_block (wp_mono (yS z t hdr A c (i+1) _ _ _ _ p _ _ hA) ?_);intro e a w u;cases e with
  |normal=>let⟨S',s,k⟩:=u;exact⟨S',s,k⟩
  |exit U=>
   let⟨S',s,k⟩:=u;have s:(bif W U j then K .normal S' else K (.exit U) S')=G r:=s;show if U=j then _ else _
   cases e:W U j with
   |true=>rw[e] at s;rw[jv (ge e)];exact⟨S',s,k⟩
   |false=>rw[e] at s;rw[jx (λh=>by rw[h] at e;simp at e)];exact⟨S',s,k⟩
  |ret=>let⟨S',s,k⟩:=u;exact⟨S',s,k⟩
  |panic B=>let⟨v,S',s,k⟩:=u;exact⟨v,S',s,k⟩
  |goto l=>exact u.elim
  |outgrown=>exact u.elim
 | .loop c,i=>by
  intro ρ S K r p a w hA;unfold ZD at p;split at p
  case h_2=>cases p
  rename_i g outs _;let⟨x0,hx0,p⟩:=gd p;let⟨y,hy,ho⟩:=gd p;let⟨m0,R⟩:=A _ _ _ hy;have hA0:=hA.close hx0
  generalize hf:(λx=>ZD stp dr lp n κ.m hs c (i+1) _ (g.open x) λe S'=>match e with
        | .normal=>(g.close κ.m S').bind λx'=>G (Step.next x')
        |e=>(zU κ.m outs e S').bind λy=>G (Step.done y))=f at R
  classical
  let I:Nat->Act->World->Prop:=λm a w=>∃x,yb f m x=G y/\At n w0 σ0 κ (g.open x) a w
  refine wp_loop (λa w=>∃m,I m a w) (λa w=>if h:∃m,I m a w then(wY h).choose else 0) ⟨m0,x0,R,hA0⟩ ?_;intro a1 w1 h1;have hfind:=(wY h1).choose_spec.1;rw[dif_pos h1];generalize (wY h1).choose=Q at hfind |-
  let⟨x,hit,hA1⟩:=hfind;cases Q with
  |zero=>simp[yb] at hit
  |succ Q=>
   simp only[yb] at hit;cases F:f x with
   |none=>grind
   |some st=>
    rw[F] at hit;rw[<- hf] at F;refine wp_mono (yS z t hdr A c (i+1) _ _ _ _ F _ _ hA1) ?_;intro e a2 w2 u;have dn:∀{e':XE C} {S':St C} {N:zg C outs},zU κ.m outs e' S'=G N->st = .done N->∀{x},zfr n w0 σ0 κ S' e' x a2 w2->Zj n w0 σ0 κ K r x a2 w2:=by
     intro e' S' N hc hst x hx;subst hst;simp only[jj,qb.injEq] at hit;subst hit;exact Yq hc ho hx
    cases e with
    |normal=>
     let⟨S',s,k⟩:=u;let⟨x',hx',s⟩:=gd s;cases s;have V:I Q a2 w2:=⟨x',hit,k.close hx'⟩;refine⟨⟨Q,V⟩,?_⟩;rw[dif_pos ⟨Q,V⟩];exact Nat.lt_succ_of_le ((wY ⟨Q,V⟩).choose_spec.2 _ V)
    |exit j=>
     let⟨S',s,k⟩:=u;let⟨N,D,s⟩:=gd s;exact dn D (qb.inj s).symm (x :=.exit j) ⟨rfl,k⟩
    |ret=>
     let⟨S',s,k⟩:=u;let⟨N,D,s⟩:=gd s;exact dn D (qb.inj s).symm (x :=.ret) k
    |panic B=>
     let⟨v,S',s,k⟩:=u;let⟨N,D,s⟩:=gd s;exact dn D (qb.inj s).symm (x :=.panic B) k
    |goto l=>exact u.elim
    |outgrown=>exact u.elim
 | .region id ops H,i=>by
  show Xa P n w0 σ0 κ (.region id ops H) λ_ S K=>ZD.wrap κ.m hs i S K _
  exact XS λ_ _ _ _ p a w hA=>wp_region_list (YU z t _ p hA)
 | .region id ops E,i=>λρ S K r p a w hA=>by
  have p:(match hs i with
   |some (.draw ord [])=>dr ops ord ρ S K
   |some (.draw ord (o::outs))=>(dr ops ord _ S λe S'=>zU κ.m (o::outs) e S').bind λy=>zT (o::outs) y K
   |_=>M)=G r:=p
  split at p
  ·exact hdr _ _ z _ _ _ _ _ _ _ p _ _ hA
  ·let⟨y,hy,ho⟩:=gd p;exact wp_mono (hdr _ _ z _ _ _ _ _ _ _ hy _ _ hA) λe a w u=>u.out ho
  ·cases p
 | .rangeFunc ..,i=>λ_ _ _ _ p=>by simp[ZD] at p
 | .scope c,i=>by
  show Xa P n w0 σ0 κ (.scope c) λ_ S K=>ZD.wrap κ.m hs i S K _
  refine XS λρ S K r p a w hA=>?_
  refine wp_scope_straight (wp_mono (yS z t hdr A c (i+1) _ _ _ _ p _ _ hA) ?_);intro e a w u;cases e<;>first | exact u | exact u.elim
 | .label _,i=>by
  show Xa P n w0 σ0 κ (.label _) λ_ S K=>ZD.wrap κ.m hs i S K _
  exact XS λ_ _ _ _ p a w hA=>wp_label ⟨_,p,hA⟩
 | .goto _,i=>λ_ _ _ _ p=>by simp[ZD] at p
 | .refuse _,i=>λ_ _ _ _ p=>by simp[ZD] at p
end
end
section
variable [Dfr]
def zdj:List Value->Value
 |[v]=>v
 |vs =>.tuple vs.toArray
section
variable {κ:Kp}{C:Cod}{S:St C}{n:Nat}{w0:Start}{σ0 Z:FS}{P:Program}{ρ:Type}{L:List (Nat×Value)}{b:Nat->Value}{PV:List Priv}
def rvA(P:Program)(S:St C):ResultVar->Uv (AV C.D)
 | .tmp t=>G (S.env t)
 | .cell t T=>match S.env t with
  | .pc id 0=>(match S.heap id with
   |some (.cell cs)=>Yy P T cs 0
   |_=>M)
  |_=>M
def Wc(P:Program)(S:St C):List ResultVar->Uv (List (AV C.D))
 |[]=>G []
 |r::rs=>(rvA P S r).bind λA=>(Wc P S rs).bind λAs=>G (A::As)
theorem zxS {ν:Val}{vs:Nat->List Value}{ids:List Nat}(h:AbsL κ S ν vs ids L b Z PV) {rv:ResultVar}{A:AV C.D}(c:rvA P S rv=G A) {w:World}(y:Y5 Z PV w) {tmps:Array Value}(n:∀i,tmps.getD i undef=look L b i) :
    ∃v,(ZV tmps rv).run P w = .ok v w/\VR C Z ν v A/\A.ok λid=>(S.heap id).isSome=true:=by
 cases rv with
 |tmp t=>cases c;exact⟨_,by simp[ZV,n],h.env t,h.live t⟩
 |cell t T=>
  simp only[rvA] at c;split at c
  · rename_i id e;have hp:=h.env t;rw[e] at hp;have hp:look L b t = .pointer (G ((ν.adr id).add 0)):=hp;split at c
    · rename_i cs d;let⟨r,ti,q,hi,h1,h2,z⟩:=zai c;let⟨m,s,_⟩:=h.at d;let⟨x,f,g⟩:=y.get s;have f:Z3 (ν.adr id).a (vs id) x:=f;have p:=h.cell id cs d;have k:(((vs id).drop 0).take ti.size).length=ti.size:=by rw[<- h1];simp[p.len]
      have:=vT (P:=P) (w:=w) ((ν.adr id).add 0) (((vs id).drop 0).take ti.size) q hi k.symm (λe=>jE) (λj u o=>by
       have l:j < ti.size:=by
        grind
       rw[Da l,Dk] at o
       rw[Addr.add_add];simpa using f.cell g o)
      refine⟨_,?_,by rw[z];exact((p.drop 0).take _).val (agg:=Zi r),WN c (h.livec id cs d)⟩;show(do loadVar T (<- asAddr (tmps.getD t undef)):Sem Value).run P w=_;rw[n t,hp];simpa[asAddr] using this
    ·cases c
  ·cases c
theorem zmZ {ν:Val}{vs:Nat->List Value}{ids:List Nat}(h:AbsL κ S ν vs ids L b Z PV) {w:World}(f:Y5 Z PV w) {tmps:Array Value}(e:∀i,tmps.getD i undef=look L b i):∀{a:List ResultVar}{As:List (AV C.D)},Wc P S a=G As->
    ∃us:List Value,us.length=a.length/\(∀(j:Nat) rv u,a[j]?=G rv->us[j]?=G u->(ZV tmps rv).run P w = .ok u w)/\VRs C Z ν us As/\AV.oks (λid=>(S.heap id).isSome=E) As
 |[],As,c=>by cases c;exact⟨[],rfl,λj rv u h=>by simp at h,trivial,trivial⟩
 |rv::a,As,c=>by
  let⟨A,hA,c⟩:=gd c;let⟨k,d,c⟩:=gd c;cases c;let⟨u,h1,h2,n⟩:=zxS h hA f e;let⟨us,l,r,g,o⟩:=zmZ h f e d;refine⟨u::us,by simp[l],λj m s q p=>?_,⟨h2,g⟩,⟨n,o⟩⟩;grind
theorem zmD {fn:Func}{a:List ResultVar}(e:fn.results.toList=a) (c:a.length<=4) {tmps:Array Value}{w:World}{us:List Value}(d:us.length=a.length) (h:∀(j:Nat) rv u,a[j]?=G rv->us[j]?=G u->(ZV tmps rv).run P w = .ok u w) :
    (results fn tmps).run P w = .ok (zdj us) w:=by
 have b:fn.results=a.toArray:=jE
 match a,us,d,c with
 |[],[],_,_=>exact zmv b
 |[r1],[u1],_,_=>exact zmr b (h 0 r1 u1 rfl rfl)
 |[r1,r2],[u1,u2],_,_=>exact zms b (h 0 r1 u1 rfl rfl) (h 1 r2 u2 rfl rfl)
 |[r1,r2,r3],[u1,u2,u3],_,_=>exact zmt b (h 0 r1 u1 rfl rfl) (h 1 r2 u2 rfl rfl) (h 2 r3 u3 rfl rfl)
 |[r1,r2,r3,r4],[u1,u2,u3,u4],_,_=>exact zmu b (h 0 r1 u1 rfl rfl) (h 1 r2 u2 rfl rfl) (h 2 r3 u3 rfl rfl) (h 3 r4 u4 rfl rfl)
 |_::_::_::_::_::_,_,_,c=>simp at c
structure Spec(C:Cod) where
 f:FuncId
 nr:Nat
 ins:Sig
 outs:List (XK×Sig)
 F:ins.ty C->Uv (zg C outs)
def xw(As:List (AV C.D))(heap:Nat->Uv (Ent C)):St C:={env:=λi=>(As[i]?).getD .und,heap:=heap}
omit [Dfr] in
def vi(κ:Kp)(st:Start)(σ0:FS)(nr:Nat)(outs:List (XK×Sig))(r:zg C outs)(e:Ending)(w:World):Prop:=
 zT outs r λx S'=>match x,e with
  | .ret,.returned v=>∃a Z' b,v=zdj a/\a.length=nr/\Inv st σ0 Z' b w/\zD κ S' (yq 0 a) (λ_=>undef) Z' b
  | .pan A,.panicked c=>∃u Z' b,c=[{v:=u,recovered:=false}]/\Inv st σ0 Z' b w/\Xx C Z' u A/\zD κ S' [] (λ_=>undef) Z' b
  |_,_=>False
omit [Dfr] in
def Spec.OK (P : Program) (s : Spec C) : Prop := ∃ fn, P.funcs[s.f]? = G fn /\ (fn.name == "runtime.NumGoroutine") = H /\ fn.body.isNone = H /\
 ∀(x:s.ins.ty C) r,s.F x=G r->∀(κ:Kp) (st:Start) (Z:FS),C.gl st.w Z->∀(PV:List Priv) (ν:Val) (vs:Nat->List Value) (ids:List Nat) (args:List Value),κ.m=s.ins.es.length->args.length=s.ins.ts.length->AbsL κ (s.ins.open x) ν vs ids (yq 0 args) (λ_=>undef) Z PV->Pre st Z PV->Calls P s.f args.toArray st.w (vi κ st Z s.nr s.outs r)
def zxT(e e':XE C):Prop:=match e,e' with
 | .pan v,.pan a=>∃(s:Sh) (y:s.ty C),Sh.get (λ_=>M) s v=G y/\a=Sh.put (λk=>k) s y
 | .normal,.normal=>True
 | .ret,.ret=>True
 | .exit i,.exit j=>i=j
 |_,_=>False
theorem YK {m:Nat}{Q:XE C->St C->Prop}:∀{outs:List (XK×Sig)}{e:XE C}{r:zg C outs},zU m outs e S=G r->
    (∀(g:Sig) (x:g.ty C),g.close m S=G x->(∀e',zxT e e'->Q e' (g.open x)))->zT outs r Q
 |[],e,r,h,_=>by cases h
 |[o],e,r,h,k=>closeX_prop h k
 |o::o2::l,e,r,h,k=>by
  unfold zU at h;unfold zT;cases hi:XK.is o.1 e with
  |true=>
   rw[hi,Dq] at h;split at h
   ·rename_i z a;cases h;exact closeX_prop a k
   ·obtain⟨z,a,rfl⟩:=D1.1 h;exact YK a k
  |false=>
   rw[hi,U0] at h;obtain⟨z,a,rfl⟩:=D1.1 h;exact YK a k
where
 closeX_prop {m:Nat} {Q:XE C->St C->Prop} {o:XK×Sig} {e:XE C} {r:XK.ty C o.1 o.2} (h:zgw m o.1 o.2 e S=G r) (k:∀(g:Sig) (x:g.ty C),g.close m S=G x->(∀e',zxT e e'->Q e' (g.open x))):Yi o.1 o.2 r Q:=by
  let⟨kk,g⟩:=o;cases e with
  |normal=>cases kk<;>first | (cases h;done) | exact k g r h .normal trivial
  |exit i=>
   cases kk<;>first | (cases h;done) | skip
   let⟨hij,h2⟩:=zb h;obtain rfl:=ge hij;exact k g r h2 (.exit _) rfl
  |ret=>cases kk<;>first | (cases h;done) | exact k g r h .ret trivial
  |pan v=>
   cases kk<;>first | (cases h;done) | skip
   rename_i s;let⟨z,hz,h2⟩:=gd h;let⟨x',hx',h3⟩:=gd h2;cases h3;show Q (.pan (Sh.put (λk=>k) s (Sh.hd (s:=s) (l:=g.shs) (Sh.pk (s:=s) (l:=g.shs) z x')))) (g.open (Sh.tl (s:=s) (l:=g.shs) (Sh.pk (s:=s) (l:=g.shs) z x')));rw[show Sh.hd (s:=s) (l:=g.shs) (Sh.pk (s:=s) (l:=g.shs) z x')=z from Sh.hd_pk,show Sh.tl (s:=s) (l:=g.shs) (Sh.pk (s:=s) (l:=g.shs) z x')=x' from Sh.tl_pk];exact k g x' hx' _ ⟨s,z,hz,rfl⟩
def zsA(stp:Nat->yQ C)(dr:Nat->YC C)(lp:ZX)(fn:Func)(nr:Nat)(ins:Sig)(outs:List (XK×Sig))(hs:Nat->Uv Hint)(x:ins.ty C):Uv (zg C outs):=
 match fn.body with
 |none=>M
 |some c=>chk (X ins.ts.length fn.ntmps && (W fn.results.toList.length nr && (X nr 4 && X ins.es.length 64)))
     (ZD (stp fn.ntmps) (dr fn.ntmps) lp fn.ntmps ins.es.length hs c 0 _ (ins.open x) λe S=>match e with
       | .ret=>(Wc P S fn.results.toList).bind λAs=>zU ins.es.length outs .ret (xw As S.heap)
       | .normal=>(Wc P S fn.results.toList).bind λAs=>zU ins.es.length outs .ret (xw As S.heap)
       | .pan v=>zU ins.es.length outs (.pan v) (xw [] S.heap)
       |_=>M)
end
end
section
section
variable {κ:Kp}{C:Cod}{S:St C}{n:Nat}{w0:Start}{σ0 Z:FS}{P:Program}{ρ:Type}{L:List (Nat×Value)}{b:Nat->Value}{PV:List Priv}
theorem yr{a:List Value}:∀i,look (yq 0 a) (λ_=>undef) i=(a[i]?).getD undef:=λi=>by rw[zaV];simp
theorem zbS{ν:Val}{vs:Nat->List Value}{ids:List Nat}(h:AbsL κ S ν vs ids L b Z PV){us:List Value}{As:List (AV C.D)}(a:VRs C Z ν us As)(c:AV.oks (λid=>(S.heap id).isSome=E) As):AbsL κ (xw As S.heap) ν vs ids (yq 0 us) (λ_=>undef) Z PV:=by
 refine⟨⟨h.nd,h.dom,h.pv,h.cell,λt=>?_,h.one⟩,λt=>?_,h.livec,h.keep⟩
 ·rw[yr];show VR C Z ν _ ((As[t]?).getD .und);cases e:As[t]? with
  |none=>trivial
  |some A=>
   let⟨u,f,d⟩:=a.get t A e;grind
 ·show((As[t]?).getD .und).ok _;cases e:As[t]? with
  |none=>trivial
  |some A=>exact AV.oks_iff.1 c A (UM e)
theorem At.defers[Dfr]{κ:Kp}{C:Cod}{S:St C}{n:Nat}{w0:Start}{σ0:FS}{a:Act}{w:World}(h:At n w0 σ0 κ S a w):a.defers=Dfr.l:=by
 let⟨_,_,_,_,_,_,b⟩:=h;exact b.defers
theorem zm0 {κ:Kp}{C:Cod}{P:Program}{S':St C}{L:List (Nat×Value)}{b:Nat->Value}{Z':FS}{c:List Priv}{fn:Func}{nr:Nat}{outs:List (XK×Sig)}{r:zg C outs}{st:Start}{Z:FS}{tmps:Array Value}{w:World}(c4:fn.results.toList.length=nr) (c2:fn.results.toList.length<=4) (l:(Wc P S' fn.results.toList).bind (λAs=>zU κ.m outs .ret (xw As S'.heap))=G r)
    (a:zD κ S' L b Z' c) (d:Inv st Z Z' c w) (e:∀i,tmps.getD i undef=look L b i):∃v,(results fn tmps).run P w = .ok v w/\vi κ st Z nr outs r (.returned v) w:=by
 let⟨As,j,l⟩:=gd l;let⟨ν',h,f,a⟩:=a;let⟨us,x,s,n,t⟩:=zmZ a d.held e j;refine⟨_,zmD rfl c2 x s,?_⟩;have k:=zbS a n t;refine YK l λg y u e' o=>?_
 cases e'<;>first | exact o.elim | skip
 let⟨p,z,q,h2⟩:=zdI u ⟨ν',h,f,k⟩ d;grind
theorem zdk [Dfr] {κ:Kp}{C:Cod}{P:Program}{S':St C}{fn:Func}{nr:Nat}{outs:List (XK×Sig)}{r:zg C outs}{st:Start}{Z:FS}{a:Act}{w:World}(c4:fn.results.toList.length=nr) (c2:fn.results.toList.length<=4) (g:(Wc P S' fn.results.toList).bind (λAs=>zU κ.m outs .ret (xw As S'.heap))=G r)
    (hA:At fn.ntmps st Z κ S' a w):∃v,(results fn a.tmps).run P w = .ok v w/\vi κ st Z nr outs r (.returned v) w:=by
 let⟨L,b,Z',f,e,d,c⟩:=hA;exact zm0 c4 c2 g e d c.get
theorem zwm {stp : Nat -> yQ C} {dr : Nat -> YC C} {lp : ZX} {f : FuncId} {fn : Func} {nr : Nat} {ins : Sig} {outs : List (XK × Sig)} {hs : Nat -> Uv Hint} {F : ins.ty C -> Uv (zg C outs)} (A : ∀ κ, xP P fn.ntmps κ (stp fn.ntmps)) (hdr : ∀ κ, vM P fn.ntmps κ (dr fn.ntmps)) (R : xv lp) (hf : P.funcs[f]? = G fn) (V : (fn.name == "runtime.NumGoroutine") = H) (N : fn.body.isNone = H) (hF : ∀ x r, F x = G r -> zsA (P := P) stp dr lp fn nr ins outs hs x = G r) :
    Spec.OK P ⟨f,nr,ins,outs,F⟩:=by
 refine⟨fn,hf,V,N,?_⟩;intro x r i κ st Z hg PV ν vs ids args U h hA t;have i:=hF x r i;unfold zsA at i;split at i
 ·cases i
 rename_i c hb;let⟨hc,i⟩:=zb i;simp only[gf] at hc;let⟨c1,c4,c2,c3⟩:=hc;have c4:=ge c4;rw[<- c4] at c2;have U:κ.m=ins.es.length:=U;rw[<- U] at i;have h:args.length=ins.ts.length:=h;have hn:args.length<=fn.ntmps:=by rw[h];exact UZ c1
 have hat:At fn.ntmps st Z κ (ins.open x) {tmps:=args.toArray++Array.replicate (fn.ntmps - args.toArray.size) undef,defers:=[]} st.w:=⟨_,_,Z,PV,⟨ν,vs,ids,hA⟩,t.inv,vV hn⟩;refine calls_of_wp hf hb (wp_mono (yS hg (A κ) (hdr κ) R c 0 _ _ _ _ i _ _ hat) ?_);have n:∀{S':St C} {a:Act} {w:World},(Wc P S' fn.results.toList).bind (λAs=>zU κ.m outs .ret (xw As S'.heap))=G r->At fn.ntmps st Z κ S' a w->a.defers=[]/\∃v,(results fn a.tmps).run P w = .ok v w/\vi κ st Z nr outs r (.returned v) w:=λk d=>⟨d.defers,zdk c4 (UZ c2) k d⟩
 intro e a w p;cases e with
 |normal=>let⟨S',k,d⟩:=p;exact n k d
 |ret=>let⟨S',k,d⟩:=p;exact n k d
 |exit j=>let⟨S',k,d⟩:=p;cases k
 |panic S=>
  let⟨v,S',k,d⟩:=p;obtain⟨u,L,b,Z',B,rfl,hp,⟨ν',q,o,d⟩,D,Q⟩:=d;refine⟨Q.defers,?_⟩;have T:AbsL κ (xw [] S'.heap) ν' q o [] (λ_=>undef) Z' B:=zbS (us:=[]) d trivial trivial;refine YK k λg y hy e' he=>?_
  cases e'<;>first | exact he.elim | skip
  obtain⟨s,z,hz,rfl⟩:=he;let⟨I,PV2,hl,K,h2⟩:=Wb hy ⟨ν',q,o,T⟩ D;exact⟨u,I,PV2,rfl,K,hp.again hl hz,h2⟩
 |goto l=>exact p.elim
 |outgrown=>exact p.elim
end
variable [Dfr]
mutual
def AV.ren{D:Nat->Type}(ρ:Nat->Nat):AV D->AV D
 | .row j =>.row (ρ j)
 | .pc j o =>.pc (ρ j) o
 | .pr j T i o =>.pr (ρ j) T i o
 | .nx j T i x =>.nx (ρ j) T i x
 | .agg cs =>.agg (AV.rens ρ cs)
 | .tup cs =>.tup (AV.rens ρ cs)
 | .clo f cs =>.clo f (AV.rens ρ cs)
 | .ifc t A =>.ifc t (AV.ren ρ A)
 |A=>A
def AV.rens{D:Nat->Type}(ρ:Nat->Nat):List (AV D)->List (AV D)
 |[]=>[]
 |A::As=>AV.ren ρ A::AV.rens ρ As
end
mutual
def AV.kill{D:Nat->Type}(p:Nat->Bool):AV D->AV D
 | .row j=>bif p j then .und else .row j
 | .pc j o=>bif p j then .und else .pc j o
 | .pr j T i o=>bif p j then .und else .pr j T i o
 | .nx j T i x=>bif p j then .und else .nx j T i x
 | .agg cs =>.agg (AV.kills p cs)
 | .tup cs =>.tup (AV.kills p cs)
 | .clo f cs =>.clo f (AV.kills p cs)
 | .ifc t A =>.ifc t (AV.kill p A)
 |A=>A
def AV.kills{D:Nat->Type}(p:Nat->Bool):List (AV D)->List (AV D)
 |[]=>[]
 |A::As=>AV.kill p A::AV.kills p As
end
section
variable {κ:Kp}{C:Cod}{S:St C}{n:Nat}{w0:Start}{σ0 Z:FS}{P:Program}{L:List (Nat×Value)}{b:Nat->Value}{PV:List Priv}{ν ν':Val}{vs:Nat->List Value}{ids:List Nat}
omit [Dfr] in
mutual
theorem VR.ren{ρ:Nat->Nat}{p:Nat->Prop}(h:∀k,p k->ν'.hdr (ρ k)=ν.hdr k/\ν'.adr (ρ k)=ν.adr k):∀{A:AV C.D}{v:Value},A.ok p->VR C Z ν v A->VR C Z ν' v (AV.ren ρ A)
 | .row _,v,k,r=>by show v=ν'.hdr _;rw[(h _ k).1];exact r
 | .pc _ _,v,k,r=>by show v = .pointer (G ((ν'.adr _).add _));rw[(h _ k).2];exact r
 | .pr _ _ _ _,v,k,r=>by show v = .pointer (G (zi (ν'.hdr _) _));rw[(h _ k).1];exact r
 | .nx _ _ _ _,v,k,r=>by refine⟨?_,r.2⟩;rw[(h _ k).2];exact r.1
 | .agg cs,_,k,⟨vs,e,r⟩=>⟨vs,e,VRs.ren h k r⟩
 | .tup cs,_,k,⟨vs,e,r⟩=>⟨vs,e,VRs.ren h k r⟩
 | .clo _ cs,_,k,⟨vs,e,r⟩=>⟨vs,e,VRs.ren h k r⟩
 | .ifc _ A,_,k,⟨u,e,r⟩=>⟨u,e,VR.ren h k r⟩
 | .int _ _,_,_,r=>r
 | .bool _,_,_,r=>r
 | .str _,_,_,r=>r
 | .sl _ _ _,_,_,r=>r
 | .pz _ _ _,_,_,r=>r
 | .pnil,_,_,r=>r
 | .nils,_,_,r=>r
 | .nilf,_,_,r=>r
 | .nili,_,_,r=>r
 | .und,_,_,_=>trivial
theorem VRs.ren{ρ:Nat->Nat}{p:Nat->Prop}(h:∀k,p k->ν'.hdr (ρ k)=ν.hdr k/\ν'.adr (ρ k)=ν.adr k):∀{cs:List (AV C.D)}{vs:List Value},AV.oks p cs->VRs C Z ν vs cs->VRs C Z ν' vs (AV.rens ρ cs)
 |[],[],_,_=>trivial
 |A::As,v::vs,⟨k,l⟩,⟨r,s⟩=>⟨VR.ren h k r,VRs.ren h l s⟩
 |[],_::_,_,r=>r.elim
 |_::_,[],_,r=>r.elim
end
omit [Dfr] in
mutual
theorem AV.ok_ren{D:Nat->Type}{p q:Nat->Prop}{ρ:Nat->Nat}(h:∀k,p k->q (ρ k)):∀{A:AV D},A.ok p->(AV.ren ρ A).ok q
 | .row _,k=>h _ k
 | .pc _ _,k=>h _ k
 | .pr _ _ _ _,k=>h _ k
 | .nx _ _ _ _,k=>h _ k
 | .agg cs,k=>AV.oks_ren h (A:=cs) k
 | .tup cs,k=>AV.oks_ren h (A:=cs) k
 | .clo _ cs,k=>AV.oks_ren h (A:=cs) k
 | .ifc _ A,k=>AV.ok_ren h (A:=A) k
 | .int _ _,_=>trivial
 | .bool _,_=>trivial
 | .str _,_=>trivial
 | .sl _ _ _,_=>trivial
 | .pz _ _ _,_=>trivial
 | .pnil,_=>trivial
 | .nils,_=>trivial
 | .nilf,_=>trivial
 | .nili,_=>trivial
 | .und,_=>trivial
theorem AV.oks_ren{D:Nat->Type}{p q:Nat->Prop}{ρ:Nat->Nat}(h:∀k,p k->q (ρ k)):∀{A:List (AV D)},AV.oks p A->AV.oks q (AV.rens ρ A)
 |[],_=>trivial
 |A::As,⟨k,l⟩=>⟨AV.ok_ren h k,AV.oks_ren h l⟩
end
omit [Dfr] in
mutual
theorem VR.kill{p:Nat->Bool}:∀{A:AV C.D}{v:Value},VR C Z ν v A->VR C Z ν v (AV.kill p A)
 | .row j,v,r=>by unfold AV.kill;cases p j<;>first | exact r | trivial
 | .pc j _,v,r=>by unfold AV.kill;cases p j<;>first | exact r | trivial
 | .pr j _ _ _,v,r=>by unfold AV.kill;cases p j<;>first | exact r | trivial
 | .nx j _ _ _,v,r=>by unfold AV.kill;cases p j<;>first | exact r | trivial
 | .agg cs,_,⟨vs,e,r⟩=>⟨vs,e,VRs.kill r⟩
 | .tup cs,_,⟨vs,e,r⟩=>⟨vs,e,VRs.kill r⟩
 | .clo _ cs,_,⟨vs,e,r⟩=>⟨vs,e,VRs.kill r⟩
 | .ifc _ A,_,⟨u,e,r⟩=>⟨u,e,VR.kill r⟩
 | .int _ _,_,r=>r
 | .bool _,_,r=>r
 | .str _,_,r=>r
 | .sl _ _ _,_,r=>r
 | .pz _ _ _,_,r=>r
 | .pnil,_,r=>r
 | .nils,_,r=>r
 | .nilf,_,r=>r
 | .nili,_,r=>r
 | .und,_,_=>trivial
theorem VRs.kill{p:Nat->Bool}:∀{cs:List (AV C.D)}{vs:List Value},VRs C Z ν vs cs->VRs C Z ν vs (AV.kills p cs)
 |[],[],_=>trivial
 |A::As,v::vs,⟨r,s⟩=>⟨VR.kill r,VRs.kill s⟩
 |[],_::_,r=>r.elim
 |_::_,[],r=>r.elim
end
omit [Dfr] in
mutual
theorem AV.ok_kill{D:Nat->Type}{q:Nat->Prop}{p:Nat->Bool}:∀{A:AV D},A.ok q->(AV.kill p A).ok λj=>q j/\p j=H
 | .row j,k=>by unfold AV.kill;cases e:p j<;>first | exact⟨k,e⟩ | trivial
 | .pc j _,k=>by unfold AV.kill;cases e:p j<;>first | exact⟨k,e⟩ | trivial
 | .pr j _ _ _,k=>by unfold AV.kill;cases e:p j<;>first | exact⟨k,e⟩ | trivial
 | .nx j _ _ _,k=>by unfold AV.kill;cases e:p j<;>first | exact⟨k,e⟩ | trivial
 | .agg cs,k=>AV.oks_kill (A:=cs) k
 | .tup cs,k=>AV.oks_kill (A:=cs) k
 | .clo _ cs,k=>AV.oks_kill (A:=cs) k
 | .ifc _ A,k=>AV.ok_kill (A:=A) k
 | .int _ _,_=>trivial
 | .bool _,_=>trivial
 | .str _,_=>trivial
 | .sl _ _ _,_=>trivial
 | .pz _ _ _,_=>trivial
 | .pnil,_=>trivial
 | .nils,_=>trivial
 | .nilf,_=>trivial
 | .nili,_=>trivial
 | .und,_=>trivial
theorem AV.oks_kill{D:Nat->Type}{q:Nat->Prop}{p:Nat->Bool}:∀{A:List (AV D)},AV.oks q A->AV.oks (λj=>q j/\p j=H) (AV.kills p A)
 |[],_=>trivial
 |A::As,⟨k,l⟩=>⟨AV.ok_kill k,AV.oks_kill l⟩
end
theorem zwn{f:Nat->Priv}{l:List Nat}(d:l.Nodup){ids:List Nat}(hs:∀j∈l,j∈ids){e:zc}(k:Sep Z (ids.map f) e):Sep Z (l.map f) e:=by
 classical
 have c:∀j,j∈l->∃m:Nat,ids[m]?=G j:=λj a=>qD.1 (hs j a)
 let b:Nat->Nat:=λj=>if a:j∈l then(c j a).choose else 0
 have hp:∀j (a:j∈l),ids[b j]?=G j:=λj a=>by
  grind
 refine k.select (l.map b) ?_ ?_
 ·rw[U6,qs];refine qy ?_ (U6.1 d);grind
 ·rw[qc,qc];refine Ds λj a=>?_
  grind
theorem AbsL.lend (h:AbsL κ S ν vs ids L b Z PV) {g:Sig}{m:Nat}{bl:Bl}{x:g.ty C}{T:St C}{L':List (Nat×Value)}{b':Nat->Value}(hT:T.heap=S.heap) (henv:∀t,VR C Z ν (look L' b' t) (T.env t)) (hg:YX g m T bl=G x) (hl:g.es.length<=64) :
    ∃ν' vs' ids',AbsL ⟨g.es.length,hl,ν'⟩ (g.open x) ν' vs' ids' L' b' Z (ids'.map λk=>zK C ν' vs' k ((g.open x).heap k))/\
     (∀k id,Bl.fn bl k=G id->ν'.hdr k=ν.hdr id/\ν'.adr k=ν.adr id)/\(∀k,k∈ids'↔(Bl.fn bl k).isSome=E)/\(∀k id,Bl.fn bl k=G id->(S.heap id).isSome=E)/\
     ∀gg,Sep Z PV gg->Sep Z ((ids'.map λk=>zK C ν' vs' k ((g.open x).heap k))++((ids.filter λj=> !yf j bl).map λj=>zK C ν vs j (S.heap j))) gg:=by
 let⟨hb,hg⟩:=zb hg;have hb:=((gf _ _).mp hb).1;have hB:=BdOK.of hb
 let B:=Bl.fn bl
 let ν':Val:={hdr:=λk=>match B k with | some id=>ν.hdr id | none =>.slice M 0 0,adr:=λk=>match B k with | some id=>ν.adr id | none=>default}
 let vs':Nat->List Value:=λk=>match B k with | some id=>vs id | none=>[]
 have hν:Rn B (λk=>k) ν ν':=⟨λk id e=>by simp[ν',e],h.one⟩;have hsplit:=zce g.ts (g.es.map ESh.sh) (avs:=g.ts.map λt=>T.env t.1) (by simp) hg;have hsl:(qo g.es.length).map (vE T bl)=(qk 0 g.es.length).map λk=>match B k with | some id=>zi3 (T.heap id) | none =>.und:=by
  rw[<- qB];rfl
 rw[hsl] at hsplit;have hcell:∀id cs,T.heap id=G (.cell cs)->VRs C Z ν (vs id) cs:=λid cs e=>h.cell id cs (by grind)
 have hheap:=λk id (e:B k=G id)=>za6 (N:=g.es.length) hν (λi j _ _ e=>e) hcell g.es 0 (by omega) hsplit (λk e he=>by rw[US];exact hB.gone k e he) k id e (UE _) (by have:=hB.lt k id e;omega)
 have hnone:∀k,B k=M->(g.open x).heap k=none:=λk e=>by
  refine vQ g.es 0 λj e' he hj=>?_
  have hj:k=j:=by simpa using hj
  subst hj;exact(hB.gone k e' he).2 e
 have hsome:∀k,((g.open x).heap k).isSome=E↔(B k).isSome=true:=λk=>by
  cases e:B k with
  |none=>grind
  |some id=>
   rcases hheap k id e with⟨cs,cs',_,h2,_⟩ | ⟨T,s,_,h2⟩ | ⟨q,T,b2,s,_,h2⟩ | ⟨T,s,g1,g2,_,h2,_⟩
   all_goals rw[show(g.open x).heap k=_ from h2];simp
 have henv':=zcf (L:=L') (b:=b') (Z:=Z) hν (g.es.map ESh.sh) henv g.ts hg
 let ids':=(qo g.es.length).filter λk=>(B k).isSome
 have hmem:∀k,k∈ids'↔(B k).isSome=true:=λk=>by
  simp only[ids',Dz,D0];refine⟨λh=>h.2,λh=>⟨?_,h⟩⟩;let⟨id,e⟩:=UG.1 h;exact hB.lt k id e
 have hnd:ids'.Nodup:=qA qx List.nodup_range;have hin:∀k id,B k=G id->(S.heap id).isSome=E/\zK C ν' vs' k ((g.open x).heap k)=zK C ν vs id (S.heap id):=λk id e=>by
  rcases hheap k id e with⟨cs,cs',h1,h2,_⟩ | ⟨T',s,h1,h2⟩ | ⟨q,T',b2,s,h1,h2⟩ | ⟨T',s,g1,g2,h1,h2,h3⟩
  ·rw[hT] at h1;refine⟨by rw[h1];rfl,?_⟩;rw[show(g.open x).heap k=_ from h2,h1];simp[zK,ν',vs',e]
  ·rw[hT] at h1;refine⟨by rw[h1];rfl,?_⟩;rw[show(g.open x).heap k=_ from h2,h1];simp[zK,ν',e]
  ·rw[hT] at h1;refine⟨by rw[h1];rfl,?_⟩;rw[show(g.open x).heap k=_ from h2,h1];simp[zK,ν',e]
  ·rw[hT] at h1;refine⟨by rw[h1];rfl,?_⟩;rw[show(g.open x).heap k=_ from h2,h1];simp only[zK,ν',e];rw[zda λj hj=>⟨(h3 j hj).symm,rfl⟩]
 refine⟨ν',vs',ids',⟨⟨hnd,λk=>by grind,rfl,λk cs hk=>?_,λt=>(henv' t).1,λi=>?_⟩,λt=>?_,λk cs hk=>?_,λk hk hs=>⟨rfl,rfl,λ_=>rfl⟩⟩,λk id e=>?_,hmem,λk id e=>(hin k id e).1,λgg ks=>?_⟩
 · let⟨id,e⟩:=UG.1 ((hsome k).1 (by rw[hk];rfl));rcases hheap k id e with⟨c,c',h1,h2,h3,_⟩ | ⟨T,s,h1,h2⟩ | ⟨q,T,b2,s,h1,h2⟩ | ⟨T,s,g1,g2,h1,h2,_⟩
   ·rw[show(g.open x).heap k=_ from h2] at hk;grind
   ·rw[show(g.open x).heap k=_ from h2] at hk;cases hk
   ·rw[show(g.open x).heap k=_ from h2] at hk;cases hk
   ·rw[show(g.open x).heap k=_ from h2] at hk;cases hk
 · simp only[ν'];cases B i with
   |none=>rfl
   |some id=>exact h.one id
 ·refine AV.ok_mono (λj hj=>?_) (henv' t).2;let⟨k2,id2,e2,e3⟩:=hj;grind
 · let⟨id,e⟩:=UG.1 ((hsome k).1 (by rw[hk];rfl));rcases hheap k id e with⟨c,c',h1,h2,_,h4⟩ | ⟨T,s,h1,h2⟩ | ⟨q,T,b2,s,h1,h2⟩ | ⟨T,s,g1,g2,h1,h2,_⟩
   ·rw[show(g.open x).heap k=_ from h2] at hk;cases hk;refine AV.oks_mono (λj hj=>?_) h4;let⟨k2,id2,e2,e3⟩:=hj;grind
   ·rw[show(g.open x).heap k=_ from h2] at hk;cases hk
   ·rw[show(g.open x).heap k=_ from h2] at hk;cases hk
   ·rw[show(g.open x).heap k=_ from h2] at hk;cases hk
 ·grind
 · rw[h.pv] at ks
   let imgs:List Nat:=ids'.map λk=>(B k).getD 0
   have himg:∀k,k∈ids'->B k=G ((B k).getD 0):=λk hk=>by
    let⟨id,e⟩:=UG.1 ((hmem k).1 hk);rw[e];rfl
   have e1:(ids'.map λk=>zK C ν' vs' k ((g.open x).heap k))=imgs.map λj=>zK C ν vs j (S.heap j):=by
    rw[qc];exact Ds λk hk=>(hin k _ (himg k hk)).2
   rw[e1,<- D2];refine zwn ?_ ?_ ks
   · refine qC.2 ⟨?_,qA qx h.nd,?_⟩
     ·show(ids'.map λk=>(B k).getD 0).Nodup;rw[U6,qs];refine qy ?_ (U6.1 hnd);intro i j hi hj hne e;have h1:=himg i hi;have h2:=himg j hj;rw[e] at h1;exact hne (hB.inj i j _ h1 h2)
     ·intro i hi j hj e;subst e;obtain⟨k,hk,rfl⟩:=Dw.1 hi;have:=(Dz.1 hj).2;rw[Xi (himg k hk)] at this;cases this
   · intro j hj;rcases Ux.1 hj with hj | hj
     ·obtain⟨k,hk,rfl⟩:=Dw.1 hj;exact(h.dom _).2 (hin k _ (himg k hk)).1
     ·exact(Dz.1 hj).1
end
end
section
variable [Dfr]
def zE(id:Nat):List Nat->Bool
 |[]=>H
 |a::r=>W id a || zE id r
theorem zR{id:Nat}:∀{l:List Nat},zE id l=E↔id∈l
 |[]=>by simp[zE]
 |a::r=>by
  simp only[zE,UH,zR (l:=r),UU];constructor
  ·rintro(h | h)
   ·exact .inl (ge h)
   grind
  ·rintro(rfl | h)
   ·left;simp
   grind
theorem zfs{id:Nat}:∀{bl:Bl},yf id bl=E->∃k,Bl.fn bl k=G id
 |[],h=>by cases h
 |none::r,h=>by
  let⟨k,e⟩:=zfs (bl:=r) h;exact⟨k+1,by simpa[Bl.fn] using e⟩
 |some a::r,h=>by
  simp only[yf,UH] at h;rcases h with h | h
  ·exact⟨0,by simp[Bl.fn,ge h]⟩
  ·let⟨k,e⟩:=zfs (bl:=r) h;exact⟨k+1,by simpa[Bl.fn] using e⟩
def YH:List ESh->Bl->List Nat
 |e::es,b::bl=>(match b with
  |some id=>bif e.isGone then [id] else []
  |none=>[])++YH es bl
 |_,_=>[]
theorem zam{id:Nat}:∀{es:List ESh}{bl:Bl},id∈YH es bl↔∃(k:Nat) (e:ESh),es[k]?=G e/\e.isGone=E/\Bl.fn bl k=G id
 |[],bl=>by simp[YH]
 |e::es,[]=>by simp[YH,Bl.fn]
 |e::es,b::bl=>by
  rw[show YH (e::es) (b::bl)=(match b with | some id=>bif e.isGone then [id] else [] | none=>[])++YH es bl from rfl,Ux,zam (es:=es) (bl:=bl)];constructor
  ·rintro(h | ⟨k,e',h1,h2,c⟩)
   ·cases b with
    |none=>cases h
    |some a=>
     cases d:e.isGone with
     |false=>grind
     |true=>rw[d] at h;simp at h;exact⟨0,e,rfl,d,by simp[Bl.fn,h]⟩
   ·exact⟨k+1,e',by simpa using h1,h2,by simpa[Bl.fn] using c⟩
  ·rintro⟨k,e',h1,h2,c⟩;cases k with
   |zero=>
    left;simp at h1;subst h1;have:b=G id:=by simpa[Bl.fn] using c
    grind
   |succ k=>exact .inr ⟨k,e',by simpa using h1,h2,by simpa[Bl.fn] using c⟩
section
variable {κ κs:Kp}{C:Cod}{S Sr:St C}{n:Nat}{w0:Start}{σ0 Z Z':FS}{P:Program}{L Lr:List (Nat×Value)}{b br:Nat->Value}{PV A':List Priv}{ν νr:Val}{vs vsr:Nat->List Value}{ids idsr:List Nat}
def Ent.ren(ρ:Nat->Nat):Ent C->Ent C
 | .cell cs =>.cell (AV.rens ρ cs)
 | .row T s =>.row T s
 | .obj k T b s =>.obj k T b s
 | .orow T s g =>.orow T s g
def Own.ufx(b:Bool):Own->Own
 | .fix=>bif b then .fix else .all
 |g=>g
theorem Own.ufx_fl{b:Bool}{g:Own}(j:Nat):(g.ufx b).fl j=g.fl j:=by
 cases g<;>cases b<;>rfl
def Ent.mv(ρ:Nat->Nat)(b:Bool):Ent C->Ent C
 | .cell cs =>.cell (AV.rens ρ cs)
 | .row T s =>.row T s
 | .obj k T b s =>.obj k T b s
 | .orow T s g =>.orow T s (g.ufx b)
theorem zwo{ρ:Nat->Nat}{b:Bool}{o:Uv (Ent C)}(h:Z1 (o.map (Ent.mv ρ b))=E):Z1 o=E/\b=true:=by
 cases o with
 |none=>cases h
 |some e=>
  cases e with
  |orow T s g=>cases g<;>cases b<;>first | exact⟨rfl,rfl⟩ | cases h
  |cell=>cases h
  |row=>cases h
  |obj=>cases h
def kpL(Sr:St C):Bl->Nat->List Nat
 |[],_=>[]
 |b::bl,k=>(match b with
  |some id=>bif Z1 (Sr.heap k) then [id] else []
  |none=>[])++kpL Sr bl (k+1)
theorem zm1{id:Nat}:∀{bl:Bl}{k0:Nat},id∈kpL Sr bl k0->∃k,Bl.fn bl k=G id/\Z1 (Sr.heap (k0+k))=E
 |[],_,h=>by cases h
 |b::bl,k0,h=>by
  rcases Ux.1 h with h | h
  ·cases b with
   |none=>cases h
   |some a=>
    cases c:Z1 (Sr.heap k0) with
    |false=>grind
    |true=>
     rw[c] at h;have:id=a:=by simpa using h
     subst this;exact⟨0,rfl,c⟩
  ·let⟨k,h1,h2⟩:=zm1 (bl:=bl) h;exact⟨k+1,by simpa[Bl.fn] using h1,jE⟩
def Ent.kill(p:Nat->Bool):Ent C->Ent C
 | .cell cs =>.cell (AV.kills p cs)
 | .row T s =>.row T s
 | .obj k T b s =>.obj k T b s
 | .orow T s g =>.orow T s g
def xx(d:Nat)(bl:Bl)(k:Nat):Nat:=match Bl.fn bl k with
 |some id=>id
 |none=>nid d k
def wQ(ρ:Nat->Nat)(fx:Nat->Bool)(Hr:Nat->Uv (Ent C)):List ESh->Nat->(Nat->Uv (Ent C))->Nat->Uv (Ent C)
 |[],_,base=>base
 |e::es,k,base=>λi=>bif !e.isGone && W i (ρ k) then(Hr k).map (Ent.mv ρ (fx (ρ k))) else wQ ρ fx Hr es (k+1) base i
theorem vN{ρ:Nat->Nat}{fx:Nat->Bool}{Hr base:Nat->Uv (Ent C)}{i:Nat}:∀{es:List ESh}{k0:Nat},(∀k e,es[k]?=G e->e.isGone=H->i≠ρ (k0+k))->wQ ρ fx Hr es k0 base i=base i
 |[],_,_=>rfl
 |e::es,k0,h=>by
  unfold wQ;have b:=vN (ρ:=ρ) (fx:=fx) (Hr:=Hr) (base:=base) (i:=i) (es:=es) (k0:=k0+1) λk e' c a=>by
   have:=h (k+1) e' (by simpa using c) a;grind
  cases a:e.isGone with
  |true=>simpa using b
  |false=>
   cases hb:W i (ρ k0) with
   |true=>exact absurd (ge hb) (h 0 e rfl a)
   |false=>simpa using b
theorem zdl{ρ:Nat->Nat}{fx:Nat->Bool}{Hr base:Nat->Uv (Ent C)}:∀{es:List ESh}{k0:Nat},(∀i j ei ej,es[i]?=G ei->es[j]?=G ej->ei.isGone=H->ej.isGone=H->ρ (k0+i)=ρ (k0+j)->i=j)->∀{k:Nat}{e:ESh},es[k]?=G e->e.isGone=H->wQ ρ fx Hr es k0 base (ρ (k0+k))=(Hr (k0+k)).map (Ent.mv ρ (fx (ρ (k0+k))))
 |[],_,_,k,e,h,_=>by simp at h
 |e0::es,k0,hinj,k,e,h,hg=>by
  unfold wQ;cases k with
  |zero=>
   simp at h;subst h;simp[hg]
  |succ k=>
   have g:es[k]?=G e:=by simpa using h
   have a:(!e0.isGone && W (ρ (k0+(k+1))) (ρ k0))=false:=by
    cases b:e0.isGone with
    |true=>rfl
    |false=>
     cases hb:W (ρ (k0+(k+1))) (ρ k0) with
     |false=>rfl
     |true=>
      have:=hinj (k+1) 0 e e0 h rfl hg b (ge hb);omega
   rw[a,U0]
   have:=zdl (ρ:=ρ) (fx:=fx) (Hr:=Hr) (base:=base) (es:=es) (k0:=k0+1) (λi j ei ej hi d c f e=>by
    have:=hinj (i+1) (j+1) ei ej (by simpa using hi) (by simpa using d) c f jE
    omega) g hg
   grind
def Zy(S Sr:St C)(d:Nat)(bl:Bl)(es:List ESh):St C:=
 let gone:=λi=>zE i (YH es bl)
 let lent:=λi=>yf i bl && !zE i (kpL Sr bl 0)
 {env:=λt=>AV.kill gone (AV.knx lent (S.env t)),heap:=wQ (xx d bl) (λi=>Z1 (S.heap i)) Sr.heap es 0 λi=>bif gone i then M else(S.heap i).map λe=>Ent.kill gone (Ent.knx lent e)}
theorem zwp{d i j:Nat}(h:nid d i=nid d j):i=j:=by unfold nid at h;omega
theorem AbsL.merge (h:AbsL κ S ν vs ids L b Z PV) (P:AbsL κs Sr νr vsr idsr Lr br Z' A') (hle:Z.le Z') {bl:Bl}{d:Nat}{es:List ESh}
    (hinj:∀i j id,Bl.fn bl i=G id->Bl.fn bl j=G id->i=j) (V:∀k id,Bl.fn bl k=G id->k < κs.m) (hin:∀k id,Bl.fn bl k=G id->(S.heap id).isSome=E)
    (hkeep:∀k id,Bl.fn bl k=G id->κs.ν0.hdr k=ν.hdr id/\κs.ν0.adr k=ν.adr id)
    (z:∀k,(Sr.heap k).isSome=E↔∃e,es[k]?=G e/\e.isGone=H) (hfr:∀k,(Sr.heap k).isSome=E->Bl.fn bl k=M->S.heap (nid d k)=M) (hlen:κs.m<=es.length) :
    ∃ν2 r ids2,AbsL κ (Zy S Sr d bl es) ν2 r ids2 L b Z' (A'++((ids.filter λj=> !yf j bl).map λj=>zK C ν vs j (S.heap j)))/\
     (∀k,(Sr.heap k).isSome=E->ν2.hdr (xx d bl k)=νr.hdr k/\ν2.adr (xx d bl k)=νr.adr k)/\∀k,(Sr.heap k).isSome=E->((Zy S Sr d bl es).heap (xx d bl k)).isSome=true:=by
 classical
 let ρ:=xx d bl
 let gone:Nat->Bool:=λi=>zE i (YH es bl)
 let lent:Nat->Bool:=λi=>yf i bl && !zE i (kpL Sr bl 0)
 let kk:Ent C->Ent C:=λe=>Ent.kill gone (Ent.knx lent e)
 have N:∀k id,Bl.fn bl k=G id->ρ k=id:=λk id e=>by simp[ρ,xx,e]
 have U:∀k,Bl.fn bl k=M->ρ k=nid d k:=λk e=>by simp[ρ,xx,e]
 have hρ:∀i j,(Sr.heap i).isSome=E->(Sr.heap j).isSome=E->ρ i=ρ j->i=j:=λi j hi R e=>by
  cases ei:Bl.fn bl i with
  |some a=>
   rw[N i a ei] at e;cases ej:Bl.fn bl j with
   |some c=>grind
   |none=>
    grind
  |none=>
   rw[U i ei] at e;cases ej:Bl.fn bl j with
   |some c=>
    grind
   |none=>rw[U j ej] at e;exact zwp e
 let nm:Nat->Uv Nat:=λi=>if o:∃k,(Sr.heap k).isSome=E/\ρ k=i then G o.choose else M
 have hnm:∀k,(Sr.heap k).isSome=E->nm (ρ k)=G k:=λk n=>by
  have o:∃j,(Sr.heap j).isSome=E/\ρ j=ρ k:=⟨k,n,rfl⟩
  grind
 have I:∀i,(∀k,(Sr.heap k).isSome=E->ρ k≠i)->nm i=none:=λi hi=>by
  grind
 let ν2:Val:={hdr:=λi=>match nm i with | some k=>νr.hdr k | none=>ν.hdr i,adr:=λi=>match nm i with | some k=>νr.adr k | none=>ν.adr i}
 let r:Nat->List Value:=λi=>match nm i with | some k=>vsr k | none=>vs i
 have f1:∀k,(Sr.heap k).isSome=E->ν2.hdr (ρ k)=νr.hdr k/\ν2.adr (ρ k)=νr.adr k:=λk n=>jE
 have old:∀k i,(Sr.heap k).isSome=E->(S.heap i).isSome=E->ρ k=i->Bl.fn bl k=G i:=λk i n hi e=>by
  cases ek:Bl.fn bl k with
  |some a=>grind
  |none=>grind
 have f2:∀i,(S.heap i).isSome=E->ν.hdr i=ν2.hdr i/\(ν.adr i).a=(ν2.adr i).a:=λi hi=>by
  by_cases o:∃k,(Sr.heap k).isSome=E/\ρ k=i
  ·let⟨k,h1,h2⟩:=o;have e:=old k i h1 hi h2;have k1:=P.keep k (V k i e) h1;have k2:=hkeep k i e;have k3:=f1 k h1;rw[h2] at k3;grind
  grind
 have fk:∀k i,(Sr.heap k).isSome=E->Bl.fn bl k=G i->Z1 (Sr.heap k)=E->(ν.adr i).sub=(ν2.adr i).sub:=λk i h1 e D=>by
  have k1:=P.keep k (V k i e) h1;have k3:=f1 k h1;rw[N k i e] at k3;grind
 have f3:∀i,(S.heap i).isSome=E->lent i=H->(ν.adr i).sub=(ν2.adr i).sub:=λi hi hm=>by
  by_cases o:∃k,(Sr.heap k).isSome=E/\ρ k=i
  ·let⟨k,h1,h2⟩:=o;have e:=old k i h1 hi h2;have hm:(yf i bl && !zE i (kpL Sr bl 0))=false:=hm;rw[Xi e,Bool.true_and,Bool.not_eq_false'] at hm;let⟨j,Q,e2⟩:=zm1 (zR.1 hm);grind
  grind
 have H1:∀k,(Sr.heap k).isSome=E->(Zy S Sr d bl es).heap (ρ k)=(Sr.heap k).map (Ent.mv ρ (Z1 (S.heap (ρ k)))):=λk n=>by
  let⟨e,he,u⟩:=(z k).1 n
  have:=zdl (ρ:=ρ) (fx:=λi=>Z1 (S.heap i)) (Hr:=Sr.heap) (base:=λi=>bif gone i then M else(S.heap i).map kk) (es:=es) (k0:=0) (λi j ei ej hi R gi gj e=>by
   rw[US,US] at e
   exact hρ i j ((z i).2 ⟨ei,hi,gi⟩) ((z j).2 ⟨ej,R,gj⟩) e) he u
  rw[US] at this;exact this
 have H2:∀i,(∀k,(Sr.heap k).isSome=E->ρ k≠i)->(Zy S Sr d bl es).heap i=bif gone i then M else(S.heap i).map kk:=λi hi=>
  vN λk e he u=>by rw[US];exact λe'=>hi k ((z k).2 ⟨e,he,u⟩) e'.symm
 have gmem:∀i,gone i=E->yf i bl=true:=λi hi=>by
  let⟨k,e,_,_,f⟩:=zam.1 (zR.1 hi);exact Xi f
 have galive:∀i,gone i=E->∀k,(Sr.heap k).isSome=E->ρ k≠i:=λi hi k n e=>by
  let⟨j,ee,h1,h2,f⟩:=zam.1 (zR.1 hi);have hi':=hin j i f;have e2:=old k i n hi' e;have:=hinj j k i f e2;subst this;let⟨e3,l,h5⟩:=(z j).1 n;rw[h1] at l;cases l;rw[h2] at h5;cases h5
 have F:∀i,i∈ids.filter (λj=> !yf j bl)->(S.heap i).isSome=E/\gone i=H/\∀k,(Sr.heap k).isSome=E->ρ k≠i:=λi hi=>by
  let⟨h1,h2⟩:=Dz.1 hi;have f:=(h.dom i).1 h1;have h2:yf i bl=false:=by simpa using h2
  refine⟨f,?_,λk n e=>?_⟩
  · cases u:gone i with
    |false=>rfl
    |true=>rw[gmem i u] at h2;cases h2
  ·rw[Xi (old k i n f e)] at h2;cases h2
 have w:∀k,(Sr.heap k).isSome=E->((Zy S Sr d bl es).heap (ρ k)).isSome=true:=λk n=>by rw[H1 k n];simpa using n
 have y:∀i,(S.heap i).isSome=E/\gone i=H->((Zy S Sr d bl es).heap i).isSome=true:=λi ⟨h1,h2⟩=>by
  by_cases o:∃k,(Sr.heap k).isSome=E/\ρ k=i
  ·let⟨k,f,l⟩:=o;rw[<- l];exact w k f
  ·rw[H2 i λk f l=>o ⟨k,f,l⟩,h2];simpa using h1
 have B:∀k,k∈idsr↔(Sr.heap k).isSome=true:=P.dom
 refine⟨ν2,r,idsr.map ρ++ids.filter λj=> !yf j bl,⟨⟨?_,λi=>?_,?_,λi cs hi=>?_,λt=>?_,λi=>?_⟩,λt=>?_,λi cs hi=>?_,λk n hs=>?_⟩,f1,w⟩
 · refine qC.2 ⟨?_,qA qx h.nd,?_⟩
   ·rw[U6,qs];refine qy ?_ (U6.1 P.nd);intro i j hi R hne e;exact hne (hρ i j ((B i).1 hi) ((B j).1 R) e)
   ·intro i hi j R e;subst e;obtain⟨k,n,rfl⟩:=Dw.1 hi;exact(F _ R).2.2 k ((B k).1 n) rfl
 · rw[Ux];constructor
   · rintro(hi | hi)
     ·obtain⟨k,n,rfl⟩:=Dw.1 hi;exact w k ((B k).1 n)
     ·have:=F i hi;exact y i ⟨this.1,this.2.1⟩
   · intro hi;by_cases o:∃k,(Sr.heap k).isSome=E/\ρ k=i
     ·let⟨k,f,l⟩:=o;exact .inl (Dw.2 ⟨k,(B k).2 f,l⟩)
     · right;have h2:=H2 i λk f l=>o ⟨k,f,l⟩
       rw[h2] at hi;cases u:gone i with
       |true=>rw[u] at hi;cases hi
       |false=>
        rw[u] at hi;have hs:(S.heap i).isSome=true:=by simpa using hi
        refine Dz.2 ⟨(h.dom i).2 hs,?_⟩;cases hm:yf i bl with
        |false=>rfl
        |true=>
         exfalso;let⟨k,ek⟩:=zfs hm;have hkl:k < es.length:=Nat.lt_of_lt_of_le (V k i ek) hlen;cases hge:es[k].isGone with
         |true=>
          have:gone i=true:=zR.2 (zam.2 ⟨k,es[k],UC hkl,hge,ek⟩);rw[u] at this;cases this
         |false=>exact o ⟨k,(z k).2 ⟨_,UC hkl,hge⟩,N k i ek⟩
 · rw[D2];congr 1
   · rw[P.pv,qc];refine Ds λk n=>?_
     have n:=(B k).1 n;show _=zK C ν2 r (ρ k) ((Zy S Sr d bl es).heap (ρ k));rw[H1 k n];have Q:=f1 k n;cases hs:Sr.heap k with
     |none=>rw[hs] at n;cases n
     |some A=>
      cases A with
      |orow T s g=>
       show Priv.row (Ze C T) T (νr.hdr k) (hpl C T (νr.adr k).sub s g)=Priv.row (Ze C T) T (ν2.hdr (ρ k)) (hpl C T (ν2.adr (ρ k)).sub s (g.ufx _));rw[Q.1,Q.2,zda (g:=g) (g':=g.ufx (Z1 (S.heap (ρ k)))) λj _=>⟨(Own.ufx_fl j).symm,rfl⟩]
      |cell=>simp[zK,Ent.mv,Q,r,hnm k n]
      |row=>simp[zK,Ent.mv,Q]
      |obj=>simp[zK,Ent.mv,Q]
   · refine Ds λi hi=>?_
     let⟨r1,r2,K⟩:=F i hi;show _=zK C ν2 r i ((Zy S Sr d bl es).heap i);rw[H2 i K,r2,U0];have Q:=f2 i r1;have e2:=I i K;cases hs:S.heap i with
     |none=>rw[hs] at r1;cases r1
     |some A=>
      have e3:=f3 i r1 (by show(yf i bl && _)=H;rw[show yf i bl=H by simpa using(Dz.1 hi).2];rfl);cases A<;>simp[zK,kk,Ent.kill,Ent.knx,<- Q.1,<- Q.2,<- e3,r,e2]
 · by_cases o:∃k,(Sr.heap k).isSome=E/\ρ k=i
   · let⟨k,f,l⟩:=o;subst l;rw[H1 k f] at hi;cases hs:Sr.heap k with
     |none=>rw[hs] at f;cases f
     |some A=>
      rw[hs] at hi;cases A with
      |row T s=>cases hi
      |obj q T b s=>cases hi
      |orow T s g=>cases hi
      |cell v=>
       cases hi;show VRs C Z' ν2 (r (ρ k)) _;simp only[r,hnm k f];exact VRs.ren (p:=λid=>(Sr.heap id).isSome=E) (λj R=>f1 j R) (P.livec k v hs) (P.cell k v hs)
   · have K:∀k,(Sr.heap k).isSome=E->ρ k≠i:=λk f l=>o ⟨k,f,l⟩
     rw[H2 i K] at hi;cases u:gone i with
     |true=>rw[u] at hi;cases hi
     |false=>
      rw[u,U0] at hi;cases hs:S.heap i with
      |none=>rw[hs] at hi;cases hi
      |some A=>
       rw[hs] at hi;cases A with
       |row T s=>cases hi
       |obj q T b s=>cases hi
       |orow T s g=>cases hi
       |cell v=>
        cases hi;show VRs C Z' ν2 (r i) _;simp only[r,I i K];exact VRs.kill (VRs.knx (q:=lent) f2 f3 (h.livec i v hs) ((h.cell i v hs).mono hle))
 ·exact VR.kill (VR.knx (q:=lent) f2 f3 (h.live t) ((h.env t).mono hle))
 · show(ν2.hdr i).oneCell'=E;simp only[ν2];cases nm i with
   |none=>exact h.one i
   |some k=>exact P.one k
 ·exact AV.ok_mono y (AV.ok_kill (AV.ok_knx (h.live t)))
 · by_cases o:∃k,(Sr.heap k).isSome=E/\ρ k=i
   · let⟨k,f,l⟩:=o;subst l;rw[H1 k f] at hi;cases hs:Sr.heap k with
     |none=>rw[hs] at f;cases f
     |some A=>
      rw[hs] at hi;cases A with
      |row T s=>cases hi
      |obj q T b s=>cases hi
      |orow T s g=>cases hi
      |cell v=>cases hi;exact AV.oks_ren w (P.livec k v hs)
   · have K:∀k,(Sr.heap k).isSome=E->ρ k≠i:=λk f l=>o ⟨k,f,l⟩
     rw[H2 i K] at hi;cases u:gone i with
     |true=>rw[u] at hi;cases hi
     |false=>
      rw[u,U0] at hi;cases hs:S.heap i with
      |none=>rw[hs] at hi;cases hi
      |some A=>
       rw[hs] at hi;cases A with
       |row T s=>cases hi
       |obj q T b s=>cases hi
       |orow T s g=>cases hi
       |cell v=>cases hi;exact AV.oks_mono y (AV.oks_kill (AV.oks_knx (h.livec i v hs)))
 · have x:(S.heap k).isSome=true:=by
     by_cases o:∃j,(Sr.heap j).isSome=E/\ρ j=k
     · let⟨j,f,l⟩:=o;cases ej:Bl.fn bl j with
       |some a=>rw[N j a ej] at l;rw[<- l];exact hin j a ej
       |none=>
        rw[U j ej] at l;have:=yP κ d j;omega
     · rw[H2 k λj f l=>o ⟨j,f,l⟩] at hs;cases u:gone k with
       |true=>rw[u] at hs;cases hs
       |false=>rw[u] at hs;simpa using hs
   have:=h.keep k n x;have e2:=f2 k x;refine⟨e2.1.symm.trans this.1,e2.2.symm.trans this.2.1,λD=>?_⟩;by_cases o:∃j,(Sr.heap j).isSome=E/\ρ j=k
   ·let⟨j,f,l⟩:=o;subst l;rw[H1 j f] at D;let⟨g1,g2⟩:=zwo D;exact(fk j _ f (old j _ f x rfl) g1).symm.trans (this.2.2 g2)
   · have K:∀j,(Sr.heap j).isSome=E->ρ j≠k:=λj f l=>o ⟨j,f,l⟩
     have e3:ν2.adr k=ν.adr k:=by simp[ν2,I k K]
     rw[e3];refine this.2.2 ?_;rw[H2 k K] at D;cases u:gone k with
     |true=>rw[u] at D;cases D
     |false=>
      rw[u,U0] at D;cases hs2:S.heap k with
      |none=>rw[hs2] at D;cases D
      |some A=>rw[hs2] at D;cases A<;>first | exact D | cases D
end
variable [Dfr]
section
variable {C:Cod}
def ym:(outs:List (XK×Sig))->zg C outs->List ESh
 |[],y=>y.elim
 |[o],_=>o.2.es
 |o::a::r,y=>match(y:XK.ty C o.1 o.2⊕zg C (a::r)) with
  | .inl _=>o.2.es
  | .inr y=>ym (a::r) y
def zeh(es:List ESh)(S:St C):Prop:=∀k,(S.heap k).isSome=E↔∃e,es[k]?=G e/\e.isGone=H
theorem zdm:∀(es:List ESh) (k0:Nat) (x:Sh.tys C (es.map ESh.sh)) (k:Nat),(ZO (λk=>k) es k0 x k).isSome=E↔∃j e,k=k0+j/\es[j]?=G e/\e.isGone=H
 |[],k0,x,k=>by simp[ZO]
 |e::es,k0,x,k=>by
  unfold ZO;cases hb:W k k0 with
  |true=>
   have b:=ge hb;subst b;rw[Dq];constructor
   ·intro h;refine⟨0,e,rfl,rfl,?_⟩;cases e<;>first | rfl | (simp[ESh.ent] at h)
   ·rintro⟨j,e',h1,h2,a⟩;have:j=0:=Zd
    subst this;simp at h2;subst h2;cases e<;>first | rfl | cases a
  |false=>
   rw[U0,zdm es (k0+1)];constructor
   ·rintro⟨j,e',h1,h2,a⟩;exact⟨j+1,e',Zd,by simpa using h2,a⟩
   ·rintro⟨j,e',h1,h2,a⟩;cases j with
    |zero=>subst h1;simp at hb
    |succ j=>grind
theorem xQ(g:Sig)(x:g.ty C):zeh g.es (g.open x):=λk=>by
 show(ZO (λk=>k) g.es 0 (WZ g.ts (g.es.map ESh.sh) x) k).isSome=E↔_;rw[zdm];constructor
 ·grind
 grind
theorem Xz{α:Type}{Q:XE C->St C->Prop}{K:XE C->St C->α}{z:α}:∀{outs:List (XK×Sig)}{r:zg C outs},zT outs r K=z->zT outs r Q->∃e S,K e S=z/\Q e S/\zeh (ym outs r) S
 |[],r,_,_=>r.elim
 |[o],r,h,q=>one h q
 |o::o2::l,r,h,q=>by
  unfold zT at h q;unfold ym;cases r with
  |inl a=>exact one h q
  |inr y=>exact Xz h q
where
 one {α:Type} {Q:XE C->St C->Prop} {K:XE C->St C->α} {z:α} {o:XK×Sig} {y:XK.ty C o.1 o.2} (h:Yi o.1 o.2 y K=z) (q:Yi o.1 o.2 y Q):∃e S,K e S=z/\Q e S/\zeh o.2.es S:=by
  let⟨k,g⟩:=o;cases k with
  |normal=>exact⟨_,_,h,q,xQ g _⟩
  |exit i=>exact⟨_,_,h,q,xQ g _⟩
  |ret=>exact⟨_,_,h,q,xQ g _⟩
  |pan s=>exact⟨_,_,h,q,xQ g _⟩
end
def vB:Nat:=1000000000
section
variable {κ:Kp}{C:Cod}{S:St C}{n:Nat}{w0:Start}{σ0 Z:FS}{P:Program}{L:List (Nat×Value)}{b:Nat->Value}{PV:List Priv}{ν:Val}{vs:Nat->List Value}{ids:List Nat}
def virt(S:St C)(As:List (AV C.D)):St C:={env:=λt=>bif O t vB then S.env t else(As[t - vB]?).getD .und,heap:=S.heap}
def unvirt(S:St C):St C:={env:=λt=>bif O t vB then S.env t else .und,heap:=S.heap}
def yn(L:List (Nat×Value))(b:Nat->Value)(us:List Value)(t:Nat):Value:=bif O t vB then look L b t else(us[t - vB]?).getD undef
omit [Dfr] in
theorem AbsL.virt(h:AbsL κ S ν vs ids L b Z PV){us:List Value}{As:List (AV C.D)}(c:VRs C Z ν us As)(a:AV.oks (λid=>(S.heap id).isSome=E) As):AbsL κ (virt S As) ν vs ids [] (yn L b us) Z PV:=by
 refine⟨⟨h.nd,h.dom,h.pv,h.cell,λt=>?_,h.one⟩,λt=>?_,h.livec,h.keep⟩
 ·show VR C Z ν (yn L b us t) (bif O t vB then S.env t else(As[t - vB]?).getD .und);unfold yn;cases O t vB with
  |true=>exact h.env t
  |false=>
   simp only[U0];cases e:As[t - vB]? with
   |none=>trivial
   |some A=>
    let⟨u,d,f⟩:=c.get _ A e;grind
 ·show(bif O t vB then S.env t else(As[t - vB]?).getD .und).ok _;cases O t vB with
  |true=>exact h.live t
  |false=>
   simp only[U0];cases e:As[t - vB]? with
   |none=>trivial
   |some A=>exact AV.oks_iff.1 a A (UM e)
omit [Dfr] in
theorem AbsL.unvirt{us:List Value}(h:AbsL κ S ν vs ids [] (yn L b us) Z PV):AbsL κ (unvirt S) ν vs ids L b Z PV:=by
 refine⟨⟨h.nd,h.dom,h.pv,h.cell,λt=>?_,h.one⟩,λt=>?_,h.livec,h.keep⟩
 ·show VR C Z ν _ (bif O t vB then S.env t else .und);have:=h.env t;have this:VR C Z ν (yn L b us t) (S.env t):=this;unfold yn at this;cases e:O t vB with
  |true=>grind
  |false=>trivial
 ·show(bif O t vB then S.env t else .und).ok _;cases O t vB with
  |true=>exact h.live t
  |false=>trivial
def Sig.shift(g:Sig):Sig:={ts:=g.ts.map λt=>(vB+t.1,t.2),es:=g.es}
def xc(S:St C):St C:={env:=λt=>S.env (vB+t),heap:=S.heap}
def YL(ins:Sig)(T:St C)(n:Nat):Uv (St C×Bl×ins.ty C):=
 let S2:=ins.shift.prep 0 T
 let bl:=Zz ins.shift 0 S2
 chk (W n ins.ts.length && X ins.es.length 64) ((YX ins 0 (xc S2) bl).map λx=>(S2,bl,x))
def YV(ins:Sig)(S:St C)(As:List (AV C.D)):Uv (St C×Bl×ins.ty C):=
 let S2:=ins.shift.prep 0 (virt S As)
 let bl:=Zz ins.shift 0 S2
 chk (W As.length ins.ts.length && X ins.es.length 64) ((YX ins 0 (xc S2) bl).map λx=>(S2,bl,x))
def VG(S Sr:St C)(d:Nat)(bl:Bl):Nat->Bool
 |0=>E
 |k+1=>(match Bl.fn bl k with
  |some _=>E
  |none=>isNone (Sr.heap k) || isNone (S.heap (nid d k))) && VG S Sr d bl k
theorem zdn{S Sr:St C}{d:Nat}{bl:Bl}:∀{N:Nat},VG S Sr d bl N=E->∀k,k < N->(Sr.heap k).isSome=E->Bl.fn bl k=M->S.heap (nid d k)=M
 |N+1,h,k,hk,h1,h2=>by
  simp only[VG,gf] at h;by_cases e:k=N
  ·subst e;rw[h2] at h;simp only[UH] at h;rcases h.1 with q | q
   ·rw[Zf q] at h1;cases h1
   ·exact Zf q
  ·exact zdn h.2 k Zd h1 h2
def zkv(ρ:Nat->Nat)(nr:Nat)(Sr:St C):AV C.D:=match nr with
 |1=>AV.ren ρ (Sr.env 0)
 |k =>.tup ((qo k).map λi=>AV.ren ρ (Sr.env i))
def Wd(S2:St C)(d nr:Nat)(bl:Bl)(es:List ESh)(e:XE C)(Sr:St C):Uv (Out C):=
 chk (VG S2 Sr d bl es.length) (match e with
  | .ret=>G (.go ((unvirt (Zy S2 Sr d bl es)).put d (zkv (xx d bl) nr Sr)))
  | .pan A=>G (.pan A (unvirt (Zy S2 Sr d bl es)))
  |_=>M)
def xy(s:Spec C)(d:Nat)(S2:St C)(bl:Bl)(x:s.ins.ty C):Uv (Out C):=
 (s.F x).bind λr=>chk (X s.ins.es.length (ym s.outs r).length) (zT s.outs r λe Sr=>Wd S2 d s.nr bl (ym s.outs r) e Sr)
mutual
def AV.flat{D:Nat->Type}:AV D->Bool
 | .int _ _=>E
 | .bool _=>E
 | .str _=>E
 | .pnil=>E
 | .nils=>E
 | .nilf=>E
 | .nili=>E
 | .und=>E
 | .agg cs=>AV.flats cs
 | .tup cs=>AV.flats cs
 | .clo _ cs=>AV.flats cs
 | .ifc _ A=>AV.flat A
 |_=>H
def AV.flats{D:Nat->Type}:List (AV D)->Bool
 |[]=>E
 |A::As=>AV.flat A && AV.flats As
end
omit [Dfr] in
mutual
theorem VR.flat{Z':FS}{ν':Val}:∀{A:AV C.D}{v:Value},A.flat=E->VR C Z ν v A->VR C Z' ν' v A
 | .int _ _,v,_,r=>by rw[r.int_inv];exact Rv.int
 | .bool _,v,_,r=>by rw[r.bool_inv];exact Rv.bool
 | .str _,v,_,r=>by rw[r.str_inv];exact Rv.str
 | .pnil,v,_,r=>by rw[r.pnil_inv];exact Rv.pnil
 | .nils,v,_,r=>r
 | .nilf,v,_,r=>by
  have:Rv C Z v .nilf:=r;cases this;exact Rv.nilf
 | .nili,v,_,r=>by rw[r.nili_inv];exact Rv.nili
 | .und,v,_,r=>trivial
 | .agg cs,v,h,⟨vs,e,r⟩=>⟨vs,e,VRs.flat h r⟩
 | .tup cs,v,h,⟨vs,e,r⟩=>⟨vs,e,VRs.flat h r⟩
 | .clo _ cs,v,h,⟨vs,e,r⟩=>⟨vs,e,VRs.flat h r⟩
 | .ifc _ A,v,h,⟨u,e,r⟩=>⟨u,e,VR.flat (A:=A) h r⟩
 | .sl _ _ _,_,h,_=>by cases h
 | .row _,_,h,_=>by cases h
 | .pc _ _,_,h,_=>by cases h
 | .pr _ _ _ _,_,h,_=>by cases h
 | .nx _ _ _ _,_,h,_=>by cases h
 | .pz _ _ _,_,h,_=>by cases h
theorem VRs.flat{Z':FS}{ν':Val}:∀{cs:List (AV C.D)}{vs:List Value},AV.flats cs=E->VRs C Z ν vs cs->VRs C Z' ν' vs cs
 |[],[],_,_=>trivial
 |A::As,v::vs,h,⟨r,s⟩=>by
  simp only[AV.flats,gf] at h;exact⟨VR.flat h.1 r,VRs.flat h.2 s⟩
 |[],_::_,_,r=>r.elim
 |_::_,[],_,r=>r.elim
end
omit [Dfr] in
mutual
theorem WP{D:Nat->Type}{p:Nat->Prop}:∀{A:AV D},A.flat=E->A.ok p
 | .int _ _,_=>trivial
 | .bool _,_=>trivial
 | .str _,_=>trivial
 | .pnil,_=>trivial
 | .nils,_=>trivial
 | .nilf,_=>trivial
 | .nili,_=>trivial
 | .und,_=>trivial
 | .agg cs,h=>zbT (A:=cs) h
 | .tup cs,h=>zbT (A:=cs) h
 | .clo _ cs,h=>zbT (A:=cs) h
 | .ifc _ A,h=>WP (A:=A) h
 | .sl _ _ _,h=>by cases h
 | .row _,h=>by cases h
 | .pc _ _,h=>by cases h
 | .pr _ _ _ _,h=>by cases h
 | .nx _ _ _ _,h=>by cases h
 | .pz _ _ _,h=>by cases h
theorem zbT{D:Nat->Type}{p:Nat->Prop}:∀{A:List (AV D)},AV.flats A=E->AV.oks p A
 |[],_=>trivial
 |A::As,h=>by
  simp only[AV.flats,gf] at h;exact⟨WP h.1,zbT h.2⟩
end
mutual
def Sh.flat:Sh->Bool
 | .int _=>E
 | .bool=>E
 | .str=>E
 | .pnil=>E
 | .nilf=>E
 | .nili=>E
 | .und=>E
 | .tup l=>Sh.flats l
 | .ifc _ s=>Sh.flat s
 |_=>H
def Sh.flats:List Sh->Bool
 |[]=>E
 |s::l=>Sh.flat s && Sh.flats l
end
def Spec.view(s:Spec C):Bool:=s.ins.es.isEmpty && s.outs.all λo=>o.2.es.isEmpty && (Sh.flats (o.2.ts.map (·.2)) && (match o.1 with | .pan t=>t.flat | _=>E))
mutual
def AV.flatN{D:Nat->Type}:AV D->Bool
 | .int _ _=>E
 | .bool _=>E
 | .str _=>E
 | .pnil=>E
 | .nils=>E
 | .nilf=>E
 | .nili=>E
 | .und=>E
 | .row _=>E
 | .pc _ _=>E
 | .pr _ _ _ _=>E
 | .nx _ _ _ _=>E
 | .agg cs=>AV.flatNs cs
 | .tup cs=>AV.flatNs cs
 | .clo _ cs=>AV.flatNs cs
 | .ifc _ A=>AV.flatN A
 |_=>H
def AV.flatNs{D:Nat->Type}:List (AV D)->Bool
 |[]=>E
 |A::As=>AV.flatN A && AV.flatNs As
end
omit [Dfr] in
mutual
theorem VR.flatN{Z':FS}:∀{A:AV C.D}{v:Value},A.flatN=E->VR C Z ν v A->VR C Z' ν v A
 | .int _ _,v,_,r=>by rw[r.int_inv];exact Rv.int
 | .bool _,v,_,r=>by rw[r.bool_inv];exact Rv.bool
 | .str _,v,_,r=>by rw[r.str_inv];exact Rv.str
 | .pnil,v,_,r=>by rw[r.pnil_inv];exact Rv.pnil
 | .nils,v,_,r=>r
 | .nilf,v,_,r=>by
  have:Rv C Z v .nilf:=r;cases this;exact Rv.nilf
 | .nili,v,_,r=>by rw[r.nili_inv];exact Rv.nili
 | .und,v,_,r=>trivial
 | .row _,v,_,r=>r
 | .pc _ _,v,_,r=>r
 | .pr _ _ _ _,v,_,r=>r
 | .nx _ _ _ _,v,_,r=>r
 | .agg cs,v,h,⟨vs,e,r⟩=>⟨vs,e,VRs.flatN h r⟩
 | .tup cs,v,h,⟨vs,e,r⟩=>⟨vs,e,VRs.flatN h r⟩
 | .clo _ cs,v,h,⟨vs,e,r⟩=>⟨vs,e,VRs.flatN h r⟩
 | .ifc _ A,v,h,⟨u,e,r⟩=>⟨u,e,VR.flatN (A:=A) h r⟩
 | .sl _ _ _,_,h,_=>by cases h
 | .pz _ _ _,_,h,_=>by cases h
theorem VRs.flatN{Z':FS}:∀{cs:List (AV C.D)}{vs:List Value},AV.flatNs cs=E->VRs C Z ν vs cs->VRs C Z' ν vs cs
 |[],[],_,_=>trivial
 |A::As,v::vs,h,⟨r,s⟩=>by
  simp only[AV.flatNs,gf] at h;exact⟨VR.flatN h.1 r,VRs.flatN h.2 s⟩
 |[],_::_,_,r=>r.elim
 |_::_,[],_,r=>r.elim
end
mutual
def Sh.flatN:Sh->Bool
 | .int _=>E
 | .bool=>E
 | .str=>E
 | .pnil=>E
 | .nils=>E
 | .nilf=>E
 | .nili=>E
 | .und=>E
 | .row _=>E
 | .pc _ _=>E
 | .pr _ _ _=>E
 | .nx _ _=>E
 | .nxe _ _ _ _=>E
 | .nxp _ _ _=>E
 | .agg l=>Sh.flatNs l
 | .tup l=>Sh.flatNs l
 | .clo _ l=>Sh.flatNs l
 | .ifc _ s=>Sh.flatN s
 |_=>H
def Sh.flatNs:List Sh->Bool
 |[]=>E
 |s::l=>Sh.flatN s && Sh.flatNs l
end
omit [Dfr] in
mutual
theorem Sh.put_flatN{ρ:Nat->Nat}:∀(s:Sh) {x:s.ty C},s.flatN=E->(Sh.put ρ s x).flatN=E
 | .int _,_,_=>rfl
 | .bool,_,_=>rfl
 | .str,_,_=>rfl
 | .pnil,_,_=>rfl
 | .nils,_,_=>rfl
 | .nilf,_,_=>rfl
 | .nili,_,_=>rfl
 | .und,_,_=>rfl
 | .row _,_,_=>rfl
 | .pc _ _,_,_=>rfl
 | .pr _ _ _,_,_=>rfl
 | .nx _ _,_,_=>rfl
 | .nxe _ _ _ _,_,_=>rfl
 | .nxp _ _ _,_,_=>rfl
 | .agg l,x,h=>Sh.putc_flatN l h
 | .tup l,x,h=>Sh.puts_flatN l h
 | .clo _ l,x,h=>Sh.puts_flatN l h
 | .ifc _ s,x,h=>Sh.put_flatN s h
 | .val _,_,h=>by cases h
 | .sl _,_,h=>by cases h
 | .pz _ _,_,h=>by cases h
 | .orow _,_,h=>by cases h
theorem Sh.puts_flatN{ρ:Nat->Nat}:∀(l:List Sh) {x:Sh.tys C l},Sh.flatNs l=E->AV.flatNs (Sh.puts ρ l x)=E
 |[],_,_=>rfl
 |s::l,x,h=>by
  simp only[Sh.flatNs,gf] at h;simp only[Sh.puts,AV.flatNs,gf];exact⟨Sh.put_flatN s h.1,Sh.puts_flatN l h.2⟩
theorem Sh.putc_flatN{ρ:Nat->Nat}:∀(l:List Sh) {x:Sh.tys C l},Sh.flatNs l=E->AV.flatNs (Sh.putc ρ l x)=E
 |[],_,_=>rfl
 |s::l,x,h=>by
  simp only[Sh.flatNs,gf] at h;have a:Sh.isVal s=none:=by cases s<;>first | rfl | (simp[Sh.flatN] at h)
  unfold Sh.putc;simp only[a,AV.flatNs,gf];exact⟨Sh.put_flatN s h.1,Sh.putc_flatN l h.2⟩
end
def zz3:Uv Nat->Bool
 |none=>E
 |some _=>H
def Cod.flt(C:Cod)(T:Nat):Bool:=(C.lfs T).all zz3
def Cod.floE(C:Cod)(T:Nat):List (Uv Nat)->Nat->Bool
 |[],_=>E
 |none::r,k=>Cod.floE C T r (k+1)
 |some U::r,k=>W k (C.nst T) && (C.flt U && Cod.floE C T r (k+1))
def Cod.flo(C:Cod)(T:Nat):Bool:=Cod.floE C T (C.lfs T) 0
def ESh.free(C:Cod):ESh->Bool
 | .cell l=>Sh.flatNs l
 | .row T=>C.flt T
 | .orow T=>C.flo T
 | .gone=>E
 |_=>H
theorem zwq{T:Nat}(h:C.flt T=E){x:C.D T}{j:Nat}{A:AV C.D}(a:(C.emb T x)[j]?=G A):A.num=true:=by
 rcases C.lfs_ok T x j A a with h1 | ⟨U,s,_,h2⟩ | ⟨U,s,_,h2⟩
 ·exact h1
 ·have:=Dp.1 h _ (UM h2);cases this
 ·have:=Dp.1 h _ (UM h2);cases this
theorem zbi{T:Nat}:∀{l:List (Uv Nat)}{k j:Nat}{U:Nat},Cod.floE C T l k=E->l[j]?=G (G U)->k+j=C.nst T/\C.flt U=E
 |none::r,k,0,U,h,e=>by simp at e
 |none::r,k,j+1,U,h,e=>by
  have:=zbi (l:=r) (k:=k+1) (j:=j) (U:=U) h (by simpa using e);grind
 |some V::r,k,0,U,h,e=>by
  simp at e;subst e;simp only[Cod.floE,gf] at h;exact⟨by have:=ge h.1;omega,h.2.1⟩
 |some V::r,k,j+1,U,h,e=>by
  simp only[Cod.floE,gf] at h;have:=zbi (l:=r) (k:=k+1) (j:=j) (U:=U) h.2.2 (by simpa using e);grind
 |[],k,j,U,h,e=>by simp at e
theorem zkw{Z Z':FS}{u:Value}{A:AV C.D}(h:A.num=E)(r:Rv C Z u A):Rv C Z' u A:=by
 cases r<;>first | (cases h;done) | exact .int | exact .bool | exact .str
theorem zkx{α:Type}{T:OTy α}{e:TypeId}{v:Value}{s:Sl α}{Z Z':FS}{h:zc}(f:∀x cs g,x∈s.xs->T.rel Z g cs x->T.rel Z' g cs x)(r:zn T e v s Z h):zn T e v s Z' h:=by
 rcases r with r | r | ⟨q,b,cur,hb,m,j,n,l,k,w,r0,y,u,t,o,a⟩
 ·exact .inl r
 ·exact .inr (.inl r)
 ·refine .inr (.inr ⟨q,b,cur,hb,m,j,n,l,k,w,r0,y,u,t,o,?_⟩);let⟨h1,hs,h2,p,d⟩:=a;exact⟨h1,hs,λi x c=>f x _ _ (UM c) (h2 i x c),p,d⟩
theorem zm2{Z Z':FS}{T:Nat}{v:Value}{s:Sl (C.D T)}{h:zc}(b:C.flt T=E)(r:zn (zC C T).o T v s Z h):zn (zC C T).o T v s Z' h:=
 zkx (λx cs g _ r=>⟨r.1,λj A a=>by
  let⟨u,c,d⟩:=r.2 j A a
  exact⟨u,c,zkw (zwq b a) d⟩⟩) r
theorem zwr{Z Z':FS}{T:Nat}{v:Value}{sub:Nat->Value}{s:Sl (C.D T)}{h:zc}(c:C.flo T=E)(r:zn (Ze C T) T v (hpl C T sub s .all) Z h):zn (Ze C T) T v (hpl C T sub s .all) Z' h:=by
 refine zkx (λp cs g hp r=>?_) r;have h1:p.2.1=1:=by
  let⟨j,b⟩:=qD.1 hp;simp only[hpl,Dm] at b;cases m:s.xs[j]? with
  |none=>grind
  |some x=>rw[m] at b;cases b;rfl
 let⟨o,t,k,w,B,y⟩:=(r:yZ C T Z g cs p);refine⟨o,t,λj A b n=>?_,w,λe=>jE,λe=>?_⟩
 ·let⟨u,a,f⟩:=k j A b n;refine⟨u,a,zkw ?_ f⟩;rcases C.lfs_ok T p.1 j A b with h2 | ⟨U,s',_,h2⟩ | ⟨U,s',_,h2⟩
  ·exact h2
  ·have:=(zbi c h2).1;omega
  ·have:=(zbi c h2).1;omega
 ·let⟨U,s',a,f⟩:=y e;refine⟨U,s',a,zm2 ?_ f⟩;have q:Zo C T p.1 ≠.und:=jE
  unfold Zo at a q;cases i:(C.emb T p.1)[C.nst T]? with
  |none=>grind
  |some A=>
   rw[i] at a;have a:A = .sl U s' false:=a;subst a;rcases C.lfs_ok T p.1 _ _ i with h2 | ⟨z,l,d,h2⟩ | ⟨z,l,d,h2⟩
   ·cases h2
   ·cases d;exact(zbi c h2).2
   ·cases d
theorem zcY{ρ:Nat->Nat}:∀(ts:List (Nat×Sh)) (a:List Sh) (x:Sh.tys C (ts.map (·.2)++a)) (t:Nat),Sh.flatNs (ts.map (·.2))=E->(WY ρ ts a x t).flatN=E
 |[],_,_,_,_=>rfl
 |(t0,s)::ts,a,x,t,h=>by
  simp only[U8,Sh.flatNs,gf] at h;unfold WY;cases W t t0 with
  |true=>exact Sh.put_flatN s h.1
  |false=>exact zcY ts a _ t h.2
theorem zcZ{ρ:Nat->Nat}:∀(es:List ESh) (k0:Nat) (x:Sh.tys C (es.map ESh.sh)) (i:Nat) {e:Ent C},es.all (ESh.free C)=E->ZO ρ es k0 x i=G e->(∃cs,e = .cell cs/\AV.flatNs cs=E)\/(∃T s,e = .row T s/\C.flt T=E)\/∃T s,e = .orow T s .all/\C.flo T=E
 |[],k0,x,i,e,h,he=>by cases he
 |e0::es,k0,x,i,e,h,he=>by
  simp only[List.all_cons,gf] at h;unfold ZO at he;cases hb:W i (ρ k0) with
  |false=>rw[hb] at he;exact zcZ es (k0+1) _ i h.2 he
  |true=>
   rw[hb,Dq] at he;have h1:=h.1;cases e0 with
   |cell l=>cases he;exact .inl ⟨_,rfl,Sh.putc_flatN l h1⟩
   |row T=>cases he;exact .inr (.inl ⟨T,_,rfl,h1⟩)
   |orow T=>cases he;exact .inr (.inr ⟨T,_,rfl,h1⟩)
   |obj k T=>cases h1
   |xrow T=>cases h1
   |forow T=>cases h1
   |gone=>cases he
omit [Dfr] in
theorem AbsL.free {κ:Kp}{g:Sig}{x:g.ty C}{ν:Val}{vs:Nat->List Value}{ids:List Nat}{L:List (Nat×Value)}{b:Nat->Value}{Z Z':FS}{PV:List Priv}(h:AbsL κ (g.open x) ν vs ids L b Z' PV) (h1:Sh.flatNs (g.ts.map (·.2))=E) (h2:g.es.all (ESh.free C)=E) :
    AbsL κ (g.open x) ν vs ids L b Z PV/\∀l,Sep Z' PV l->Sep Z PV l:=by
 have c:∀i e,(g.open x).heap i=G e->(∃cs,e = .cell cs/\AV.flatNs cs=E)\/(∃T s,e = .row T s/\C.flt T=E)\/∃T s,e = .orow T s .all/\C.flo T=true:=λi e k=>zcZ g.es 0 _ i h2 k
 refine⟨⟨⟨h.nd,h.dom,h.pv,λid cs n=>?_,λt=>VR.flatN (zcY g.ts _ _ t h1) (h.env t),h.one⟩,h.live,h.livec,h.keep⟩,λl hs=>?_⟩
 · rcases c id _ n with⟨cs',e,j⟩ | ⟨T,s,e,_⟩ | ⟨T,s,e,_⟩
   ·cases e;exact VRs.flatN j (h.cell id cs n)
   all_goals grind
 · let⟨d,q,r,o⟩:=hs;refine⟨d,λi p hp=>?_,r,o⟩;have a:=q i p hp;rw[h.pv,U3] at hp;cases hid:ids[i]? with
   |none=>grind
   |some id=>
    rw[hid] at hp;cases hp;have m:=(h.dom id).1 (UM hid);cases k:(g.open x).heap id with
    |none=>grind
    |some e=>
     have a:(zK C ν vs id ((g.open x).heap id)).holds Z' (d i):=a;show(zK C ν vs id ((g.open x).heap id)).holds Z (d i);rw[k] at a |-
     rcases c id e k with⟨cs',f,_⟩ | ⟨T,s,f,j⟩ | ⟨T,s,f,j⟩
     ·subst f;exact a
     ·subst f;exact zm2 j a
     ·subst f;exact zwr j a
def Spec.viewO(s:Spec C):Bool:=s.ins.es.isEmpty && s.outs.all λo=>(o.2.es.all (ESh.free C) && Sh.flatNs (o.2.ts.map (·.2))) && X o.2.es.length 64
theorem Inv.past_own{w w':World}{τ Z':FS}{A':List Priv}(hi:Inv w0 σ0 Z PV w)(c:Z.le τ)(k:Inv ⟨w,zc.none⟩ τ Z' A' w')(g:∀h,Sep Z' A' h->Sep Z A' h):Inv w0 σ0 Z (A'++PV) w':=by
 let⟨h,hs,i⟩:=hi.own;let⟨f,d,a⟩:=k.own;have b:=c.trans k.le
 have l:Inv ⟨w,zc.none⟩ Z Z A' w':=⟨b.sub k.sub,.refl Z,λ_ _ _ e =>.inl e,⟨f,g f d,a.sub,λq o e=>by
  cases j:Z q o with
  |none=>rfl
  |some v=>exact absurd (a.apart q o e) (by rw[b q o v j];simp),a.mine⟩,k.ext⟩
 exact hi.call (A':=A') (C:=PV) (h1:=zc.none) (h2:=h) i hs (zc.none_le _) (.refl _) (zc.none_disj _) l
theorem ze2{α:Type}{Q:XE C->St C->Prop}{K:XE C->St C->α}{z:α}:∀{outs:List (XK×Sig)}{r:zg C outs},zT outs r K=z->zT outs r Q->∃e S,K e S=z/\Q e S/\zeh (ym outs r) S/\∃o∈outs,∃x:o.2.ty C,S=o.2.open x
 |[],r,_,_=>r.elim
 |[o],r,h,q=>by
  let⟨e,S,h1,h2,c,b⟩:=one h q;exact⟨e,S,h1,h2,c,o,je,b⟩
 |o::o2::l,r,h,q=>by
  unfold zT at h q;unfold ym;cases r with
  |inl a=>
   let⟨e,S,h1,h2,c,b⟩:=one h q;grind
  |inr y=>
   let⟨e,S,h1,h2,c,o',d,b⟩:=ze2 h q;grind
where
 one {α:Type} {Q:XE C->St C->Prop} {K:XE C->St C->α} {z:α} {o:XK×Sig} {y:XK.ty C o.1 o.2} (h:Yi o.1 o.2 y K=z) (q:Yi o.1 o.2 y Q):∃e S,K e S=z/\Q e S/\zeh o.2.es S/\∃x:o.2.ty C,S=o.2.open x:=by
  let⟨k,g⟩:=o;cases k with
  |normal=>exact⟨_,_,h,q,xQ g _,_,rfl⟩
  |exit i=>exact⟨_,_,h,q,xQ g _,_,rfl⟩
  |ret=>exact⟨_,_,h,q,xQ g _,_,rfl⟩
  |pan s=>exact⟨_,_,h,q,xQ g _,_,rfl⟩
def zbj(S:St C)(d nr:Nat)(e:XE C)(Sr:St C):Uv (Out C):=match e with
 | .ret=>chk (zkv (λk=>k) nr Sr).flat (G (.go (S.put d (zkv (λk=>k) nr Sr))))
 | .pan A=>chk A.flat (G (.pan A S))
 |_=>M
def yT(s:Spec C)(d:Nat)(S:St C)(x:s.ins.ty C):Uv (Out C):=
 chk s.ins.es.isEmpty ((s.F x).bind λr=>zT s.outs r λe Sr=>zbj S d s.nr e Sr)
def zuZ:XE C->Bool
 | .pan A=>A.flat
 |_=>E
def yG(s:Spec C)(d:Nat)(S:St C)(x:s.ins.ty C):Uv (Out C):=
 (s.F x).bind λr=>zT s.outs r λe Sr=>chk (zuZ e) (Wd S d s.nr [] (ym s.outs r) e Sr)
theorem zho {ρ:Nat->Nat}{ν':Val}{Sr:St C}{νr:Val}{a:List Value}{p q:Nat->Prop}(e:∀t,VR C Z νr (look (yq 0 a) (λ_=>undef) t) (Sr.env t)) (c:∀t,(Sr.env t).ok p) (f:∀k,p k->ν'.hdr (ρ k)=νr.hdr k/\ν'.adr (ρ k)=νr.adr k) (g:∀k,p k->q (ρ k)) :
    VR C Z ν' (zdj a) (zkv ρ a.length Sr)/\(zkv ρ a.length Sr).ok q:=by
 have key:∀i,VR C Z ν' ((a[i]?).getD undef) (AV.ren ρ (Sr.env i))/\(AV.ren ρ (Sr.env i)).ok q:=λi=>by
  have:=e i;rw[yr] at this;exact⟨this.ren f (c i),AV.ok_ren g (c i)⟩
 have d:∀(m:Nat) (l:List Value),(∀i,i < l.length->l[i]?=a[m+i]?)->VRs C Z ν' l ((qk m l.length).map λi=>AV.ren ρ (Sr.env i))/\AV.oks q ((qk m l.length).map λi=>AV.ren ρ (Sr.env i)):=by
  intro m l
  induction l generalizing m with
  |nil=>exact λ_=>⟨trivial,trivial⟩
  |cons v l j=>
   intro h;have h0:=h 0 je;have k:=key m;rw[show a[m]?=G v from by grind] at k;have:=j (m+1) λi hi=>by
    have:=h (i+1) (by simpa using hi);grind
   simp only[jz,List.range'_succ,U8];exact⟨⟨k.1,this.1⟩,⟨k.2,this.2⟩⟩
 have b:=d 0 a λi _=>jE
 rw[<- qB] at b
 match a,key,b with
 |[],_,b=>exact⟨⟨[],rfl,b.1⟩,b.2⟩
 |[v],key,_=>exact key 0
 |u::v::l,_,b=>exact⟨⟨_,rfl,b.1⟩,b.2⟩
def Spec.OKc(s:Spec C)(us:List Value)(cl:World->(Ending->World->Prop)->Prop):Prop:=
 ∀(x:s.ins.ty C) r,s.F x=G r->∀(κ:Kp) (st:Start) (Z:FS),C.gl st.w Z->∀(PV:List Priv) (ν:Val) (vs:Nat->List Value) (ids:List Nat),κ.m=s.ins.es.length->us.length=s.ins.ts.length->AbsL κ (s.ins.open x) ν vs ids (yq 0 us) (λ_=>undef) Z PV->Pre st Z PV->cl st.w (vi κ st Z s.nr s.outs r)
theorem ze3 {s:Spec C}{us:List Value}{cl:World->(Ending->World->Prop)->Prop}(hs:s.OKc us cl) (N:∀{w:World}{Q Q':Ending->World->Prop},cl w Q->(∀e w,Q e w->Q' e w)->cl w Q') (hgl:C.gl w0.w σ0) {d:Nat}{As:List (AV C.D)}{S2:St C}{bl:Bl}{x:s.ins.ty C}(hl:YV s.ins S As=G (S2,bl,x))
    (h:AbsL κ S ν vs ids L b Z PV) (hr:VRs C Z ν us As) (K:AV.oks (λid=>(S.heap id).isSome=E) As) {out:Out C} (ho:xy s d S2 bl x=G out) {w:World} (hi:Inv w0 σ0 Z PV w) :
    cl w λe w'=>match e with
     | .returned v=>∃S' Z' o,out = .go S'/\Inv w0 σ0 Z' o w'/\zD κ S' ((d,v)::L) b Z' o
     | .panicked f=>∃A S' u Z' o,out = .pan A S'/\f=[{v:=u,recovered:=false}]/\Inv w0 σ0 Z' o w'/\Xx C Z' u A/\zD κ S' L b Z' o
     | .outgrown=>False:=by
 unfold YV at hl;let⟨hc,hl⟩:=zb hl;simp only[gf] at hc;have c1:=ge hc.1;have c2:=UZ hc.2;let⟨x',hx,he⟩:=D1.1 hl;cases he;let⟨I,PV1,p,ν1,vs1,ids1,h1⟩:=zch (g:=s.ins.shift) (m:=0) ⟨ν,vs,ids,h.virt hr K⟩ hi;generalize hS2:s.ins.shift.prep 0 (virt S As)=S2 at *
 generalize hbl:Zz s.ins.shift 0 S2=bl at *
 have U:∀t,VR C I ν1 (look (yq 0 us) (λ_=>undef) t) ((xc S2).env t):=λt=>by
  have:=h1.env (vB+t);rw[yr];have e:look [] (yn L b us) (vB+t)=(us[t]?).getD undef:=by
   show yn L b us (vB+t)=_;unfold yn;have:O (vB+t) vB=false:=by
    cases e:O (vB+t) vB with
    |false=>rfl
    |true=>rw[UT] at e;omega
   rw[this];simp
  rw[e] at this;exact this
 let⟨ν',vs',ids',k1,k2,k3,k4,k5⟩:=h1.lend (T:=xc S2) rfl U hx c2;have hB:=BdOK.of ((gf _ _).mp (zb hx).1).1;let⟨gg,R,hg⟩:=p.own;let⟨f1,f2,s1,s2,l1,l2,dd⟩:=(k5 gg R).split;let⟨r,hr',ho⟩:=gd ho;let⟨y,ho⟩:=zb ho;have y:=UZ y;have hus:us.length=s.ins.ts.length:=by rw[<- c1,hr.len]
 have z:=hs x r hr' ⟨s.ins.es.length,c2,ν'⟩ ⟨w,f1⟩ I (C.glm p.le p.ext hgl) _ ν' vs' ids' rfl hus k1 ⟨p.sub,s1,hg.sub.mono l1,(hg.mono l1).apart⟩;refine N z ?_;intro e w' hp;let⟨e',Sr,F,P,q3⟩:=Xz ho hp;unfold Wd at F;let⟨hfr,F⟩:=zb F
 have merge:∀{Lr br Z' A'},zD ⟨s.ins.es.length,c2,ν'⟩ Sr Lr br Z' A'->Inv ⟨w,f1⟩ I Z' A' w'->∃νr ν2 c a l,Inv w0 σ0 Z' l w'/\AbsL κ (unvirt (Zy S2 Sr d bl (ym s.outs r))) ν2 c a L b Z' l/\(∀t,VR C Z' νr (look Lr br t) (Sr.env t))/\(∀t,(Sr.env t).ok λid=>(Sr.heap id).isSome=E)/\
     (∀k,(Sr.heap k).isSome=E->ν2.hdr (xx d bl k)=νr.hdr k/\ν2.adr (xx d bl k)=νr.adr k)/\∀k,(Sr.heap k).isSome=E->((Zy S2 Sr d bl (ym s.outs r)).heap (xx d bl k)).isSome=true:=by
  rintro Lr br Z' A' ⟨νr,vsr,idsr,hA⟩ j;have B:∀k,(Sr.heap k).isSome=E->Bl.fn bl k=M->S2.heap (nid d k)=none:=λk hk hn=>by
   let⟨e,he,_⟩:=(q3 k).1 hk;exact zdn hfr k (U5.1 he).1 hk hn
  let⟨ν2,c,a,m1,V,m3⟩:=h1.merge (d:=d) (es:=ym s.outs r) hA j.le hB.inj hB.lt k4 k2 q3 B y;exact⟨νr,ν2,c,a,_,p.call hg s2 l1 l2 dd j,m1.unvirt,hA.env,hA.live,V,m3⟩
 cases e' with
 |normal=>cases F
 |exit i=>cases F
 |ret=>
  cases e with
  |returned v=>
   obtain⟨vals,Z',A',rfl,hnr,j,hA⟩:=P;let⟨νr,ν2,c,a,l,m1,V,m3,m4,m5,m6⟩:=merge hA j;cases F;have n:=zho (ρ:=xx d bl) (q:=λi=>((Zy S2 Sr d bl (ym s.outs r)).heap i).isSome=E) m3 m4 m5 m6;rw[hnr] at n;exact⟨_,Z',l,rfl,m1,ν2,c,a,V.put n.1 n.2⟩
  |panicked f=>exact P.elim
  |outgrown=>exact P.elim
 |pan A=>
  cases e with
  |returned v=>exact P.elim
  |outgrown=>exact P.elim
  |panicked f=>
   obtain⟨u,Z',A',rfl,j,hp',hA⟩:=P;let⟨νr,ν2,c,a,l,m1,V,m3,m4,m5,m6⟩:=merge hA j;cases F;exact⟨_,_,u,Z',l,rfl,rfl,m1,hp',ν2,c,a,V⟩
theorem zn9 {s:Spec C}(hs:s.OK P) (c:C.gl w0.w σ0) {d:Nat}{As:List (AV C.D)}{us:List Value}{S2:St C}{bl:Bl}{x:s.ins.ty C}(n:YV s.ins S As=G (S2,bl,x))
    (h:AbsL κ S ν vs ids L b Z PV) (l:VRs C Z ν us As) (g:AV.oks (λid=>(S.heap id).isSome=E) As) {out:Out C} (p:xy s d S2 bl x=G out) {w:World} (hi:Inv w0 σ0 Z PV w) :
    Calls P s.f us.toArray w λe w'=>match e with
     | .returned v=>∃S' Z' a,out = .go S'/\Inv w0 σ0 Z' a w'/\zD κ S' ((d,v)::L) b Z' a
     | .panicked i=>∃A S' u Z' a,out = .pan A S'/\i=[{v:=u,recovered:=false}]/\Inv w0 σ0 Z' a w'/\Xx C Z' u A/\zD κ S' L b Z' a
     | .outgrown=>False:=by
 let⟨fn,q,_,_,hs⟩:=hs;exact ze3 (cl:=λw Q=>Calls P s.f us.toArray w Q) (λx r m κ st Z c PV ν vs ids h1 h2 o j=>hs x r m κ st Z c PV ν vs ids us h1 h2 o j) (λh k=>Calls.mono h k) c n h l g p hi
theorem ze4 {s:Spec C}(hs:s.OK P) (hgl:C.gl w0.w σ0) {d:Nat}{T:St C}{N:Nat}{us:List Value}{S2:St C}{bl:Bl}{x:s.ins.ty C}(hl:YL s.ins T N=G (S2,bl,x)) (hN:us.length=N)
    (h:AbsL κ S ν vs ids L b Z PV) {out:Out C} (V:yT s d S x=G out) {w:World} (hi:Inv w0 σ0 Z PV w) (hT:∀w0 σ0,Inv w0 σ0 Z PV w->∃n D,Inv w0 σ0 n D w/\zD κ T [] (yn L b us) n D) :
    Calls P s.f us.toArray w λe w'=>match e with
     | .returned v=>∃S' Z' c,out = .go S'/\Inv w0 σ0 Z' c w'/\zD κ S' ((d,v)::L) b Z' c
     | .panicked a=>∃A S' u Z' c,out = .pan A S'/\a=[{v:=u,recovered:=false}]/\Inv w0 σ0 Z' c w'/\Xx C Z' u A/\zD κ S' L b Z' c
     | .outgrown=>False:=by
 let⟨hes,V⟩:=zb V;unfold YL at hl;let⟨hc,hl⟩:=zb hl;simp only[gf] at hc;have c1:=ge hc.1;have c2:=UZ hc.2;let⟨x',hx,he⟩:=D1.1 hl;cases he;let⟨gg,I,hg⟩:=hi.own;let⟨σ0',PV0',U,Q⟩:=hT ⟨w,gg⟩ Z ⟨hi.sub,.refl Z,λb o v hb =>.inl hb,⟨gg,I,hg.sub,hg.apart,λb i e =>.inr e⟩,.refl w gg⟩;let⟨n,D,j,ν1,vs1,ids1,h1⟩:=zch (g:=s.ins.shift) (m:=0) Q U;generalize hS2:s.ins.shift.prep 0 T=S2 at *
 generalize hbl:Zz s.ins.shift 0 S2=bl at *
 have K:∀t,VR C n ν1 (look (yq 0 us) (λ_=>undef) t) ((xc S2).env t):=λt=>by
  have:=h1.env (vB+t);rw[yr];have e:look [] (yn L b us) (vB+t)=(us[t]?).getD undef:=by
   show yn L b us (vB+t)=_;unfold yn;have:O (vB+t) vB=false:=by
    cases e:O (vB+t) vB with
    |false=>rfl
    |true=>rw[UT] at e;omega
   rw[this];simp
  rw[e] at this;exact this
 let⟨ν',vs',R,k1,k2,k3,k4,k5⟩:=h1.lend (T:=xc S2) rfl K hx c2;have hB:=BdOK.of ((gf _ _).mp (zb hx).1).1;have hids:R=[]:=qF.2 λk hk=>by
  let⟨id,e⟩:=UG.1 ((k3 k).1 hk);have:=hB.lt k id e;grind
 rw[hids] at k1;let⟨r,hr',V⟩:=gd V;have hus:us.length=s.ins.ts.length:=by rw[hN,c1]
 let⟨fn,hf,_,_,hs⟩:=hs;have y:=hs x r hr' ⟨s.ins.es.length,c2,ν'⟩ ⟨w,zc.none⟩ n (C.glm j.le j.ext (C.glm hi.le hi.ext hgl)) _ ν' vs' _ us rfl hus k1 (Pre.empty j.sub);refine Calls.mono y ?_;intro e w' hp;let⟨e',Sr,p,F,q3⟩:=Xz V hp;unfold zbj at p;cases e' with
 |normal=>cases p
 |exit i=>cases p
 |ret=>
  cases e with
  |returned v=>
   obtain⟨vals,Z',A',rfl,hnr,B,νr,vsr,idsr,hA⟩:=F;let⟨l,p⟩:=zb p;cases p;have z:=zho (Z:=Z') (ρ:=λk=>k) (ν':=νr) (q:=λi=>(Sr.heap i).isSome=E) hA.env hA.live (λk _=>⟨rfl,rfl⟩) (λk hk=>hk);rw[hnr] at z;exact⟨_,Z,PV,rfl,hi.past j.le B,ν,vs,ids,h.put (VR.flat l z.1) (WP l)⟩
  |panicked a=>exact F.elim
  |outgrown=>exact F.elim
 |pan A=>
  cases e with
  |returned v=>exact F.elim
  |outgrown=>exact F.elim
  |panicked a=>
   obtain⟨u,Z',A',rfl,B,hp',hA⟩:=F;let⟨l,p⟩:=zb p;cases p;exact⟨_,_,u,Z,PV,rfl,rfl,hi.past j.le B,⟨WP l,λν hν=>VR.flat l (hp'.2 ν hν)⟩,ν,vs,ids,h⟩
theorem AbsL.nilB {κs:Kp}{C:Cod}{S Sr:St C}{d:Nat}{es:List ESh}{νr:Val}{vsr:Nat->List Value}{idsr:List Nat}{Lr:List (Nat×Value)}{br:Nat->Value}{A':List Priv}{κ:Kp}{ν:Val}{vs:Nat->List Value}{ids:List Nat}{L:List (Nat×Value)}{b:Nat->Value}{Z:FS}{PV:List Priv}(h:AbsL κ S ν vs ids L b Z PV) (p:AbsL κs Sr νr vsr idsr Lr br Z A') (s:κs.m=0)
    (l:zeh es Sr) (g:∀k,(Sr.heap k).isSome=E->S.heap (nid d k)=M) :
    ∃ν2 f a,AbsL κ (Go.Px.unvirt (Zy S Sr d [] es)) ν2 f a L b Z (A'++PV)/\
     (∀k,(Sr.heap k).isSome=E->ν2.hdr (xx d [] k)=νr.hdr k/\ν2.adr (xx d [] k)=νr.adr k)/\∀k,(Sr.heap k).isSome=E->((Go.Px.unvirt (Zy S Sr d [] es)).heap (xx d [] k)).isSome=true:=by
 let⟨ν2,f,a,c,r,n⟩:=h.merge (bl:=[]) (d:=d) (es:=es) p (.refl Z) (λi j id e=>by simp[Bl.fn] at e) (λk id e=>by simp[Bl.fn] at e) (λk id e=>by simp[Bl.fn] at e) (λk id e=>by simp[Bl.fn] at e) l (λk q _=>g k q) Zd;have o:(ids.filter λj=> !yf j [])=ids:=List.filter_eq_self.2 λj _=>rfl
 rw[o,<- h.pv] at c;refine⟨ν2,f,a,?_,r,n⟩;refine⟨⟨c.nd,c.dom,c.pv,c.cell,λt=>?_,c.one⟩,λt=>?_,c.livec,c.keep⟩
 · show VR C Z ν2 _ (bif O t vB then _ else .und);cases O t vB with
   |true=>exact c.env t
   |false=>trivial
 · show(bif O t vB then _ else AV.und).ok _;cases O t vB with
   |true=>exact c.live t
   |false=>trivial
theorem ze5 {s:Spec C}(hs:s.OK P) (F:s.viewO=E) (hgl:C.gl w0.w σ0) {d:Nat}{T:St C}{N:Nat}{us:List Value}{S2:St C}{bl:Bl}{x:s.ins.ty C}(hl:YL s.ins T N=G (S2,bl,x)) (hN:us.length=N)
    (h:AbsL κ S ν vs ids L b Z PV) {out:Out C} (ho:yG s d S x=G out) {w:World} (hi:Inv w0 σ0 Z PV w) (hT:∀w0 σ0,Inv w0 σ0 Z PV w->∃n Q,Inv w0 σ0 n Q w/\zD κ T [] (yn L b us) n Q) :
    Calls P s.f us.toArray w λe w'=>match e with
     | .returned v=>∃S' Z' y,out = .go S'/\Inv w0 σ0 Z' y w'/\zD κ S' ((d,v)::L) b Z' y
     | .panicked l=>∃A S' u Z' y,out = .pan A S'/\l=[{v:=u,recovered:=false}]/\Inv w0 σ0 Z' y w'/\Xx C Z' u A/\zD κ S' L b Z' y
     | .outgrown=>False:=by
 simp only[Spec.viewO,gf] at F;let⟨hes,F⟩:=F;unfold YL at hl;let⟨hc,hl⟩:=zb hl;simp only[gf] at hc;have c1:=ge hc.1;have c2:=UZ hc.2;let⟨x',hx,he⟩:=D1.1 hl;cases he;let⟨gg,V,hg⟩:=hi.own;let⟨σ0',PV0',hi0',hA0'⟩:=hT ⟨w,gg⟩ Z ⟨hi.sub,.refl Z,λb o v hb =>.inl hb,⟨gg,V,hg.sub,hg.apart,λb i e =>.inr e⟩,.refl w gg⟩;let⟨n,Q,B,ν1,vs1,ids1,h1⟩:=zch (g:=s.ins.shift) (m:=0) hA0' hi0';generalize hS2:s.ins.shift.prep 0 T=S2 at *
 generalize hbl:Zz s.ins.shift 0 S2=bl at *
 have henv:∀t,VR C n ν1 (look (yq 0 us) (λ_=>undef) t) ((xc S2).env t):=λt=>by
  have:=h1.env (vB+t);rw[yr];have e:look [] (yn L b us) (vB+t)=(us[t]?).getD undef:=by
   show yn L b us (vB+t)=_;unfold yn;have:O (vB+t) vB=false:=by
    cases e:O (vB+t) vB with
    |false=>rfl
    |true=>rw[UT] at e;omega
   rw[this];simp
  rw[e] at this;exact this
 let⟨ν',vs',ids',k1,k2,k3,k4,k5⟩:=h1.lend (T:=xc S2) rfl henv hx c2;have hB:=BdOK.of ((gf _ _).mp (zb hx).1).1;have hids:ids'=[]:=qF.2 λk hk=>by
  let⟨id,e⟩:=UG.1 ((k3 k).1 hk);have:=hB.lt k id e;rw[qE.1 hes] at this;simp at this
 rw[hids] at k1;let⟨r,hr',ho⟩:=gd ho;have hus:us.length=s.ins.ts.length:=by rw[hN,c1]
 let⟨fn,hf,_,_,hs⟩:=hs;have I:=hs x r hr' ⟨s.ins.es.length,c2,ν'⟩ ⟨w,zc.none⟩ n (C.glm B.le B.ext (C.glm hi.le hi.ext hgl)) _ ν' vs' _ us rfl hus k1 (Pre.empty B.sub);refine Calls.mono I ?_;intro e w' hp;obtain⟨e',Sr,D,U,q3,o,ho1,K,rfl⟩:=ze2 ho hp;have c:=Dp.1 F o ho1;simp only[gf] at c;let⟨hpf,D⟩:=zb D;unfold Wd at D;let⟨hfr,D⟩:=zb D;have hm0:s.ins.es.length=0:=by rw[qE.1 hes];rfl
 have merge:∀{Lr br Z' A'},zD ⟨s.ins.es.length,c2,ν'⟩ (o.2.open K) Lr br Z' A'->Inv ⟨w,zc.none⟩ n Z' A' w'->∃νr ν2 j a,Inv w0 σ0 Z (A'++PV) w'/\AbsL κ (unvirt (Zy S (o.2.open K) d [] (ym s.outs r))) ν2 j a L b Z (A'++PV)/\(∀t,VR C Z νr (look Lr br t) ((o.2.open K).env t))/\(∀t,((o.2.open K).env t).ok λid=>((o.2.open K).heap id).isSome=E)/\
     (∀k,((o.2.open K).heap k).isSome=E->ν2.hdr (xx d [] k)=νr.hdr k/\ν2.adr (xx d [] k)=νr.adr k)/\∀k,((o.2.open K).heap k).isSome=E->((unvirt (Zy S (o.2.open K) d [] (ym s.outs r))).heap (xx d [] k)).isSome=true:=by
  rintro Lr br Z' A' ⟨νr,vsr,idsr,hA⟩ z;let⟨R,hsp⟩:=hA.free (Z:=Z) c.1.2 c.1.1;let⟨ν2,j,a,m1,m2,m3⟩:=h.nilB (d:=d) R hm0 q3 λk hk=>by
   let⟨e,he,_⟩:=(q3 k).1 hk;exact zdn hfr k (U5.1 he).1 hk (by simp[Bl.fn])
  exact⟨νr,ν2,j,a,hi.past_own B.le z hsp,m1,R.env,R.live,m2,m3⟩
 cases e' with
 |normal=>cases D
 |exit i=>cases D
 |ret=>
  cases e with
  |returned v=>
   obtain⟨vals,Z',A',rfl,hnr,z,hA⟩:=U;let⟨νr,ν2,j,a,m1,m2,m3,m4,m5,m6⟩:=merge hA z;cases D;have p:=zho (ρ:=xx d []) (q:=λi=>((unvirt (Zy S (o.2.open K) d [] (ym s.outs r))).heap i).isSome=E) m3 m4 m5 m6;rw[hnr] at p;exact⟨_,Z,_,rfl,m1,ν2,j,a,m2.put p.1 p.2⟩
  |panicked l=>exact U.elim
  |outgrown=>exact U.elim
 |pan A=>
  cases e with
  |returned v=>exact U.elim
  |outgrown=>exact U.elim
  |panicked l=>
   obtain⟨u,Z',A',rfl,z,hp',hA⟩:=U;let⟨νr,ν2,j,a,m1,m2,m3,m4,m5,m6⟩:=merge hA z;cases D;exact⟨_,_,u,Z,_,rfl,rfl,m1,⟨WP hpf,λν hν=>VR.flat hpf (hp'.2 ν hν)⟩,ν2,j,a,m2⟩
end
variable [Dfr]
section
variable {κ:Kp}{C:Cod}{S:St C}{n:Nat}{w0:Start}{σ0 Z:FS}{P:Program}{L:List (Nat×Value)}{b:Nat->Value}{PV:List Priv}{ν:Val}{vs:Nat->List Value}{ids:List Nat}
mutual
def AV.nxs{D:Nat->Type}:AV D->List Nat
 | .nx id _ _ _=>[id]
 | .agg cs=>AV.nxss cs
 |_=>[]
def AV.nxss{D:Nat->Type}:List (AV D)->List Nat
 |[]=>[]
 |A::As=>AV.nxs A++AV.nxss As
end
mutual
def vO{α:Type}(S:St C):AV C.D->(AV C.D->Uv α)->Uv α
 | .nx id T i .whole,K=>zM S id T i λU u=>K (.sl U u H)
 | .agg cs,K=>We S cs λcs'=>K (.agg cs')
 |A,K=>K A
def We{α:Type}(S:St C):List (AV C.D)->(List (AV C.D)->Uv α)->Uv α
 |[],K=>K []
 |A::As,K=>vO S A λA'=>We S As λa=>K (A'::a)
end
mutual
def zhp(S:St C):AV C.D->AV C.D->Prop
 | .nx id T i .whole,B=>∃s g q U u c,S.heap id=G (.orow T s g)/\g.rd=E/\za s i=G q/\Zo C T q = .sl U u c/\B = .sl U u H
 | .agg cs,B=>∃ds,B = .agg ds/\vY S cs ds
 |A,B=>B=A
def vY(S:St C):List (AV C.D)->List (AV C.D)->Prop
 |[],Bs=>Bs=[]
 |A::As,Bs=>∃B a,Bs=B::a/\zhp S A B/\vY S As a
end
theorem zoa{α:Type}{id T:Nat}{i:Int}{K:(U:Nat)->Sl (C.D U)->Uv α}{a:α}(h:zM S id T i K=G a):∃s g q U u c,S.heap id=G (.orow T s g)/\g.rd=E/\za s i=G q/\Zo C T q = .sl U u c/\K U u=G a:=by
 unfold zM at h;split at h
 ·rename_i T' s g hs;let⟨b,h⟩:=zb h;simp only[gf] at b;obtain rfl:=ge b.1;let⟨q,d,h⟩:=gd h;grind
 ·cases h
omit [Dfr] in
mutual
theorem zws{α:Type}{r:α}:∀{A:AV C.D}{K:AV C.D->Uv α},vO S A K=G r->∃B,K B=G r/\zhp S A B
 | .nx id T i .whole,K,h=>by
  let⟨s,g,q,U,u,c,h1,h2,b,a,d⟩:=zoa h;exact⟨_,d,s,g,q,U,u,c,h1,h2,b,a,rfl⟩
 | .agg cs,K,h=>by
  let⟨ds,h1,h2⟩:=zbU (As:=cs) h;exact⟨_,h1,ds,rfl,h2⟩
 | .nx _ _ _ (.part _ _ _),K,h=>⟨_,h,rfl⟩
 | .nx _ _ _ (.elem _ _ _),K,h=>⟨_,h,rfl⟩
 | .int _ _,K,h=>⟨_,h,rfl⟩
 | .bool _,K,h=>⟨_,h,rfl⟩
 | .str _,K,h=>⟨_,h,rfl⟩
 | .tup _,K,h=>⟨_,h,rfl⟩
 | .sl _ _ _,K,h=>⟨_,h,rfl⟩
 | .row _,K,h=>⟨_,h,rfl⟩
 | .pc _ _,K,h=>⟨_,h,rfl⟩
 | .pr _ _ _ _,K,h=>⟨_,h,rfl⟩
 | .pz _ _ _,K,h=>⟨_,h,rfl⟩
 | .pnil,K,h=>⟨_,h,rfl⟩
 | .nils,K,h=>⟨_,h,rfl⟩
 | .clo _ _,K,h=>⟨_,h,rfl⟩
 | .nilf,K,h=>⟨_,h,rfl⟩
 | .ifc _ _,K,h=>⟨_,h,rfl⟩
 | .nili,K,h=>⟨_,h,rfl⟩
 | .und,K,h=>⟨_,h,rfl⟩
theorem zbU{α:Type}{r:α}:∀{As:List (AV C.D)}{K:List (AV C.D)->Uv α},We S As K=G r->∃a,K a=G r/\vY S As a
 |[],K,h=>⟨_,h,rfl⟩
 |A::As,K,h=>by
  let⟨B,h1,h2⟩:=zws (A:=A) h;let⟨a,c,b⟩:=zbU (As:=As) h1;exact⟨_,c,B,a,rfl,h2,b⟩
end
omit [Dfr] in
mutual
theorem zqV{α β:Type}{k:α->Uv β}:∀{A:AV C.D}{K:AV C.D->Uv α},(vO S A K).bind k=vO S A λB=>(K B).bind k
 | .nx id T i .whole,K=>by
  show(zM S id T i _).bind k=zM S id T i _;unfold zM;split
  ·cases a:(W T _ && Own.rd _) with
   |false=>rfl
   |true=>
    show((za _ i).bind _).bind k=(za _ i).bind _;grind
  ·rfl
 | .agg cs,K=>zbV (As:=cs)
 | .nx _ _ _ (.part _ _ _),K=>rfl
 | .nx _ _ _ (.elem _ _ _),K=>rfl
 | .int _ _,K=>rfl
 | .bool _,K=>rfl
 | .str _,K=>rfl
 | .tup _,K=>rfl
 | .sl _ _ _,K=>rfl
 | .row _,K=>rfl
 | .pc _ _,K=>rfl
 | .pr _ _ _ _,K=>rfl
 | .pz _ _ _,K=>rfl
 | .pnil,K=>rfl
 | .nils,K=>rfl
 | .clo _ _,K=>rfl
 | .nilf,K=>rfl
 | .ifc _ _,K=>rfl
 | .nili,K=>rfl
 | .und,K=>rfl
theorem zbV{α β:Type}{k:α->Uv β}:∀{As:List (AV C.D)}{K:List (AV C.D)->Uv α},(We S As K).bind k=We S As λa=>(K a).bind k
 |[],K=>rfl
 |A::As,K=>by
  show(vO S A _).bind k=vO S A _;rw[zqV (A:=A)];congr 1;funext B;exact zbV (As:=As)
end
def AV.bas{D:Nat->Type}:AV D->Bool
 | .agg cs=>cs.all AV.base
 |A=>A.base
def FzR(C:Cod)(S:St C)(ν:Val)(τ:FS)(l:List Nat):Prop:=∀id∈l,∀T s g,S.heap id=G (.orow T s g)->g.rd=E->∀i q U u c,za s i=G q->Zo C T q = .sl U u c->Rv C τ ((ν.adr id).sub i.toNat) (.sl U u c)
theorem zwt(h:AbsL κ S ν vs ids L b Z PV)(id:Nat){w:World}(hi:Inv w0 σ0 Z PV w):∃Z' n p,Inv w0 σ0 Z' n w/\AbsL κ (S.frz1 id) ν vs p L b Z' n/\Z.le Z'/\FzR C S ν Z' [id]:=by
 unfold St.frz1;split
 ·rename_i T s hs;let⟨m,x,hid⟩:=h.at hs;let⟨h1,f,l,a,d⟩:=hi.freeze x;have f:zn (zC C T).o T (ν.hdr id) s Z h1:=f;refine⟨_,_,_,d,h.sub hid a ((Rv.of_vrel (f.fast a λb o v e=>Xw b o v e)).vr) trivial rfl,a,?_⟩;intro j k T' s' g r;grind
 ·rename_i T s g hs;cases y:g.rd with
  |false=>
   refine⟨Z,PV,ids,hi,h,.refl Z,?_⟩;intro j k T' s' g' r t;grind
  |true=>
   let⟨m,x,hid⟩:=h.at hs;let⟨h1,f,l,a,d⟩:=hi.freeze x;have f:zn (Ze C T) T (ν.hdr id) (hpl C T (ν.adr id).sub s g) Z h1:=f;have z:=f.fast a λb o v e=>Xw b o v e
   refine⟨_,_,_,d,h.sub hid a ((Rv.of_vrel (zki y z)).vr) trivial rfl,a,?_⟩;intro j k T' s' g' r t i q U u c A B;have k:=Dr.1 k;subst k;rw[hs] at r;cases r;exact zwc y z A B
 ·rename_i h1 h2;refine⟨Z,PV,ids,hi,h,.refl Z,?_⟩;intro j k T' s' g' r;grind
theorem zqW{id j T:Nat}{s:Sl (C.D T)}{g:Own}(a:j≠id)(h:S.heap j=G (.orow T s g)):(S.frz1 id).heap j=G (.orow T s g):=by
 have key:∀R:AV C.D,(S.sub id R).heap j=G (.orow T s g):=λR=>by
  show(bif W j id then M else(S.heap j).map _)=_;cases hb:W j id with
  |true=>exact absurd (ge hb) a
  |false=>rw[h];rfl
 unfold St.frz1;grind
theorem zky:∀(l:List Nat) {S:St C}{Z:FS}{PV:List Priv}{ids:List Nat}(h:AbsL κ S ν vs ids L b Z PV) {w:World}(hi:Inv w0 σ0 Z PV w),∃Z' a f,Inv w0 σ0 Z' a w/\AbsL κ (S.frz l) ν vs f L b Z' a/\Z.le Z'/\FzR C S ν Z' l
 |[],S,Z,PV,ids,h,w,hi=>⟨Z,PV,ids,hi,h,.refl Z,λid hid=>by cases hid⟩
 |id::r,S,Z,PV,ids,h,w,hi=>by
  let⟨F,D,z,m,h1,I,B⟩:=zwt h id hi;let⟨n,p,d,o,h2,l2,A⟩:=zky r h1 m;refine⟨n,p,d,o,h2,I.trans l2,?_⟩;intro j K T s g t y i q U u c v x;by_cases e:j=id
  ·exact(B j (by simp[e]) T s g t y i q U u c v x).mono l2
  ·have k:j∈r:=by
    grind
   exact A j k T s g (zqW e t) y i q U u c v x
omit [Dfr] in
mutual
theorem zhp.vr{τ:FS}{l:List Nat}(b:Z.le τ)(d:FzR C S ν τ l):∀{A B:AV C.D}{v:Value},zhp S A B->(∀j∈A.nxs,j∈l)->VR C Z ν v A->VR C τ ν v B
 | .nx id T i .whole,B,v,⟨s,g,q,U,u,c,h1,h2,m,f,n⟩,a,r=>by
  subst n;have:=d id (a id (by simp[AV.nxs])) T s g h1 h2 i q U u c m f;rw[show v=(ν.adr id).sub i.toNat from r.1];exact(Rv.of_vrel this.vrel).vr
 | .agg cs,B,v,⟨ds,e,h⟩,a,⟨vs,k,r⟩=>by
  subst e;exact⟨vs,k,vY.vr b d h a r⟩
 | .nx _ _ _ (.part _ _ _),B,v,h,a,r=>by rw[show B=_ from h];exact r.mono b
 | .nx _ _ _ (.elem _ _ _),B,v,h,a,r=>by rw[show B=_ from h];exact r.mono b
 | .int _ _,B,v,h,a,r=>by rw[show B=_ from h];exact r.mono b
 | .bool _,B,v,h,a,r=>by rw[show B=_ from h];exact r.mono b
 | .str _,B,v,h,a,r=>by rw[show B=_ from h];exact r.mono b
 | .tup _,B,v,h,a,r=>by rw[show B=_ from h];exact r.mono b
 | .sl _ _ _,B,v,h,a,r=>by rw[show B=_ from h];exact r.mono b
 | .row _,B,v,h,a,r=>by rw[show B=_ from h];exact r.mono b
 | .pc _ _,B,v,h,a,r=>by rw[show B=_ from h];exact r.mono b
 | .pr _ _ _ _,B,v,h,a,r=>by rw[show B=_ from h];exact r.mono b
 | .pz _ _ _,B,v,h,a,r=>by rw[show B=_ from h];exact r.mono b
 | .pnil,B,v,h,a,r=>by rw[show B=_ from h];exact r.mono b
 | .nils,B,v,h,a,r=>by rw[show B=_ from h];exact r.mono b
 | .clo _ _,B,v,h,a,r=>by rw[show B=_ from h];exact r.mono b
 | .nilf,B,v,h,a,r=>by rw[show B=_ from h];exact r.mono b
 | .ifc _ _,B,v,h,a,r=>by rw[show B=_ from h];exact r.mono b
 | .nili,B,v,h,a,r=>by rw[show B=_ from h];exact r.mono b
 | .und,B,v,h,a,r=>by rw[show B=_ from h];trivial
theorem vY.vr{τ:FS}{l:List Nat}(c:Z.le τ)(d:FzR C S ν τ l):∀{As a:List (AV C.D)}{us:List Value},vY S As a->(∀j∈AV.nxss As,j∈l)->VRs C Z ν us As->VRs C τ ν us a
 |[],a,[],h,_,_=>by rw[show a=[] from h];trivial
 |A::As,a,u::us,⟨B,Bs',e,h1,h2⟩,hm,⟨r1,r2⟩=>by
  subst e;exact⟨zhp.vr c d h1 (λj b=>hm j (by simp only[AV.nxss,Ux];exact .inl b)) r1,vY.vr c d h2 (λj b=>hm j (by simp only[AV.nxss,Ux];exact .inr b)) r2⟩
 |[],_,_::_,_,_,r=>r.elim
 |_::_,_,[],_,_,r=>r.elim
end
def za1{D:Nat->Type}:List (AV D)->List (AV D)->Nat->Uv (AV D)
 |A::_,B::_,0=>bif A.nxs.isEmpty then M else G B
 |_::As,_::Bs,t+1=>za1 As Bs t
 |_,_,_=>M
def zf9(S:St C)(As a:List (AV C.D)):St C:=
 let T:=(virt S As).frz (AV.nxss As)
 {env:=λt=>bif O t vB then T.env t else match za1 As a (t - vB) with
     |some B=>B
     |none=>T.env t,heap:=T.heap}
def okX{D:Nat->Type}:List (AV D)->List (AV D)->Bool
 |A::As,B::Bs=>(A.nxs.isEmpty || B.bas) && okX As Bs
 |_,_=>E
omit [Dfr] in
theorem VR.bas{Z:FS}{ν ν':Val}{A:AV C.D}{v:Value}(h:A.bas=E)(r:VR C Z ν v A):VR C Z ν' v A/\A.ok (λ_=>False):=by
 by_cases e:∃cs,A = .agg cs
 ·obtain⟨cs,rfl⟩:=e;let⟨vs,e,r⟩:=r;have hb:∀B∈cs,B.base=true:=λB a=>Dp.1 h B a
  refine⟨⟨vs,e,.of r.len λj u B h1 h2=>((r.rel h1 h2).rv (hb B (UM h2))).vr⟩,?_⟩;exact AV.oks_iff.2 λB a=>Vo (hb B a)
 ·have hb:A.base=true:=by
   cases A<;>first | exact h | grind
  exact⟨(r.rv hb).vr,Vo hb⟩
theorem zhq{ν':Val}{τ:FS}{l:List Nat}(d:Z.le τ)(c:FzR C S ν τ l):∀{As a:List (AV C.D)}{us:List Value}{t:Nat}{B:AV C.D},vY S As a->okX As a=E->(∀j∈AV.nxss As,j∈l)->VRs C Z ν us As->za1 As a t=G B->VR C τ ν' ((us[t]?).getD undef) B/\B.ok (λ_=>False)
 |A::As,B0::a,u::us,0,B,⟨B1,Bs1,e,h1,h2⟩,hk,hm,⟨r1,r2⟩,hs=>by
  cases e;simp only[okX,gf] at hk;unfold za1 at hs;cases f:A.nxs.isEmpty with
  |true=>grind
  |false=>
   rw[f] at hs hk;cases hs;have:=zhp.vr d c h1 (λj b=>hm j (by simp only[AV.nxss,Ux];exact .inl b)) r1;exact VR.bas jE this
 |A::As,B0::a,u::us,t+1,B,⟨B1,Bs1,e,h1,h2⟩,hk,hm,⟨r1,r2⟩,hs=>by
  cases e;simp only[okX,gf] at hk;have:=zhq (ν':=ν') d c (t:=t) h2 hk.2 (λj b=>hm j (by simp only[AV.nxss,Ux];exact .inr b)) r2 hs;grind
 |[],a,us,t,B,h,_,_,_,hs=>by
  rw[show a=[] from h] at hs;cases t<;>cases hs
 |A::As,[],us,t,B,⟨_,_,e,_⟩,_,_,_,hs=>by cases e
 |A::As,B0::a,[],t,B,_,_,_,r,hs=>r.elim
theorem zsB (h:AbsL κ S ν vs ids L b Z PV) {us:List Value}{As e:List (AV C.D)}(i:VRs C Z ν us As) (d:AV.oks (λid=>(S.heap id).isSome=E) As) (o:okX As e=E) (m:vY S As e) {w:World}{w0:Start}{σ0:FS}(hi:Inv w0 σ0 Z PV w) :
    ∃a c,Inv w0 σ0 a c w/\zD κ (zf9 S As e) [] (yn L b us) a c:=by
 let⟨a,c,f,l,h1,n,p⟩:=zky (AV.nxss As) (h.virt i d) hi;have g:FzR C S ν a (AV.nxss As):=p;refine⟨a,c,l,ν,vs,f,⟨h1.nd,h1.dom,h1.pv,h1.cell,λt=>?_,h1.one⟩,λt=>?_,h1.livec,h1.keep⟩
 · show VR C a ν (look [] (yn L b us) t) (bif O t vB then _ else match za1 As e (t - vB) with | some B=>B | none=>_);cases hb:O t vB with
   |true=>exact h1.env t
   |false=>
    simp only[U0];cases hs:za1 As e (t - vB) with
    |none=>exact h1.env t
    |some B=>
     have:=(zhq (ν':=ν) n g m o (λj k=>k) i hs).1;show VR C a ν (yn L b us t) B;unfold yn;grind
 · show(bif O t vB then _ else match za1 As e (t - vB) with | some B=>B | none=>_:AV C.D).ok _;cases hb:O t vB with
   |true=>exact h1.live t
   |false=>
    simp only[U0];cases hs:za1 As e (t - vB) with
    |none=>exact h1.live t
    |some B=>exact AV.ok_mono (λ_ h=>h.elim) (zhq (ν':=ν) n g m o (λj k=>k) i hs).2
def XA(S:St C)(id:Nat):List Nat:=match S.heap id with
 |some (.cell cs)=>AV.rowss cs
 |_=>[]
def wB{α:Type}:List (Nat×Sh)->St C->(St C->Uv α)->Uv α
 |[],T,K=>K T
 |(t,s)::ts,T,K=>match s,T.env (vB+t) with
  | .pz a _,.pc id off=>(match(T.frz (XA T id)).heap id with
   |some (.cell cs)=>(C.imp a cs).bind λq=>wB ts {env:=upd ((T.frz (XA T id)).sub id .und).env (vB+t) (.pz a q off),heap:=((T.frz (XA T id)).sub id .und).heap} K
   |_=>M)
  |_,_=>wB ts T K
theorem zbW{α β:Type}{k:α->Uv β}:∀{ts:List (Nat×Sh)}{T:St C}{K:St C->Uv α},(wB ts T K).bind k=wB ts T λT'=>(K T').bind k
 |[],T,K=>rfl
 |(t,s)::ts,T,K=>by
  unfold wB;split
  ·split
   ·rw[gh];congr 1;funext q;exact zbW
   ·rfl
  ·exact zbW
theorem zD.envv{T:St C}{L:List (Nat×Value)}{b:Nat->Value}(h:AbsL κ T ν vs ids L b Z PV){t:Nat}{A:AV C.D}(c:VR C Z ν (look L b t) A)(a:A.ok λid=>(T.heap id).isSome=E):AbsL κ {env:=upd T.env t A,heap:=T.heap} ν vs ids L b Z PV:=by
 refine⟨⟨h.nd,h.dom,h.pv,h.cell,λi=>?_,h.one⟩,λi=>?_,h.livec,h.keep⟩
 ·show VR C Z ν _ (upd T.env t A i);by_cases e:i=t
  ·subst e;rw[zp];exact c
  ·rw[zq e];exact h.env i
 ·show(upd T.env t A i).ok _;by_cases e:i=t
  ·subst e;rw[zp];exact a
  ·rw[zq e];exact h.live i
theorem zwu {T:St C}{L:List (Nat×Value)}{b:Nat->Value}(h:AbsL κ T ν vs ids L b Z PV) {t id off i:Nat}{cs:List (AV C.D)}{q:C.D i}(z:look L b t = .pointer (G ((ν.adr id).a.add off))) (r:T.heap id=G (.cell cs)) (v:C.imp i cs=G q) {w:World}{w0:Start}{σ0:FS}(hi:Inv w0 σ0 Z PV w) :
    ∃f e,Inv w0 σ0 f e w/\zD κ {env:=upd (T.sub id .und).env t (.pz i q off),heap:=(T.sub id .und).heap} L b f e:=by
 let⟨m,y,hid⟩:=h.at r;let⟨h1,g,p,d,k⟩:=hi.freeze y;have g:Z3 (ν.adr id).a (vs id) h1:=g;have h2:=h.sub hid d (R :=.und) trivial trivial rfl;refine⟨_,_,k,ν,vs,_,zD.envv h2 (A :=.pz i q off) ?_ trivial⟩;rw[z];have n:=(h.cell id cs r).mono d;have c:=WM (ν:=ν) n v;have s:=c.1;refine Rv.pz (λj=>((vs id)[j]?).getD default) (λj A l=>?_) (λj A l=>?_)
 ·let⟨u,o,x⟩:=c.2 j A l;rw[o];rw[Addr.add_eq _ g.1];simpa[FS.cell] using Xw (Z:=Z) _ _ _ (g.2 j u o)
 ·let⟨u,o,x⟩:=c.2 j A l;grind
theorem vZ {α:Type}{r:α}:∀{ts:List (Nat×Sh)}{T:St C}{K:St C->Uv α},wB ts T K=G r->
    ∃T',K T'=G r/\∀{κ:Kp} {L:List (Nat×Value)} {b:Nat->Value} {us:List Value} {w:World} {w0:Start} {σ0 Z:FS} {PV:List Priv},zD κ T [] (yn L b us) Z PV->Inv w0 σ0 Z PV w->∃c a,Inv w0 σ0 c a w/\zD κ T' [] (yn L b us) c a
 |[],T,K,h=>⟨T,h,λhA hi=>⟨_,_,hi,hA⟩⟩
 |(t,s)::ts,T,K,h=>by
   unfold wB at h;split at h
   · rename_i u o id off e;split at h
     ·rename_i cs d;let⟨q,j,h⟩:=gd h;let⟨T',h1,h2⟩:=vZ h;refine⟨T',h1,λhA hi=>?_⟩;let⟨ν,vs,ids,hA⟩:=hA;have i:=hA.env (vB+t);rw[e] at i;let⟨c,a,g,f,l,_,_⟩:=zky (XA T id) hA hi;let⟨n,m,k,p⟩:=zwu l i d j f;grind
     ·cases h
   ·exact vZ h
def xz(Γ:List (Spec C))(S:St C)(d f:Nat)(As:List (AV C.D)):Uv (Out C):=match Γ with
 |[]=>M
 |s :: Γ=>bif W s.f f && (s.view || s.viewO) then We S As λa=>chk (okX As a) (wB s.ins.ts (zf9 S As a) λT=>match YL s.ins T As.length with
    |some (_,_,x)=>bif s.view then yT s d S x else yG s d S x
    |none=>M) else xz Γ S d f As
def YM(Γ0 Γ:List (Spec C))(S:St C)(d f:Nat)(As:List (AV C.D)):Uv (Out C):=match Γ with
 |[]=>xz Γ0 S d f As
 |s::Γ=>bif W s.f f then(match YV s.ins S As with
  |some (S2,bl,x)=>bif s.view then yT s d S x else bif s.viewO then yG s d S x else xy s d S2 bl x
  |none=>YM Γ0 Γ S d f As) else YM Γ0 Γ S d f As
def vA(Γ:List (Spec C))(S:St C)(d f:Nat)(As:List (AV C.D)):Uv (Out C):=YM Γ Γ S d f As
theorem zga (j:C.gl w0.w σ0) {d:Nat}{f:FuncId}{As:List (AV C.D)}{us:List Value}{out:Out C}(h:AbsL κ S ν vs ids L b Z PV) (q:VRs C Z ν us As) (c:AV.oks (λid=>(S.heap id).isSome=E) As) {w:World}(hi:Inv w0 σ0 Z PV w):∀{Γ:List (Spec C)},(∀s∈Γ,s.OK P)->xz Γ S d f As=G out->
    ∃ fn, P.funcs[f]? = G fn /\ (fn.name == "runtime.NumGoroutine") = H /\ fn.body.isNone = H /\ Calls P f us.toArray w fun e w' => match e with
     | .returned v=>∃S' Z' a,out = .go S'/\Inv w0 σ0 Z' a w'/\zD κ S' ((d,v)::L) b Z' a
     | .panicked l=>∃A S' u Z' a,out = .pan A S'/\l=[{v:=u,recovered:=false}]/\Inv w0 σ0 Z' a w'/\Xx C Z' u A/\zD κ S' L b Z' a
     | .outgrown=>False
 |[],_,g=>by cases g
 |s::Γ,i,g=>by
  unfold xz at g;cases p:(W s.f f && (s.view || s.viewO)) with
  |false=>
   rw[p,U0] at g;exact zga j h q c hi (λs hs=>i s (Du _ hs)) g
  |true=>
   rw[p,Dq] at g;simp only[gf,UH] at p;have:=ge p.1;subst this;let⟨R,g,K⟩:=zbU g;let⟨Q,g⟩:=zb g;let⟨T,n,F⟩:=vZ g;have o:∀w0 σ0,Inv w0 σ0 Z PV w->∃m k,Inv w0 σ0 m k w/\zD κ T [] (yn L b us) m k:=λw0 σ0 hi=>by
    let⟨m,k,I,N⟩:=zsB h q c Q K hi;grind
   let⟨fn,h1,h2,B,_⟩:=i s je;split at n
   · rename_i S2 bl x t;have y:us.length=As.length:=q.len;cases z:s.view with
     |true=>rw[z] at n;exact⟨fn,h1,h2,B,ze4 (i s je) j t y h n hi o⟩
     |false=>
      rw[z] at n;have r:s.viewO=true:=jE
      exact⟨fn,h1,h2,B,ze5 (i s je) r j t y h n hi o⟩
   ·cases n
theorem zbX (c:C.gl w0.w σ0) {d:Nat}{f:FuncId}{As:List (AV C.D)}{us:List Value}{out:Out C}(h:AbsL κ S ν vs ids L b Z PV) (i:VRs C Z ν us As) (a:AV.oks (λid=>(S.heap id).isSome=E) As) {w:World}(hi:Inv w0 σ0 Z PV w):∀{Γ0 Γ:List (Spec C)},(∀s∈Γ0,s.OK P)->(∀s∈Γ,s.OK P)->YM Γ0 Γ S d f As=G out->
    ∃ fn, P.funcs[f]? = G fn /\ (fn.name == "runtime.NumGoroutine") = H /\ fn.body.isNone = H /\ Calls P f us.toArray w fun e w' => match e with
     | .returned v=>∃S' Z' g,out = .go S'/\Inv w0 σ0 Z' g w'/\zD κ S' ((d,v)::L) b Z' g
     | .panicked k=>∃A S' u Z' g,out = .pan A S'/\k=[{v:=u,recovered:=false}]/\Inv w0 σ0 Z' g w'/\Xx C Z' u A/\zD κ S' L b Z' g
     | .outgrown=>False
 |Γ0,[],hΓ0,_,ho=>zga c h i a hi hΓ0 ho
 |Γ0,s::Γ,hΓ0,hΓ,ho=>by
  unfold YM at ho;cases l:W s.f f with
  |false=>
   rw[l,U0] at ho;exact zbX c h i a hi hΓ0 (λs hs=>hΓ s (Du _ hs)) ho
  |true=>
   rw[l,Dq] at ho;have:=ge l;subst this;split at ho
   · rename_i S2 bl x m;have hs:=hΓ s je;let⟨fn,h1,h2,n,_⟩:=hs;cases o:s.view with
     |true=>rw[o] at ho;exact⟨fn,h1,h2,n,ze4 (hΓ s je) c (T:=virt S As) (N:=As.length) m i.len h ho hi (λw0 σ0 hi=>⟨Z,PV,hi,ν,vs,ids,h.virt i a⟩)⟩
     |false=>
      rw[o,U0] at ho;cases j:s.viewO with
      |true=>rw[j] at ho;exact⟨fn,h1,h2,n,ze5 (hΓ s je) j c (T:=virt S As) (N:=As.length) m i.len h ho hi (λw0 σ0 hi=>⟨Z,PV,hi,ν,vs,ids,h.virt i a⟩)⟩
      |false=>rw[j] at ho;exact⟨fn,h1,h2,n,zn9 (hΓ s je) c m h i a ho hi⟩
   ·exact zbX c h i a hi hΓ0 (λs hs=>hΓ s (Du _ hs)) ho
theorem zip (j:C.gl w0.w σ0) {d:Nat}{f:FuncId}{As:List (AV C.D)}{us:List Value}{out:Out C}(h:AbsL κ S ν vs ids L b Z PV) (k:VRs C Z ν us As) (c:AV.oks (λid=>(S.heap id).isSome=E) As) {w:World}(hi:Inv w0 σ0 Z PV w) {Γ:List (Spec C)}(i:∀s∈Γ,s.OK P) (l:vA Γ S d f As=G out) :
    ∃ fn, P.funcs[f]? = G fn /\ (fn.name == "runtime.NumGoroutine") = H /\ fn.body.isNone = H /\ Calls P f us.toArray w fun e w' => match e with
     | .returned v=>∃S' Z' a,out = .go S'/\Inv w0 σ0 Z' a w'/\zD κ S' ((d,v)::L) b Z' a
     | .panicked g=>∃A S' u Z' a,out = .pan A S'/\g=[{v:=u,recovered:=false}]/\Inv w0 σ0 Z' a w'/\Xx C Z' u A/\zD κ S' L b Z' a
     | .outgrown=>False:=zbX j h k c hi i i l
end
end
end Go.Px
