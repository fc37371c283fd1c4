/- Part Li. -/
import Derived.Test.YtdmfcbmibjojpaaGreatDoorB2
set_option linter.unusedVariables false
set_option linter.unusedSimpArgs false
namespace Go.Px
open Bool renaming true->E,false->K
open Eq renaming refl->U
open Int renaming toNat_natCast->V
open List renaming replicate->P,getElem_of_mem->Z
open Nat renaming mul_le_mul->W
open _root_.Option renaming some->D
open Sl renaming mk->O
variable{k m n:Nat}{l:Sl Int}{α:Type}
theorem zpD{l:List Nd}{t:List PT}(h:zbf l = .ok t):t.length<=l.length:=by
 have:=zfA (I:=λi (a:List PT)=>a.length<=i) l 0 [] (by simp) (λi hi a a' ha e=>by
  split at e
  ·cases hx:xb a l[i] with
   |error x=>rw[hx] at e;cases e
   |ok x=>rw[hx] at e;cases e;simp;omega
  grind) t h
 omega
theorem zsA{t:List PT}{l:List Nd}{s:List PSg}(h:zef t l = .ok s):s.length<=l.length:=by
 have:=zfA (I:=λi (a:List PSg)=>a.length<=i) l 0 [] (by simp) (λi hi a a' ha e=>by
  split at e
  ·cases hx:Xl t l[i] with
   |error x=>rw[hx] at e;cases e
   |ok x=>rw[hx] at e;cases e;simp;omega
  grind) s h
 omega
def zzI(L:q13):Prop:=∃t:List PT,L.z_=mkS t/\L.q_=mkS (t.map rT)/\t.length<=20000/\L.s_.xs.length<=50000/\L.U_.xs.length<=50000
theorem UnitG.kids{n:Nd}(h:UnitG n):n.K_.xs.length<=4096:=by have:=h.size;have:=@Zl n;omega
theorem UnitG.ty{n:Nd}(h:UnitG n):∀k∈n.K_.xs,k.k_=1->wx k/\k.K_.xs.length<=20000:=by
 intro k hk h1;have:=ZX hk;have:=@Zl k;have:=h.size;rcases h.kid k hk with h | h
 ·grind
 ·rw[h.1] at h1;grind
theorem UnitG.fn{n:Nd}(h:UnitG n):∀k∈n.K_.xs,k.k_=6->FnG k/\k.K_.xs.length<=20000:=by
 intro k hk h1;have:=ZX hk;have:=@Zl k;have:=h.size;rcases h.kid k hk with h | h
 ·rw[h.1] at h1;grind
 grind
theorem zzJ{n:Nd}(h:UnitG n):∃(a b c d a' b' c' d':Int) (t:List PT) (s:Sl PSg) (rs:Sl RSg),q6q n=D (a,b,mkS t)/\q7a (n,mkS t)=D (c,d,s)/\q35 (rN n)=D (a',b',mkS (t.map rT))/\q2s (rN n,mkS (t.map rT))=D (c',d',rs)/\t.length<=20000/\s.xs.length<=50000/\rs.xs.length<=50000:=by
 have hk:=h.kids;have h1:=zuA h.ty (by omega);have h2:=zst h.ty (by omega);have sg:∀t:List PT,t.length<=20000->∃(c d c' d':Int) (s:Sl PSg) (rs:Sl RSg),q7a (n,mkS t)=D (c,d,s)/\q2s (rN n,mkS (t.map rT))=D (c',d',rs)/\s.xs.length<=50000/\rs.xs.length<=50000:=by
  intro t ht;have h3:=zxS (t:=mkS t) h.fn ht (by omega);have h4:=zuE (t:=t) h.fn ht (by omega);rw[show(mkS t).xs=t from rfl] at h3;cases e:zef t n.K_.xs with
  |error x=>grind
  |ok s=>
   have:=zsA e;rw[e] at h3 h4;exact⟨_,_,_,_,_,_,h3,h4,by show s.length<=_;omega,by show(s.map rG).length<=_;grind⟩
 cases e:zbf n.K_.xs with
 |error x=>
  rw[e] at h1 h2;obtain⟨c,d,c',d',s,rs,q1,q2,q3,q4⟩:=sg [] (by simp);exact⟨_,_,c,d,_,_,c',d',[],s,rs,h1,q1,h2,q2,by simp,q3,q4⟩
 |ok t=>
  have ht:=zpD e;grind
theorem zpE(libs:U0):∃L b,q3a libs=D (L,b)/\(b=E->zzI L):=by
 unfold q3a q7h;rw[zfy,jj];simp only[jl,zm];by_cases hp:(Xa libs).2.2=0
 rotate_left
 ·rw[jv hp];grind
 have hg:=zmf hp;rw[jx (by simp[hp])];generalize hn:(Xa libs).1=n at hg;obtain⟨a,b,c,d,a',b',c',d',t,s,rs,h1,h2,h3,h4,ht,hs,hrs⟩:=zzJ hg;have hk:=hg.kids;simp only[h1,jj,h2,zdL,hn,zj,h3,h4];have ek:(rN n).K_.xs=n.K_.xs.map rN:=by rw[zH]
 have ekl:(rN n).K_.xs.length=n.K_.xs.length:=by rw[ek];simp
 obtain⟨⟨fs,rfs⟩,e,_⟩:=go (f:=q4k q5y q6q q7a q2m q35 q2s) (n:=n.K_.xs.length) (A:=Sl Nd×Sl RNd)
  (st:=λi x=>(b,d,n.K_,n.K_.len,(i:Int),s,rN n,rs,(mkS t,mkS (t.map rT)),x.1,x.2)) (fin:=λx=>(b,d,s,rs,(mkS t,mkS (t.map rT)),x.1,x.2)) (J:=λi x=>x.1.xs.length<=i/\x.2.xs.length<=i)
  (λi hi x hx=>by
   obtain⟨fs,rfs⟩:=x;obtain⟨x1,x2⟩:=hx;simp only at x1 x2;unfold q4k;simp only[jl,zm,zj];rw[jv (by simp only[zi];omega),ze hi,jj,Zw (by omega) (by omega)];have wk:=zx (show i < 1000000000 by omega);split
   ·simp only[jj];rw[ze (by omega),jj,Zw (by omega) (by omega)];simp only[jj,wk];exact⟨(_,_),rfl,by simp;omega,by simp;omega⟩
   ·simp only[jj,wk]
    exact⟨(fs,rfs),rfl,by grind,by grind⟩)
  (λx hx=>by
   unfold q4k;simp only[jl]
   rw[jx (by simp only[zi];omega)])
  (a:=(O [] K,O [] K)) ⟨by simp,by simp⟩
 have e:lpO (q4k q5y q6q q7a q2m q35 q2s) (b,d,n.K_,n.K_.len,0,s,rN n,rs,(mkS t,mkS (t.map rT)),O [] K,O [] K)=_:=e;rw[e];simp only[jj];have G:∀f rf,zzI ⟨f,mkS t,s,rf,mkS (t.map rT),rs⟩:=λf rf=>⟨t,rfl,rfl,ht,hs,hrs⟩
 by_cases c1:b=0<;>by_cases c2:d=0<;>by_cases c3:Sl.len s=Sl.len fs<;>
 ·simp only[c1,c2,c3,jq,jp,jj];exact⟨_,_,rfl,λ_=>G _ _⟩
def Kv(f:PNf)(o:U3 U0):Prop:=o.elim False λn=>n=lit []\/0<=idP n f.V_.xs
def zzK(ks:List Nd)(C:q1o):Prop:=ks.length<=40000/\xF 5000 ks C.f_.xs/\C.I_.xs.length=ks.length/\C.g_.xs.length=ks.length/\C.r_.xs.length=ks.length/\∀(i:Nat) (c:q1j) (f:PNf),C.I_.xs[i]?=D c->C.f_.xs[i]?=D f->c.L_.xs.length<=40000/\zje (Kv f) c.L_.xs
theorem zsB(x:U0×U0):∃L C b,q3n x=D (L,C,b)/\(b=E->∃ks,zzK ks C):=by
 obtain⟨libs,text⟩:=x;obtain⟨L,ok,hl,hL⟩:=zpE libs;unfold q3n q7v;simp only[hl,jj,zfy,zm,zdL,zj,jl];cases ok with
 |false=>simp only[D5,jq,jj];grind
 |true=>
 obtain⟨t,ty,rty,ht,hs,hrs⟩:=hL rfl;simp only[Dn,jk,jp,jj,jl];by_cases hp:(Xa text).2.2=0
 rotate_left
 ·rw[jv hp];grind
 have hg:=zmf hp;rw[jx (by simp[hp])];generalize (Xa text).1=n at hg;obtain⟨a,e,fns,h1,hf⟩:=zuG hg L.s_ (mkS t) hs (by show t.length<=_;omega);obtain⟨S,h2,hrf⟩:=zsz hg L.U_ t hrs (by omega);rw[ty,rty,h1,jj,h2,jj];have hk:=hg.kids;have hsz:=hg.size;have ek:(rN n).K_.xs=n.K_.xs.map rN:=by rw[zH]
 have ekl:(rN n).K_.xs.length=n.K_.xs.length:=by rw[ek];simp
 obtain⟨⟨cs,rcs⟩,q,j1,j2,j4⟩:=go (f:=q4v q3a q5y q2m q7n q3x q52 q2b) (n:=n.K_.xs.length) (A:=Sl q1j×Sl q1k)
  (st:=λi x=>(e,n.K_,n.K_.len,(i:Int),L,rN n,fns,S.1,S.2,x.1,x.2)) (fin:=λx=>(e,L,fns,S.1,S.2,x.1,x.2)) (J:=λi x=>x.1.xs.length<=i/\x.2.xs.length=x.1.xs.length/\((∀k∈n.K_.xs,FnG k)->x.1.xs.length=i/\∀(j:Nat) (hj:j < n.K_.xs.length) c,x.1.xs[j]?=D c->q52 n.K_.xs[j]=D c))
  (λi hi x hx=>by
   obtain⟨cs,rcs⟩:=x;obtain⟨x1,x2,x4⟩:=hx;simp only at x1 x2 x4;unfold q4v;simp only[jl,zm,zj];rw[jv (by simp only[zi];omega),ze hi,jj];have wk:=zx (show i < 1000000000 by omega);have hx:za (rN n).K_ (i:Int)=D (rN n.K_.xs[i]):=by rw[ze (by omega)];grind
   have hki:=ZX (gc hi);by_cases h6:n.K_.xs[i].k_=6
   ·have hf:=(hg.fn _ (gc hi) h6).1;obtain⟨c,l1,l4,l5⟩:=zpy (Q:=λ_=>True) hf (by omega) trivial λ_ _ _=>zmi (λ_=>⟨λ_=>trivial,λ_=>trivial⟩) _
    obtain⟨rc,l2⟩:=znR hf (by omega);simp only[h6,jq,l1,jj,hx,l2];rw[Zw (by omega) (by omega),jj,Zw (by omega) (by omega)];simp only[jj,wk]
    exact⟨(_,_),rfl,by simp;omega,by simp;omega,λh=>⟨by grind,λj hj c' hc=>by
     have hxl:=(x4 h).1;by_cases c0:j < i
     ·grind
     by_cases c1:j=i
     ·grind
     grind⟩⟩
   ·simp only[h6,jp,jj,wk]
    exact⟨(cs,rcs),rfl,by grind,by grind,λh=>absurd (h _ (gc hi)).1 h6⟩)
  (λx hx=>by
   unfold q4v;simp only[jl]
   rw[jx (by simp only[zi];omega)])
  (a:=(O [] K,O [] K)) ⟨by simp,by simp,λ_=>⟨rfl,λj _ c hc=>by cases hc⟩⟩
 have q:lpO (q4v q3a q5y q2m q7n q3x q52 q2b) (e,n.K_,n.K_.len,0,L,rN n,fns,S.1,S.2,O [] K,O [] K)=_:=q;rw[q];simp only[jj];have G:e=0->Sl.len fns=Sl.len cs->Sl.len S.2=Sl.len fns->zzK n.K_.xs ⟨fns,cs,S.2,rcs⟩:=by
  intro he h1 h2;rcases hf with⟨h,_⟩ | ⟨_,hF,hD⟩
  ·grind
  have kg:∀k∈n.K_.xs,FnG k:=λk hk=>by
   obtain⟨i,hi,rfl⟩:=Z hk;exact(hF.2 i hi).g
  obtain⟨j5,j6⟩:=j4 kg;have hF1:=hF.1;simp only[zi] at h1 h2 j2;refine⟨by omega,hF,j5,by grind,by grind,λi c f hc hf=>?_⟩;obtain⟨hi',_⟩:=UC.1 hf;have hi:i < n.K_.xs.length:=by grind
  have hz:=ZX (gc hi)
  obtain⟨c',e1,e2,e3⟩:=zpy (Q:=Kv f) (kg _ (gc hi)) (by omega) (.inl rfl) λb hb h9=>(hD i hi b hb h9).mono λm hm=>⟨λc=>by
   rcases hm.q c with h | ⟨f',⟨j,hj,hf'⟩,h⟩
   ·exact .inl h
   ·obtain rfl:i=j:=by grind
    rw[show fns.xs[i]?=D f from hf] at hf';cases hf';exact .inr h,hm.y⟩
  grind
 by_cases c1:e=0<;>by_cases c2:S.1.2.2.2=0<;>by_cases c3:Sl.len fns=Sl.len cs<;>
 ·simp only[c1,c2,c3,jq,jp,jj];exact⟨_,_,_,rfl,λh=>by first | exact⟨_,G c1 c3 (by grind)⟩ | cases h⟩
structure FuncG(x:qm):Prop where
 c:zje (Kv x.F_) x.c_.L_.xs
 l:x.c_.L_.xs.length<=40000
 v:x.F_.V_.xs.length<=60000
theorem zuI(x:U0×U0):∃b fs rs,q2c x=D (b,fs,rs)/\(b=E->fs.xs.length<=40000/\∀x∈fs.xs,FuncG x):=by
 obtain⟨L,C,b,h,hb⟩:=zsB x;unfold q2c q8e;rw[h,jj];cases b with
 |false=>exact⟨_,_,_,rfl,λh=>by cases h⟩
 |true=>
 obtain⟨ks,hk,hF,hl,hrl,hrf,hG⟩:=hb rfl;simp only[Dn,jk,jp];have f1:=hF.1
 obtain⟨⟨fs,rs⟩,q,j1,_,j2⟩:=go (f:=q5b q3n) (n:=ks.length) (A:=Sl qm×Sl q17)
  (st:=λi x=>(C.f_.len,(i:Int),L,C,x.1,x.2)) (fin:=λx=>(x.1,x.2)) (J:=λi x=>x.1.xs.length=i/\x.2.xs.length=i/\∀y∈x.1.xs,FuncG y)
  (λi hi x hx=>by
   obtain⟨fs,rs⟩:=x;obtain⟨x1,x2,x3⟩:=hx;simp only at x1 x2 x3;unfold q5b;simp only[jl];rw[jv (by simp only[zi];omega),ze (by omega),jj,ze (by omega),jj,Zw (by omega) (by omega),jj,ze (by omega),jj,ze (by omega),jj,Zw (by omega) (by omega),jj,zx (by omega)];refine⟨(_,_),rfl,by simp[x1],by simp[x2],λy hy=>?_⟩;rcases U5.1 hy with hy | hy
   ·exact x3 y hy
   rw[Dy] at hy;subst hy;obtain⟨g1,g2⟩:=hG i _ _ (UI (by omega)) (UI (by omega));refine⟨g2,g1,?_⟩;have hv:=(hF.2 i hi).v;have h8:=(hF.2 i hi).l
   grind)
  (λx hx=>by
   unfold q5b;simp only[jl]
   rw[jx (by simp only[zi];omega)])
  (a:=(O [] K,O [] K)) ⟨by simp,by simp,by simp⟩
 have q:lpO (q5b q3n) (C.f_.len,0,L,C,O [] K,O [] K)=_:=q;rw[q];exact⟨_,_,_,rfl,λ_=>⟨by omega,j2⟩⟩
abbrev MpQ:=U0×Sl (Int×Bool)
def wc(l' l:Sl Int):Prop:=l'.xs.length=l.xs.length/\∀x∈l'.xs,x∈l.xs
theorem wc.trans{a b c:Sl Int}(h:wc a b)(g:wc b c):wc a c:=⟨h.1.trans g.1,λx hx=>g.2 x (h.2 x hx)⟩
theorem wc.set{l0:Sl Int}{i:Int}{v:Int}(h:wc l l0)(hv:v∈l0.xs):wc (l.set i v) l0:=by
 refine⟨by simp[Sl.set,h.1],λx hx=>?_⟩;rcases D2 hx with hx | rfl
 ·exact h.2 x hx
 ·exact hv
theorem wc.rfl:wc l l:=⟨U _,λ_ h=>h⟩
theorem zmq{s:Int}{m:MpQ}{i:Nat}(hi:i < l.xs.length)(hk:k < l.xs.length):∃l',q1u ((i:Int),(k:Int),s,l,m)=D (s,l',m)/\wc l' l:=by
 unfold q1u qbh;simp only[ze hi,ze hk,jj];rw[ze (by simpa[Sl.set] using hk)];exact⟨_,U _,(wc.rfl.set (gc hk)).set (gc hi)⟩
theorem zmr{s:Int}{m:MpQ}{i:Nat}(hi:i < l.xs.length)(hk:k < l.xs.length):∃b,q28 ((i:Int),(k:Int),s,l,m)=D (b,s,l,m):=by
 unfold q28 qbi;simp only[ze hi,ze hk,jj];grind
theorem zBz{s:Int}{m:MpQ}:∀(j:Nat) (l:Sl Int),j < l.xs.length->l.xs.length<=1000000000000->∃l',lpO (q66 q28 q1u) ((j:Int),s,l,m)=D (s,l',m)/\wc l' l:=by
 intro j
 induction j using Nat.strongRecOn with
 |ind j ih=>
  intro l hj hl;have hw:U4 ((U4 ((j:Int) - 1)).tdiv 2)=(((j - 1) / 2:Nat):Int):=by
   rw[zD (n:=(j:Int) - 1) (by omega) (by omega)];cases j with
   |zero=>rfl
   |succ j=>
    rw[show((j+1:Nat):Int) - 1=(j:Int) by omega,Int.tdiv_eq_ediv_of_nonneg (by omega),zD (by omega) (by omega)];omega
  have hs:∀X,q66 q28 q1u ((j:Int),s,l,m)=X->X=D (.done (s,l,m))\/∃l1,j≠0/\X=D (.next ((((j - 1) / 2:Nat):Int),s,l1,m))/\wc l1 l:=by
   intro X hX;subst hX;unfold q66;simp only[hw,jl];by_cases c:(((j - 1) / 2:Nat):Int)=(j:Int)
   ·grind
   ·obtain⟨b,e⟩:=zmr (s:=s) (m:=m) hj (show(j - 1) / 2 < l.xs.length by omega);obtain⟨l1,e1,q⟩:=zmq (s:=s) (m:=m) (show(j - 1) / 2 < l.xs.length by omega) hj;rw[jx c,e];cases b
    ·grind
    ·simp only[jj,Dn,jk,jp,e1];grind
  rcases hs _ (U _) with h | ⟨l1,h0,h,q⟩
  ·exact⟨l,zw h,.rfl⟩
  ·obtain⟨l',e,q'⟩:=ih ((j - 1) / 2) (by omega) l1 (by rw[q.1];omega) (by rw[q.1];exact hl);exact⟨l',by rw[zB h,e],q'.trans q⟩
theorem zzL{s i0:Int}{m:MpQ}:∀(d i:Nat) (l:Sl Int),n<=i+d->n<=l.xs.length->l.xs.length<=1000000000000->i<=1000000000000->∃a l',lpO (q4a q28 q1u) (i0,(n:Int),(i:Int),s,l,m)=D (i0,a,s,l',m)/\wc l' l:=by
 intro d
 induction d with
 |zero=>
  intro i l hn hnl hl hi;refine⟨i,l,zw ?_,.rfl⟩;unfold q4a;simp only[jl];rw[zD (n:=2 * (i:Int)) (by omega) (by omega),zD (by omega) (by omega),jv (by omega)];rfl
 |succ d ih=>
  intro i l hn hnl hl hi;have hs:∀X,q4a q28 q1u (i0,(n:Int),(i:Int),s,l,m)=X->(X=D (.done (i0,(i:Int),s,l,m)))\/∃(j:Nat) (l1:Sl Int),i < j/\j < n/\X=D (.next (i0,(n:Int),(j:Int),s,l1,m))/\wc l1 l:=by
   intro X hX;subst hX;unfold q4a;simp only[jl];rw[zD (n:=2 * (i:Int)) (by omega) (by omega),zD (n:=2 * (i:Int)+1) (by omega) (by omega)];by_cases c:(n:Int)<=2 * (i:Int)+1
   ·grind
   rw[jx c];have d2:decide (2 * (i:Int)+1 < 0)=false:=decide_eq_false (by omega);have w3:U4 (2 * (i:Int)+1+1)=((2 * i+2:Nat):Int):=by rw[zD (by omega) (by omega)];omega
   have j1:(2 * (i:Int)+1)=((2 * i+1:Nat):Int):=by omega
   simp only[d2,jj,jk,jp,w3]
   have last:∀j:Nat,i < j->j < n->∀Y,((q28 ((j:Int),(i:Int),s,l,m)).bind λy5:Bool×Int×Sl Int×U0×Sl (Int×Bool)=>if(!y5.1)=E then D (Sum.inl (i0,(i:Int),y5.2)) else(q1u ((i:Int),(j:Int),y5.2)).bind λy6:Int×Sl Int×U0×Sl (Int×Bool)=>D (Sum.inr (i0,(n:Int),(j:Int),y6)))=Y->
       ((Y.bind λy7=>Sum.elim (λy8=>D (Step.done y8)) (λy9=>D (Step.next y9)) y7)=D (.done (i0,(i:Int),s,l,m)))\/∃(j:Nat) (l1:Sl Int),i < j/\j < n/\(Y.bind λy7=>Sum.elim (λy8=>D (Step.done y8)) (λy9=>D (Step.next y9)) y7)=D (.next (i0,(n:Int),(j:Int),s,l1,m))/\wc l1 l:=by
    intro j h1 h2 Y hY;subst hY;obtain⟨b,e⟩:=zmr (s:=s) (m:=m) (show j < l.xs.length by omega) (show i < l.xs.length by omega);obtain⟨l1,e1,q⟩:=zmq (s:=s) (m:=m) (show i < l.xs.length by omega) (show j < l.xs.length by omega);rw[e];cases b
    ·grind
    ·simp only[jj,Dn,jk,jp,e1];grind
   by_cases c2:((2 * i+2:Nat):Int) < (n:Int)
   · obtain⟨b,e⟩:=zmr (s:=s) (m:=m) (show 2 * i+2 < l.xs.length by omega) (show 2 * i+1 < l.xs.length by omega);rw[jv c2,j1,e];cases b
     ·simp only[jj,jk,jp];exact last (2 * i+1) (by omega) (by omega) _ (U _)
     ·simp only[jj,jq];exact last (2 * i+2) (by omega) (by omega) _ (U _)
   ·rw[jx c2,j1];simp only[jj,jk,jp];exact last (2 * i+1) (by omega) (by omega) _ (U _)
  rcases hs _ (U _) with h | ⟨j,l1,h0,h1,h,q⟩
  ·exact⟨i,l,zw h,.rfl⟩
  ·obtain⟨a,l',e,q'⟩:=ih j l1 (by omega) (by rw[q.1];exact hnl) (by rw[q.1];exact hl) (by omega);exact⟨a,l',by rw[zB h,e],q'.trans q⟩
theorem zA4{s:Int}{m:MpQ}(h0:0 < l.xs.length)(hl:l.xs.length<=1000000000000):∃x l',q2x (s,l,m)=D (x,s,m,l')/\x∈l.xs/\l'.xs.length+1=l.xs.length/\∀y∈l'.xs,y∈l.xs:=by
 obtain⟨n,hn⟩:∃n,l.xs.length=n+1:=⟨l.xs.length - 1,by omega⟩
 have hw:∀k:Nat,k=n+1->U4 ((k:Int) - 1)=(n:Int):=λk hk=>by rw[zD (by omega) (by omega)];omega
 obtain⟨l1,e1,q1⟩:=zmq (s:=s) (m:=m) (l:=l) (i:=0) (k:=n) (by omega) (by omega);obtain⟨a,l2,e2,q2⟩:=zzL (s:=s) (m:=m) (i0:=0) (n:=n) n 0 l1 (by omega) (by rw[q1.1];omega) (by rw[q1.1];omega) (by omega);have q:=q2.trans q1;have hl2:n < l2.xs.length:=by rw[q.1];omega
 have e1:q1u (0,(n:Int),s,l,m)=_:=e1;have e2:lpO (q4a q28 q1u) (0,(n:Int),0,s,l1,m)=_:=e2;have w1:=hw _ hn;have w2:=hw _ (q.1.trans hn);unfold q2x q9r q27 q5g q76 q8f qan qc6;simp only[jj,zi,w1,e1,e2,w2,ze hl2];rw[YR (by omega) (by omega) (by omega)];refine⟨_,_,U _,q.2 _ (gc hl2),?_,λy hy=>q.2 y ?_⟩
 ·grind
 grind
theorem zsC{s n:Int}{m:MpQ}(hl:l.xs.length < 1000000000000):∃m' l',q1z (n,s,l,m)=D (s,m',l')/\l'.xs.length<=l.xs.length+1/\∀y∈l'.xs,y=n\/y∈l.xs:=by
 have hg:zo 8 l [n]=D ⟨l.xs++[n],E⟩:=by rw[yF (by simp;omega) (by simp;omega)];simp
 obtain⟨l',e,q⟩:=zBz (s:=s) (m:=(m.1,⟨xn n E m.2.xs,E⟩)) l.xs.length ⟨l.xs++[n],E⟩ (by simp) (by simp;omega);have hw:U4 ((((l.xs++[n]).length:Nat):Int) - 1)=(l.xs.length:Int):=by rw[jy,g9,zD (by omega) (by omega)];omega
 unfold q1z qc7 q77 q8g qa3 qbj q27 q5g q81 qag;by_cases c:(!zbm n K m.2.xs)=E
 ·simp only[c,jq,hg,jj,zi,hw];rw[show lpO (q66 q28 q1u) ((l.xs.length:Int),s,⟨l.xs++[n],E⟩,m.1,⟨xn n E m.2.xs,E⟩)=_ from e];refine⟨_,l',U _,by rw[q.1];simp,λy hy=>?_⟩;have:=q.2 y hy;grind
 ·simp only[c,jj];exact⟨_,l,U _,by omega,λy hy =>.inr hy⟩
abbrev MF:=qm
theorem zh5{x:MF}{i:Nat}(hi:i < x.c_.L_.xs.length):q3o (x,(i:Int))=D (x.c_.L_.xs[i],E):=by
 unfold q3o qav;simp only[jl];rw[jx (by omega)];simp only[jj,zi];rw[jx (by simp;omega),ze hi];rfl
section
variable {x:MF}(H:FuncG x){i:Nat}(hi:i < x.c_.L_.xs.length)
include H hi
theorem zzM:∃l,q3z (x,(i:Int))=D l/\l.xs.length<=2/\∀k∈l.xs,∃j:Nat,k=(j:Int)/\j < x.c_.L_.xs.length:=by
 have hI:=zh5 hi;obtain⟨⟨l0,e,he,hop,hg⟩,hl,hv⟩:=H;have hN:x.c_.L_.xs.length=l0.length+1:=by rw[he];simp
 have g:=(hg _ (gc hi)).t;have h14:i=l0.length->x.c_.L_.xs[i].O_=14:=λh=>by
  grind
 generalize x.c_.L_.xs[i]=n at *
 unfold q3z qbk;simp only[hI,jj,Dn,jk,jp,jl];by_cases c:n.O_=14
 ·simp only[c,jq,jj,jo];grind
 have hi1:i < l0.length:=by
  grind
 have w:U4 ((i:Int)+1)=((i+1:Nat):Int):=zx (by omega);have two:∀k:Int,k=n.W_\/k=((i+1:Nat):Int)->∃j:Nat,k=(j:Int)/\j < x.c_.L_.xs.length:=by
  rintro k (rfl | rfl)
  ·exact⟨n.W_.toNat,by omega,by omega⟩
  ·exact⟨i+1,rfl,by omega⟩
 rw[jx c];simp only[jj];by_cases c2:n.O_=15
 ·simp only[c2,js,jq,jj,jo];grind
 simp only[c2,jr,jp,jk,w];by_cases c3:n.O_=11
 ·simp only[c3,jq,jj,jo];exact⟨_,rfl,by simp,λk hk=>two k (.inl (Dy.1 hk))⟩
 rw[jx c3];by_cases c4:n.O_=10
 ·rw[jv c4];simp only[jj];by_cases c5:n.W_≠((i+1:Nat):Int)
  ·simp only[gm c5,jq,jj,jo];exact⟨_,rfl,by simp,λk hk=>two k (by grind)⟩
  ·simp only[decide_eq_false c5,jk,jp,jj,jm,w];grind
 ·rw[jx c4];simp only[jj,jk,jp,jm,w];grind
theorem zx9:∃y,q31 (x,(i:Int))=D y/\(0<=y->∃v:Nat,y=(v:Int)/\v < x.F_.V_.xs.length):=by
 have hI:=zh5 hi;have hv:=H.v;generalize x.c_.L_.xs[i]=n at *
 unfold q31 qaw;simp only[hI,jj,jq,jl];have fin':∀b:Bool,∃y,((D (b,x,n)).bind λy1:Bool×MF×CIx=>if y1.1=E then(q2k (y1.2.1.F_,y1.2.2.X_)).bind λy2=>D y2 else D (-1))=D y/\(0<=y->∃v:Nat,y=(v:Int)/\v < x.F_.V_.xs.length):=by
  intro b;cases b
  ·exact⟨-1,rfl,λh=>by omega⟩
  ·refine⟨idP n.X_ x.F_.V_.xs,?_,λh=>⟨_,(DC h).symm,?_⟩⟩
   ·simp only[jj,jq];rw[zbg _ _ (by omega)];rfl
   ·have:idP n.X_ x.F_.V_.xs < x.F_.V_.xs.length:=Yx.2.1;omega
 split
 ·exact fin' E
 split
 ·exact fin' _
 ·exact fin' K
theorem zya:∃l,q8x x.c_.L_.xs[i]=D l/\l.xs.length<=60000/\∀y∈l.xs,0<=idP y x.F_.V_.xs:=by
 obtain⟨⟨l0,e,he,hop,hg⟩,hl,hv⟩:=H;have g:=hg _ (gc hi);generalize x.c_.L_.xs[i]=n at *
 have g5:¬ (5<=n.O_/\n.O_<=9):=λh=>g.y h.1 h.2
 have gl:=g.l.1;generalize hT:n.A_::n.B_::n.Q_.xs=T;have hTl:T.length=n.Q_.xs.length+2:=by grind
 have hTg:∀t∈T,t.n_=lit []\/0<=idP t.n_ x.F_.V_.xs:=by
  intro t ht;rw[<- hT] at ht;rcases Da.1 ht with rfl | ht
  ·exact g.a
  rcases Da.1 ht with rfl | ht
  ·exact g.b
  ·exact g.l.2 t ht
 obtain⟨l,e,l1,l2⟩:=go (f:=qb7) (n:=T.length) (A:=Sl U0) (st:=λj a=>((T.length:Int),(j:Int),a,(⟨T,E⟩:Sl qz))) (fin:=λa=>a)
  (J:=λm l=>l.xs.length<=m/\∀y∈l.xs,0<=idP y x.F_.V_.xs)
  (λj hj l hl=>by
   obtain⟨hl1,hl2⟩:=hl;have wk:=zx (show j < 1000000000 by omega);unfold qb7;simp only[jl];rw[jv (by omega),ze (s:=⟨T,E⟩) hj,jj,jj];by_cases c:T[j].n_=lit []
   ·grind
   ·simp only[c,Di,ju,jq];rw[Zw (by omega) (by omega)];simp only[jj,wk];refine⟨_,rfl,by simp;omega,λy hy=>?_⟩;rcases U5.1 hy with hy | hy
    all_goals grind)
  (λl hl=>by
   unfold qb7
   grind)
  (a:=O [] K) ⟨by simp,by simp⟩
 refine⟨l,?_,by omega,l2⟩;unfold q8x qeo;have f5:∀k:Int,5<=k->k<=9->¬ n.O_=k:=λk h1 h2 h=>g5 (by omega)
 simp only[f5 5 (by omega) (by omega),f5 6 (by omega) (by omega),f5 7 (by omega) (by omega),f5 8 (by omega) (by omega),f5 9 (by omega) (by omega),jr,jk,jp,jj];have ga:zo 24 (O [n.A_,n.B_] E) n.Q_.xs=D ⟨T,E⟩:=by
  have hm:(2+n.Q_.xs.length) * 24<=60000 * 24:=W (by omega) (UJ _);rw[yF (by simp;omega) (by simp;omega),<- hT];simp
 have e:lpO qb7 ((T.length:Int),0,O [] K,(⟨T,E⟩:Sl qz))=_:=e;simp only[ga,jj,zi,e]
theorem zyb:∃l,q32 (x,(i:Int))=D l/\l.xs.length<=60000/\∀y∈l.xs,∃v:Nat,y=(v:Int)/\v < x.F_.V_.xs.length:=by
 obtain⟨N,hN,n1,n2⟩:=zya H hi;have hI:=zh5 hi;have hv:=H.v;generalize x.c_.L_.xs[i]=n at *
 obtain⟨l,e,l1,l2⟩:=go (f:=q6h q3o q8x q2k) (n:=N.xs.length) (A:=Sl Int) (st:=λj a=>(N.len,(j:Int),x,a,N)) (fin:=λa=>a)
  (J:=λm l=>l.xs.length<=m/\∀y∈l.xs,∃v:Nat,y=(v:Int)/\v < x.F_.V_.xs.length)
  (λj hj l hl=>by
   obtain⟨hl1,hl2⟩:=hl;have wk:=zx (show j < 1000000000 by omega);unfold q6h;simp only[jl];rw[jv (by simp only[zi];omega),ze hj,jj,jj,zbg _ _ (by omega),jj,Zw (by omega) (by omega),jj,wk];refine⟨_,rfl,by simp;omega,λy hy=>?_⟩;rcases U5.1 hy with hy | hy
   ·exact hl2 y hy
   ·rw[Dy] at hy;subst hy;have h1:=n2 _ (gc hj);have h2:idP N.xs[j] x.F_.V_.xs < x.F_.V_.xs.length:=Yx.2.1
    exact⟨_,(DC h1).symm,by omega⟩)
  (λl hl=>by
   unfold q6h;simp only[jl]
   rw[jx (by simp only[zi];omega)])
  (a:=O [] K) ⟨by simp,by simp⟩
 refine⟨l,?_,by omega,l2⟩;unfold q32 qax;simp only[hI,hN,jj,jq];rw[show lpO (q6h q3o q8x q2k) (N.len,0,x,O [] K,N)=_ from e];rfl
end
abbrev RBo:=Sl (Sl Bool)
def Wf(n m:Nat)(R:RBo):Prop:=R.xs.length=n/\∀r∈R.xs,r.xs.length=m
theorem Wf.row{R:RBo}(h:Wf n m R){i:Nat}(hi:i < n):∃(hi':i < R.xs.length),za R (i:Int)=D R.xs[i]/\R.xs[i].xs.length=m:=
 ⟨by rw[h.1];exact hi,ze (by rw[h.1];exact hi),h.2 _ (gc _)⟩
theorem Wf.set{R:RBo}(h:Wf n m R){i:Int}{r:Sl Bool}(hr:r.xs.length=m):Wf n m (R.set i r):=by
 refine⟨by simp[Sl.set,h.1],λx hx=>?_⟩;rcases D2 hx with hx | rfl
 ·exact h.2 x hx
 ·exact hr
def Fc(B:RBo):Nat:=(B.xs.map λr=>r.xs.count K).sum
theorem zuJ:∀(l:List Bool) (y:Nat) (h:y < l.length),l[y]=K->(l.set y E).count K+1=l.count K
 |b::l,0,_,e=>by grind
 |b::l,y+1,h,e=>by
  grind
theorem znV{f:α->Nat}{v:α}:∀(l:List α) (k:Nat) (h:k < l.length),f v+1=f l[k]->((l.set k v).map f).sum+1=(l.map f).sum
 |a::l,0,_,e=>by grind
 |a::l,k+1,h,e=>by
  have:=znV l k (by simpa using h) (by simpa using e);grind
theorem zzN{B:RBo}{y:Nat}(hk:k < B.xs.length)(hy:y < B.xs[k].xs.length)(e:B.xs[k].xs[y]=K):Fc (B.set (k:Int) (B.xs[k].set (y:Int) E))+1=Fc B:=by
 unfold Fc;simp only[Sl.set,V];exact znV _ k hk (zuJ _ y hy e)
theorem zA5{B:RBo}(h:Wf n m B):Fc B<=n * m:=by
 have:∀l:List (Sl Bool),(∀r∈l,r.xs.length=m)->(l.map λr=>r.xs.count K).sum<=l.length * m:=by
  intro l
  induction l with
  |nil=>intro _;simp
  |cons r l ih=>
   intro h;have h1:=ih λr hr=>h r (by simp[hr])
   have h2:=h r (by simp);have h3:=@List.count_le_length Bool _ K r.xs;simp only[UE,List.sum_cons,jz,UR];omega
 have:=this B.xs h.2;rw[h.1] at this;exact this
def Nl(n:Nat)(l:List Int):Prop:=∀k∈l,∃j:Nat,k=(j:Int)/\j < n
structure FrG(n:Nat)(F:Sl (Sl Int)):Prop where
 l:F.xs.length=n
 r:∀r∈F.xs,r.xs.length<=200000/\Nl n r.xs
structure LvG(x:MF)(M:Nat)(B:RBo)(l:Sl Int):Prop where
 wb:Wf x.c_.L_.xs.length x.F_.V_.xs.length B
 wl:Nl x.c_.L_.xs.length l.xs
 wm:Fc B+l.xs.length<=M
section
variable {x:MF}{M:Nat}(hM:M < 1000000000000){i:Nat}(hi:i < x.c_.L_.xs.length){A:RBo}(hA:Wf x.c_.L_.xs.length x.F_.V_.xs.length A)(hV:x.F_.V_.xs.length<=60000){s:Int}{F:Sl (Sl Int)}
noncomputable abbrev LL1:=q5t q31 q32 q1z
noncomputable abbrev LL2:=q4p q31 q32 q1z
include hM hi hA hV
theorem zA6 (hk:k < x.c_.L_.xs.length) {n j:Int}{m:MpQ}{B:RBo}(h:LvG x M B l) :
    ∃m' B' l',lpO LL1 ((i:Int),(k:Int),(i:Int),n,j,(i:Int),(x.F_.V_.xs.length:Int),0,s,x,m,A,B,F,l)=D ((i:Int),(i:Int),n,j,s,x,m',A,B',F,l')/\LvG x M B' l':=by
 obtain⟨⟨m',B',l'⟩,e,g⟩:=go (f:=LL1) (n:=x.F_.V_.xs.length) (A:=MpQ×RBo×Sl Int) (st:=λp a=>((i:Int),(k:Int),(i:Int),n,j,(i:Int),(x.F_.V_.xs.length:Int),(p:Int),s,x,a.1,A,a.2.1,F,a.2.2)) (fin:=λa=>((i:Int),(i:Int),n,j,s,x,a.1,A,a.2.1,F,a.2.2)) (J:=λ_ a=>LvG x M a.2.1 a.2.2)
  (λp hp a g=>by
    obtain⟨m,B,l⟩:=a;simp only at g;have wk:=zx (show p < 1000000000 by omega);obtain⟨ha',ga,la⟩:=hA.row hi;obtain⟨hb',gb,lb⟩:=g.wb.row hk;have hpa:p < A.xs[i].xs.length:=by omega
    have hpb:p < B.xs[k].xs.length:=by omega
    show∃a',q5t _ _ _ _=_/\_
    unfold q5t;simp only[jl];rw[jv (by omega),ga];simp only[jj,ze hpa];cases hz:A.xs[i].xs[p]
    ·simp only[jk,jp,jj,wk];exact⟨(m,B,l),rfl,g⟩
    simp only[jq,gb,jj,ze hpb];obtain⟨r0,hr0,_⟩:∃r0,za A (k:Int)=D r0/\True:=⟨_,(hA.row hk).2.1,trivial⟩
    cases hy:B.xs[k].xs[p]
    · obtain⟨m',l',e,e1,e2⟩:=zsC (s:=s) (n:=(k:Int)) (l:=l) (m:=m) (by have:=g.wm;omega);simp only[jj,D5,jq,e,wk];refine⟨(m',_,l'),rfl,g.wb.set (by simp[Sl.set,lb]),λz hz=>?_,?_⟩
      · rcases e2 z hz with rfl | hz
        ·grind
        ·exact g.wl z hz
      ·have h1:=zzN hb' hpb hy;have h2:=g.wm;show Fc (B.set (k:Int) (B.xs[k].set (p:Int) E))+l'.xs.length<=M;omega
    · simp only[jj,Dn,jk,jp,wk]
      exact⟨(m,B,l),rfl,g⟩)
  (λa g=>by
    show q5t _ _ _ _=_;unfold q5t
    grind)
  (a:=(m,B,l)) h
 grind
theorem zzO (hF:FrG x.c_.L_.xs.length F) {m:MpQ}{B:RBo}(h:LvG x M B l) :
    ∃m' B' l',(za F (i:Int)).bind (λy=>lpO LL2 ((i:Int),(i:Int),y.len,0,s,x,m,A,B,F,l))=D (s,x,m',A,B',F,l')/\LvG x M B' l':=by
 have hiF:i < F.xs.length:=by rw[hF.l];exact hi
 obtain⟨hr1,hr2⟩:=hF.r _ (gc hiF)
 obtain⟨⟨m',B',l'⟩,e,g⟩:=go (f:=LL2) (n:=F.xs[i].xs.length) (A:=MpQ×RBo×Sl Int) (st:=λp a=>((i:Int),(i:Int),F.xs[i].len,(p:Int),s,x,a.1,A,a.2.1,F,a.2.2)) (fin:=λa=>(s,x,a.1,A,a.2.1,F,a.2.2)) (J:=λ_ a=>LvG x M a.2.1 a.2.2)
  (λp hp a g=>by
    obtain⟨m,B,l⟩:=a;simp only at g;have wk:=zx (show p < 1000000000 by omega);obtain⟨ha',ga,la⟩:=hA.row hi;obtain⟨k,ek,hk⟩:=hr2 _ (gc hp);obtain⟨m',B',l',e,g'⟩:=zA6 hM hi hA hV (s:=s) (F:=F) hk (n:=F.xs[i].len) (j:=(p:Int)) (m:=m) g;show∃a',q4p _ _ _ _=_/\_
    unfold q4p;simp only[jl];rw[jv (by simp only[zi];omega),ze hiF];simp only[jj,ze hp,ga,ek,zi (s:=A.xs[i]),la,e,wk]
    exact⟨(m',B',l'),rfl,g'⟩)
  (λa g=>by
    show q4p _ _ _ _=_;unfold q4p;simp only[jl]
    rw[jx (by simp only[zi];omega)])
  (a:=(m,B,l)) h
 exact⟨m',B',l',by rw[ze hiF,jj];exact e,g⟩
end
noncomputable abbrev LL0:=q4q q31 q32 q1z
section
variable {x:MF}(H:FuncG x){M:Nat}(hM:M < 1000000000000){s:Int}{F:Sl (Sl Int)}(hF:FrG x.c_.L_.xs.length F)
include H hM hF
theorem zzP {i:Nat}(hi:i < x.c_.L_.xs.length) {A B:RBo}{m:MpQ}(hA:Wf x.c_.L_.xs.length x.F_.V_.xs.length A) (h:LvG x M B l) :
    ∃m' A' B' l',q40 ((i:Int),s,x,l,m,A,B,F)=D (s,x,m',A',B',F,l')/\Wf x.c_.L_.xs.length x.F_.V_.xs.length A'/\LvG x M B' l':=by
 have hV:=H.v;obtain⟨y,ey,hy⟩:=zx9 H hi;obtain⟨R,eR,R1,R2⟩:=zyb H hi;obtain⟨ha',ga,la⟩:=hA.row hi;obtain⟨hb',gb,lb⟩:=h.wb.row hi;unfold q40 qbl;simp only[ga,gb,jj,ey,jl];have hA1:Wf x.c_.L_.xs.length x.F_.V_.xs.length (A.set (i:Int) ⟨B.xs[i].xs.take A.xs[i].xs.length++A.xs[i].xs.drop B.xs[i].xs.length,A.xs[i].nn⟩):=hA.set (by simp[la,lb]);simp only[la,lb] at hA1 |-
 generalize A.set (i:Int) _=A1 at hA1 |-
 obtain⟨h1',g1,l1⟩:=hA1.row hi;generalize hX:(if 0<=y then _ else _:U3 (Int×Int×MF×Sl Int×MpQ×RBo×RBo×Sl (Sl Int)))=X;obtain⟨A2,rfl,hA2⟩:∃A2,X=D ((i:Int),s,x,l,m,A2,B,F)/\Wf x.c_.L_.xs.length x.F_.V_.xs.length A2:=by
  subst hX;by_cases c:0<=y
  ·obtain⟨v,rfl,hv⟩:=hy c;rw[jv c,g1];simp only[jj,ze (s:=A1.xs[i]) (show v < _ by omega)];exact⟨_,rfl,hA1.set (by simp[Sl.set,l1])⟩
  grind
 simp only[jj,eR]
 obtain⟨A3,e3,hA3⟩:=go (f:=LL0) (n:=R.xs.length) (A:=RBo) (st:=λp a=>((i:Int),R.len,(p:Int),s,x,l,m,a,B,F,R)) (fin:=λa=>((i:Int),s,x,l,m,a,B,F)) (J:=λ_ a=>Wf x.c_.L_.xs.length x.F_.V_.xs.length a)
  (λp hp a ha=>by
    have wk:=zx (show p < 1000000000 by omega);obtain⟨v,ev,hv⟩:=R2 _ (gc hp);obtain⟨h2',g2,l2⟩:=ha.row hi;show∃a',q4q _ _ _ _=_/\_
    unfold q4q;simp only[jl];rw[jv (by simp only[zi];omega),ze hp];simp only[jj,g2,ev,ze (s:=a.xs[i]) (show v < _ by omega),wk]
    exact⟨_,rfl,ha.set (by simp[Sl.set,l2])⟩)
  (λa ha=>by
    show q4q _ _ _ _=_;unfold q4q;simp only[jl]
    rw[jx (by simp only[zi];omega)])
  (a:=A2) hA2
 obtain⟨m',B',l',e4,g4⟩:=zzO hM hi hA3 hV (s:=s) hF (m:=m) h;have hiF:i < F.xs.length:=by rw[hF.l];exact hi
 rw[ze hiF,jj] at e4;rw[show lpO (q4q q31 q32 q1z) ((i:Int),R.len,0,s,x,l,m,A2,B,F,R)=_ from e3];simp only[jj,ze hiF];rw[show lpO (q4p q31 q32 q1z) ((i:Int),(i:Int),F.xs[i].len,0,s,x,m,A3,B,F,l)=_ from e4];grind
noncomputable abbrev UL0:=q4d q1z q27 q2x q40
noncomputable abbrev UL1:=q39 q1z q27 q2x q40
theorem zyc:∀(d:Nat) (A B:RBo) (l:Sl Int) (m:MpQ),d<=M->Wf x.c_.L_.xs.length x.F_.V_.xs.length A->LvG x d B l->
    ∃A' B',lpO UL1 (x,A,B,F,s,l,m)=D (x,A',B',F)/\Wf x.c_.L_.xs.length x.F_.V_.xs.length A'/\Wf x.c_.L_.xs.length x.F_.V_.xs.length B':=by
 intro d
 induction d with
 |zero=>
  intro A B l m hd hA h;have:=h.wm;refine⟨A,B,zw ?_,hA,h.wb⟩;show q39 _ _ _ _ _=_;unfold q39 q27 q5g;simp only[jj,jl,zi];grind
 |succ d ih=>
  intro A B l m hd hA h;have hm:=h.wm;by_cases c:0 < l.xs.length
  rotate_left
  ·refine⟨A,B,zw ?_,hA,h.wb⟩;show q39 _ _ _ _ _=_;unfold q39 q27 q5g;simp only[jj,jl,zi];grind
  obtain⟨k,l1,e1,h1,h2,h3⟩:=zA4 (s:=s) (m:=m) c (by omega);obtain⟨i,rfl,hi⟩:=h.wl k h1;obtain⟨m2,A2,B2,l2,e2,hA2,g2⟩:=zzP H (M:=d) (by omega) (s:=s) hF hi (m:=(m.1,⟨xJ (i:Int) m.2.xs,E⟩)) (l:=l1) (B:=B) hA ⟨h.wb,λz hz=>h.wl z (h3 z hz),by omega⟩;obtain⟨A3,B3,e3,hA3,hB3⟩:=ih A2 B2 l2 m2 (by omega) hA2 g2;refine⟨A3,B3,?_,hA3,hB3⟩;rw[<- e3];refine zB ?_;show q39 _ _ _ _ _=_;unfold q39 q27 q5g;simp only[jj,jl,zi];grind
end
theorem zuK {x:MF}(H:FuncG x) {F:Sl (Sl Int)}(hF:FrG x.c_.L_.xs.length F) {A B:RBo}(hA:Wf x.c_.L_.xs.length x.F_.V_.xs.length A) (hB:Wf x.c_.L_.xs.length x.F_.V_.xs.length B) (hl:l.xs.length<=40000) (hn:Nl x.c_.L_.xs.length l.xs) :
    ∃A' B',q3p (E,l,x,A,B,F)=D (x,A',B',F)/\Wf x.c_.L_.xs.length x.F_.V_.xs.length A'/\Wf x.c_.L_.xs.length x.F_.V_.xs.length B':=by
 have hM:Fc B+l.xs.length < 1000000000000:=by
  have h1:=zA5 hB;have h2:x.c_.L_.xs.length * x.F_.V_.xs.length<=40000 * 60000:=W H.l H.v;omega
 unfold q3p qay;simp only[jq,jj]
 obtain⟨⟨m,q⟩,e,hq,hq2⟩:=go (f:=UL0) (n:=l.xs.length) (A:=MpQ×Sl Int) (st:=λp a=>(l,l.len,(p:Int),x,A,B,F, -1,a.2,a.1)) (fin:=λa=>(x,A,B,F, -1,a.2,a.1)) (J:=λp a=>a.2.xs.length<=p/\Nl x.c_.L_.xs.length a.2.xs)
  (λp hp a ha=>by
    obtain⟨m,q⟩:=a;obtain⟨a1,a2⟩:=ha;simp only at a1 a2;have wk:=zx (show p < 1000000000 by omega);obtain⟨m',q',e,e1,e2⟩:=zsC (s:= -1) (n:=l.xs[p]) (l:=q) (m:=m) (by omega);show∃a',q4d _ _ _ _ _=_/\_
    unfold q4d;simp only[jl];rw[jv (by simp only[zi];omega),ze hp];simp only[jj,e,wk];refine⟨(m',q'),rfl,by grind,λz hz=>?_⟩;rcases e2 z hz with rfl | hz
    ·exact hn _ (gc hp)
    ·exact a2 z hz)
  (λa ha=>by
    show q4d _ _ _ _ _=_;unfold q4d;simp only[jl]
    rw[jx (by simp only[zi];omega)])
  (a:=((lit [],O [] E),O [] K)) ⟨by simp,by intro k hk;simp at hk⟩
 simp only at hq hq2;obtain⟨A',B',e2,hA',hB'⟩:=zyc H hM (s:= -1) hF (Fc B+q.xs.length) A B q m (by omega) hA ⟨hB,hq2,by omega⟩;rw[show lpO (q4d q1z q27 q2x q40) (l,l.len,0,x,A,B,F,O [] K |> λz=>(-1,z,lit [],O [] E))=_ from e];simp only[jj];rw[show lpO (q39 q1z q27 q2x q40) (x,A,B,F, -1,q,m)=_ from e2];grind
theorem zsD{b:Nat}{z:α}(hb:b<=1000)(h:n<=100000):yi b (n:Int) z=D ⟨P n z,E⟩:=by
 have:b * n<=1000 * 100000:=W hb h;unfold yi;grind
noncomputable abbrev VL0:=q8y q3z q3p
noncomputable abbrev VL1:=q8z q3z q3p
def Wp(n m i:Nat)(R:RBo):Prop:=R.xs.length=n/\∀j,j < i->∀r,R.xs[j]?=D r->r.xs.length=m
theorem Wp.set{i:Nat}{R:RBo}(h:Wp n m i R){r:Sl Bool}(hr:r.xs.length=m):Wp n m (i+1) (R.set (i:Int) r):=by
 refine⟨by simp[Sl.set,h.1],λj hj q hq=>?_⟩;simp only[Sl.set,V,UH] at hq;by_cases c:i=j
 ·grind
 ·rw[jx c] at hq;exact h.2 j (by omega) q hq
structure FrP(n b:Nat)(F:Sl (Sl Int)):Prop where
 l:F.xs.length=n
 r:∀r∈F.xs,r.xs.length<=b/\Nl n r.xs
theorem zzQ{x:MF}(H:FuncG x):∃A B,q6m x=D (A,B)/\Wf x.c_.L_.xs.length x.F_.V_.xs.length A/\Wf x.c_.L_.xs.length x.F_.V_.xs.length B:=by
 have hN:=H.l;have hV:=H.v;unfold q6m qfj;simp only[zi,zsD (show 24<=1000 by omega) (show x.c_.L_.xs.length<=100000 by omega),jj,Zs]
 obtain⟨⟨l,A,B,F⟩,e,hl,hn,hA,hB,hF⟩:=go (f:=VL1) (n:=x.c_.L_.xs.length) (A:=Sl Int×RBo×RBo×Sl (Sl Int)) (st:=λi a=>((x.c_.L_.xs.length:Int),(i:Int),x,a)) (fin:=λa=>(x,a))
  (J:=λi a=>a.1.xs.length<=i/\Nl x.c_.L_.xs.length a.1.xs/\Wp x.c_.L_.xs.length x.F_.V_.xs.length i a.2.1/\Wp x.c_.L_.xs.length x.F_.V_.xs.length i a.2.2.1/\FrP x.c_.L_.xs.length (2 * i) a.2.2.2)
  (λi hi a ha=>by
   obtain⟨l,A,B,F⟩:=a;obtain⟨a1,a2,a3,a4,a5⟩:=ha;simp only at a1 a2 a3 a4 a5;have wk:=zx (show i < 1000000000 by omega);obtain⟨nx,en,n1,n2⟩:=zzM H hi;have ga:=ze (s:=A) (i:=i) (by rw[a3.1];exact hi);have gb:=ze (s:=B) (i:=i) (by rw[a4.1];exact hi)
   obtain⟨F',e,hF'⟩:=go (f:=VL0) (n:=nx.xs.length) (A:=Sl (Sl Int)) (st:=λp a=>((i:Int),(x.c_.L_.xs.length:Int),(i:Int),nx.len,(p:Int),x,(⟨l.xs++[(i:Int)],E⟩:Sl Int),nx,A.set (i:Int) ⟨P x.F_.V_.xs.length K,E⟩,B.set (i:Int) ⟨P x.F_.V_.xs.length K,E⟩,a)) (fin:=λa=>((x.c_.L_.xs.length:Int),(i:Int),x,(⟨l.xs++[(i:Int)],E⟩:Sl Int),A.set (i:Int) ⟨P x.F_.V_.xs.length K,E⟩,B.set (i:Int) ⟨P x.F_.V_.xs.length K,E⟩,a))
    (J:=λp a=>FrP x.c_.L_.xs.length (2 * i+p) a)
    (λp hp a ha=>by
     have wk:=zx (show p < 1000000000 by omega);obtain⟨k,ek,hk⟩:=n2 _ (gc hp);have hka:k < a.xs.length:=by rw[ha.l];exact hk
     obtain⟨r1,r2⟩:=ha.r _ (gc hka);show∃a',q8y _ _ _=_/\_
     unfold q8y;simp only[jl];rw[jv (by simp only[zi];omega),ze hp];simp only[jj,ek,ze hka];rw[Zw (by omega) (by omega)];simp only[jj,js,Dx,wk];refine⟨_,rfl,by simp[Sl.set,ha.l],λr hr=>?_⟩;rcases D2 hr with hr | rfl
     ·obtain⟨q1,q2⟩:=ha.r r hr;grind
     ·refine⟨by simp;omega,λz hz=>?_⟩;rcases U5.1 hz with hz | hz
      ·exact r2 z hz
      grind)
    (λa ha=>by
     show q8y _ _ _=_;unfold q8y;simp only[jl]
     rw[jx (by simp only[zi];omega)])
    (a:=F) a5
   show∃a',q8z _ _ _=_/\_
   unfold q8z;simp only[jl];rw[jv (by omega)];simp only[zi (s:=x.F_.V_),zsD (show 1<=1000 by omega) (show x.F_.V_.xs.length<=100000 by omega),jj,ga,gb,Zs];rw[Zw (by omega) (by omega)];simp only[jj,en];rw[show lpO (q8y q3z q3p) ((i:Int),(x.c_.L_.xs.length:Int),(i:Int),nx.len,0,x,(⟨l.xs++[(i:Int)],E⟩:Sl Int),nx,A.set (i:Int) ⟨P x.F_.V_.xs.length K,E⟩,B.set (i:Int) ⟨P x.F_.V_.xs.length K,E⟩,F)=_ from e];simp only[jj,wk];refine⟨(_,_,_,_),rfl,by simp;omega,λz hz=>?_,a3.set (by simp),a4.set (by simp),hF'.l,λr hr=>?_⟩
   ·rcases U5.1 hz with hz | hz
    ·exact a2 z hz
    grind
   ·obtain⟨q1,q2⟩:=hF'.r r hr
    grind)
  (λa ha=>by
   show q8z _ _ _=_;unfold q8z
   grind)
  (a:=(O [] K,⟨P x.c_.L_.xs.length (O [] K),E⟩,⟨P x.c_.L_.xs.length (O [] K),E⟩,⟨P x.c_.L_.xs.length (O [] K),E⟩))
  ⟨by simp,by intro k hk;simp at hk,⟨by simp,λj hj=>by omega⟩,⟨by simp,λj hj=>by omega⟩,by simp,λr hr=>by obtain rfl:=List.eq_of_mem_replicate hr;exact⟨by simp,by intro k hk;simp at hk⟩⟩
 simp only at hl hn hA hB hF
 have wf:∀R,Wp x.c_.L_.xs.length x.F_.V_.xs.length x.c_.L_.xs.length R->Wf x.c_.L_.xs.length x.F_.V_.xs.length R:=λR h=>⟨h.1,λr hr=>by
  obtain⟨j,hj,rfl⟩:=Z hr
  exact h.2 j (by rw[<- h.1];exact hj) _ (UI hj)⟩
 obtain⟨A',B',e2,hA',hB'⟩:=zuK H (F:=F) ⟨hF.l,λr hr=>⟨by have:=(hF.r r hr).1;omega,(hF.r r hr).2⟩⟩ (wf A hA) (wf B hB) (by omega) hn;rw[show lpO (q8z q3z q3p) ((x.c_.L_.xs.length:Int),0,x,O [] K,⟨P x.c_.L_.xs.length (O [] K),E⟩,⟨P x.c_.L_.xs.length (O [] K),E⟩,⟨P x.c_.L_.xs.length (O [] K),E⟩)=_ from e];grind
noncomputable abbrev NL0:=q4l q2c q2n q6m
noncomputable abbrev NL1:=q4m q2c q2n q6m
noncomputable abbrev NL2:=q3r q2c q2n q6m
theorem zcp{R:Sl α}{i:Nat}{r:α}(h:i < R.xs.length):za (R.set (i:Int) r) (i:Int)=D r:=by
 rw[ze (by simpa[Sl.set] using h)];simp[Sl.set]
structure Tu(n m i v:Nat)(c0 a c:RBo):Prop where
 w:Wf n m a
 o:∀j,j≠i->a.xs[j]?=c0.xs[j]?
 e:∀u,v<=u->∀r r',a.xs[i]?=D r->c.xs[i]?=D r'->r.xs[u]?=r'.xs[u]?
theorem Tu.at{i v:Nat}{c0 a c:RBo}(h:Tu n m i v c0 a c)(hc:Wf n m c)(hi:i < n)(hv:v < m):∃α r r',za a (i:Int)=D r/\za r (v:Int)=D α/\za c (i:Int)=D r'/\za r' (v:Int)=D α/\i < a.xs.length/\v < r.xs.length/\Tu n m i (v+1) c0 (a.set (i:Int) (r.set (v:Int) !α)) c:=by
 obtain⟨h1,g1,l1⟩:=h.w.row hi;obtain⟨h2,g2,l2⟩:=hc.row hi;have hva:v < a.xs[i].xs.length:=by omega
 have hvc:v < c.xs[i].xs.length:=by omega
 have ev:=h.e v (UJ _) _ _ (UI h1) (UI h2);rw[UI hva,UI hvc] at ev;refine⟨_,_,_,g1,ze hva,g2,by rw[ze hvc,<- ev],h1,hva,h.w.set (by simp[Sl.set,l1]),λj hj=>?_,λu hu r r' hr hr'=>?_⟩
 ·simp only[Sl.set,V,UH,jx (Ne.symm hj)];exact h.o j hj
 ·simp only[Sl.set,V,List.getElem?_set_self h1] at hr;cases hr;rw[<- h.e u (by omega) _ _ (UI h1) hr',UH,jx (by omega)]
theorem zyd {c d:RBo}(hc:Wf n m c) (hd:Wf n m d) (hm:m<=60000) {i:Nat}(hi:i < n) {a b:RBo}(ha:Tu n m i 0 a a c) (hb:Tu n m i 0 b b d) {p q r:Int}{fs:Sl MF} :
    ∃a' b',lpO NL0 ((i:Int),p,q,r,(i:Int),(m:Int),0,a,b,c,d,fs)=D (.inr (p,q,r,(i:Int),a',b',c,d,fs))/\Tu n m i m a a' c/\Tu n m i m b b' d:=by
 obtain⟨⟨a',b'⟩,e,h1,h2⟩:=go (f:=NL0) (n:=m) (A:=RBo×RBo) (st:=λv z=>((i:Int),p,q,r,(i:Int),(m:Int),(v:Int),z.1,z.2,c,d,fs)) (fin:=λz =>.inr (p,q,r,(i:Int),z.1,z.2,c,d,fs)) (J:=λv z=>Tu n m i v a z.1 c/\Tu n m i v b z.2 d)
  (λv hv z hz=>by
    obtain⟨a1,b1⟩:=z;obtain⟨z1,z2⟩:=hz;simp only at z1 z2;have wk:=zx (show v < 1000000000 by omega);obtain⟨α,ra,rc,g1,g2,g3,g4,h1,h2,t1⟩:=z1.at hc hi hv;obtain⟨β,rb,rd,g5,g6,g7,g8,h5,h6,t2⟩:=z2.at hd hi hv;refine⟨(_,_),?_,t1,t2⟩;show q4l _ _ _ _=_;unfold q4l;simp only[jl];rw[jv (by omega)];simp only[g1,g2,g3,g4,g5,g6,g7,g8,jj,zcp h1,zcp h2,zcp h5,zcp h6];rw[jx (by grind)];simp only[jj];rw[jx (by grind),wk]
    rfl)
  (λz hz=>by
    show q4l _ _ _ _=_;unfold q4l
    grind)
  (a:=(a,b)) ⟨ha,hb⟩
 grind
def Un(n m i:Nat)(c a:RBo):Prop:=Wf n m a/\∀j,i<=j->a.xs[j]?=c.xs[j]?
theorem Un.tu{i:Nat}{c a:RBo}(h:Un n m i c a):Tu n m i 0 a a c:=⟨h.1,λ_ _=>rfl,λu _ r r' hr hr'=>by rw[h.2 i (UJ _),hr'] at hr;cases hr;rfl⟩
theorem Un.next{i:Nat}{c a a':RBo}(h:Un n m i c a)(t:Tu n m i m a a' c):Un n m (i+1) c a':=⟨t.w,λj hj=>by rw[t.o j (by omega)];exact h.2 j (by omega)⟩
theorem zA7{c d:RBo}(hc:Wf n m c)(hd:Wf n m d)(hn:n<=40000)(hm:m<=60000){p q:Int}{fs:Sl MF}:lpO NL1 (p,q,(n:Int),0,c,d,c,d,fs)=D (.inr (p,q,fs)):=by
 obtain⟨_,e,_⟩:=go (f:=NL1) (n:=n) (A:=RBo×RBo) (st:=λi z=>(p,q,(n:Int),(i:Int),z.1,z.2,c,d,fs)) (fin:=λ_ =>.inr (p,q,fs)) (J:=λi z=>Un n m i c z.1/\Un n m i d z.2)
  (λi hi z hz=>by
   obtain⟨a,b⟩:=z;obtain⟨z1,z2⟩:=hz;simp only at z1 z2;have wk:=zx (show i < 1000000000 by omega);obtain⟨h1,g1,l1⟩:=z1.1.row hi;obtain⟨a',b',e,t1,t2⟩:=zyd hc hd hm hi z1.tu z2.tu (p:=p) (q:=q) (r:=(n:Int)) (fs:=fs);refine⟨(a',b'),?_,z1.next t1,z2.next t2⟩;show q4m _ _ _ _=_;unfold q4m;simp only[jl];rw[jv (by omega)]
   simp only[g1,jj,zi (s:=a.xs[i]),l1,e,jm,wk])
  (λz hz=>by
   show q4m _ _ _ _=_;unfold q4m
   grind)
  (a:=(c,d)) ⟨⟨hc,λ_ _=>rfl⟩,⟨hd,λ_ _=>rfl⟩⟩
 exact e
theorem zye(hw:q2n ()=D E)(x:U0×U0):qb1 x=D true:=by
 obtain⟨b,fs,rs,e,hb⟩:=zuI x;unfold qb1 qao;simp only[e,jj,hw,Dn,jk,jp];cases b with
 |false=>rfl
 |true=>
 obtain⟨h1,h2⟩:=hb rfl;simp only[Dn,jk,jp]
 obtain⟨_,q,_⟩:=go (f:=NL2) (n:=fs.xs.length) (A:=Unit) (st:=λi _=>(fs.len,(i:Int),fs)) (fin:=λ_ =>.inr ()) (J:=λ_ _=>True)
  (λi hi _ _=>by
   have H:=h2 _ (gc hi);obtain⟨A,B,e,hA,hB⟩:=zzQ H;have wk:=zx (show i < 1000000000 by omega);refine⟨(),?_,trivial⟩;show q3r _ _ _ _=_;unfold q3r;simp only[jl];rw[jv (by simp only[zi];omega),ze hi]
   simp only[jj,e,zi (s:=A),hA.1,zA7 hA hB H.l H.v,jm,wk])
  (λ_ _=>by
   show q3r _ _ _ _=_;unfold q3r;simp only[jl]
   rw[jx (by simp only[zi];omega)])
  (a:=()) trivial
 have q:lpO (q3r q2c q2n q6m) (fs.len,0,fs)=_:=q;rw[q];rfl
deriving instance DecidableEq for Sl
mutual
def zuL:q8->q8->Bool
 |⟨k,t,n,a,s⟩,⟨k',t',n',a',s'⟩=>(decide (k=k') && (decide (t=t') && (decide (n=n') && decide (a=a')))) && zuM s s'
def zuM:Sl q8->Sl q8->Bool
 |⟨l,b⟩,⟨l',b'⟩=>(b == b') && zfF l l'
def zfF:List q8->List q8->Bool
 |[],[]=>E
 |x::l,y::r=>zuL x y && zfF l r
 |_,_=>K
end
mutual
theorem zms:∀a b:q8,zuL a b=E↔a=b
 |⟨k,t,n,a,s⟩,⟨k',t',n',a',s'⟩=>by
  unfold zuL;have:=zuN s s';simp only[gf,jl,this,q8.mk.injEq];constructor
  ·rintro⟨⟨h1,h2,h3,h4⟩,h5⟩;exact⟨h1,h2,h3,h4,h5⟩
  ·rintro⟨h1,h2,h3,h4,h5⟩;exact⟨⟨h1,h2,h3,h4⟩,h5⟩
theorem zuN:∀a b:Sl q8,zuM a b=E↔a=b
 |⟨l,b⟩,⟨l',b'⟩=>by
  unfold zuM;have:=zmt l l';simp only[gf,beq_iff_eq,this,O.injEq];constructor
  ·rintro⟨h1,h2⟩;exact⟨h2,h1⟩
  ·rintro⟨h1,h2⟩;exact⟨h2,h1⟩
theorem zmt:∀a b:List q8,zfF a b=E↔a=b
 |[],[]=>by unfold zfF;simp
 |x::l,y::r=>by
  unfold zfF;have h1:=zms x y;have h2:=zmt l r;simp only[gf,h1,h2,List.cons.injEq]
 |[],_::_=>by unfold zfF;simp
 |_::_,[]=>by unfold zfF;simp
end
instance:DecidableEq q8:=λa b=>decidable_of_iff _ (zms a b)
deriving instance DecidableEq for qr
deriving instance DecidableEq for q7
deriving instance DecidableEq for qt
deriving instance DecidableEq for qw
deriving instance DecidableEq for qa
deriving instance DecidableEq for qj
deriving instance DecidableEq for qf
deriving instance DecidableEq for qe
deriving instance DecidableEq for qz
deriving instance DecidableEq for ql
deriving instance DecidableEq for q1j
deriving instance DecidableEq for qm
end Go.Px
