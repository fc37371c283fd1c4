/- Part Li. -/
import Derived.Test.YtlhommikjhhmbaaGreatDoorB2
set_option linter.unusedVariables false
set_option linter.unusedSimpArgs false
set_option linter.unusedSectionVars false
namespace Go.Px
open Bool renaming true->E,false->K
open Eq renaming refl->qc
open Int renaming toNat_natCast->Z
open List renaming replicate->U,getElem_of_mem->qo,count_le_length->qs,sum_cons->qv,sublist_cons_self->qx,mem_of_mem_take->qy,filter_append->qA
open Nat renaming mul_le_mul->qk
open _root_.Option renaming some->D
open Prod renaming fst->qb
open Sl renaming mk->O
variable{V k y:Nat}{a b l:Sl Int}{n:Nd}{r:Sl Bool}{t:List PT}{α:Type}
theorem zpM{l:List Nd}(h:zbt l = .ok t):t.length<=l.length:=by
 have:=V6 (I:=λi (a:List PT)=>a.length<=i) l 0 [] je (λi hi a a' d e=>by
  split at e
  ·cases c:xj a l[i] with
   |error x=>rw[c] at e;cases e
   |ok x=>rw[c] at e;cases e;simp;omega
  grind) t h
 omega
theorem zse{l:List Nd}{s:List PSg}(h:zcD t l = .ok s):s.length<=l.length:=by
 have:=V6 (I:=λi (a:List PSg)=>a.length<=i) l 0 [] je (λi hi a a' d e=>by
  split at e
  ·cases c:xd t l[i] with
   |error x=>rw[c] at e;cases e
   |ok x=>rw[c] at e;cases e;simp;omega
  grind) s h
 omega
theorem znR{p:PP}(c:vq n\/zdY n)(h:X7 t n=D p):OkO t p:=λd=>(za4 c h).resolve_right Zc
def zd2(t:List PT)(s:PSg):Prop:=OkO t s.R_/\∀p∈s.P_.xs,OkO t p
theorem zzi{s:PSg}(w:FnG n)(h:xd t n = .ok s):zd2 t s:=by
 obtain⟨_,ps,r,b,u,hp,z,_,_⟩:=w;have e:zd0 n (n.K_.xs.length - 2)=r:=by unfold zd0;rw[u];simp
 have c:n.K_.xs.take (n.K_.xs.length - 2)=ps:=by rw[u];simp
 unfold xd at h;simp only[e,c] at h;split at h
 ·cases h
 cases f:ps.foldlM (Z9 t) [] with
 |error x=>rw[f] at h;cases h
 |ok q=>
  rw[f] at h;simp only[Except.bind] at h;split at h
  ·cases h
  ·rename_i p g;cases h;refine⟨znR (.inr z) g,V6 (I:=λ_ (a:List PP)=>∀p∈a,OkO t p) ps 0 [] je (λi hi a a' B e=>?_) q f⟩;obtain⟨_,m,o,d⟩:=hp _ (gc hi);have k0:zW ps[i]=m:=by unfold zW;rw[o];rfl
   unfold Z9 at e;rw[k0] at e;split at e
   ·cases e
   split at e
   ·cases e
   rename_i p j;split at e
   ·cases e
   cases e;have v:=znR (.inl d) j;exact zeu B λo=>v o
theorem zxI{l:List Nd}{s:List PSg}(j:∀k∈l,k.k_=6->FnG k)(h:zcD t l = .ok s):∀g∈s,zd2 t g:=
 V6 (I:=λ_ (a:List PSg)=>∀g∈a,zd2 t g) l 0 [] je (λi hi a a' m e=>by
  split at e
  ·rename_i f;cases d:xd t l[i] with
   |error x=>rw[d] at e;cases e
   |ok x=>
    rw[d] at e;cases e;intro g c;rcases U5.1 c with c | c
    ·exact m g c
    ·obtain rfl:=Dz.1 c;exact zzi (j _ (gc hi) f) d
  grind) s h
def zzj(L:q13):Prop:=∃t:List PT,L.I_=mkS t/\L.j_=mkS (t.map rT)/\t.length<=20000/\L.s_.xs.length<=50000/\L.q_.xs.length<=50000/\∀g∈L.s_.xs,zd2 t g
theorem UnitG.kids(h:UnitG n):n.K_.xs.length<=4096:=by have:=h.size;have:=@Zl n;omega
theorem UnitG.ty(h:UnitG n):∀k∈n.K_.xs,k.k_=1->wE k/\k.K_.xs.length<=20000:=by
 intro k c h1;have:=ZX c;have:=@Zl k;have:=h.size;rcases h.kid k c with h | h
 ·grind
 ·rw[h.1] at h1;grind
theorem UnitG.fn(h:UnitG n):∀k∈n.K_.xs,k.k_=6->FnG k/\k.K_.xs.length<=20000:=by
 intro k c h1;have:=ZX c;have:=@Zl k;have:=h.size;rcases h.kid k c with h | h
 ·rw[h.1] at h1;grind
 grind
theorem zzk(h:UnitG n):∃(a b c d a' C c' f:Int) (t:List PT) (s:Sl PSg) (rs:Sl RSg),q75 n=D (a,b,mkS t)/\q7p (n,mkS t)=D (c,d,s)/\q38 (rN n)=D (a',C,mkS (t.map rT))/\q2y (rN n,mkS (t.map rT))=D (c',f,rs)/\t.length<=20000/\s.xs.length<=50000/\rs.xs.length<=50000/\∀g∈s.xs,zd2 t g:=by
 have o:=h.kids;have h1:=zum h.ty Zc;have h2:=zr7 h.ty Zc;have B:∀t:List PT,t.length<=20000->∃(c d c' f:Int) (s:Sl PSg) (rs:Sl RSg),q7p (n,mkS t)=D (c,d,s)/\q2y (rN n,mkS (t.map rT))=D (c',f,rs)/\s.xs.length<=50000/\rs.xs.length<=50000/\∀g∈s.xs,zd2 t g:=by
  intro t j;have m:=zxr (t:=mkS t) h.fn j Zc;have p:=zuq (t:=t) h.fn j Zc;rw[show(mkS t).xs=t from rfl] at m;cases e:zcD t n.K_.xs with
  |error x=>grind
  |ok s=>
   have:=zse e;rw[e] at m p;exact⟨_,_,_,_,_,_,m,p,by show s.length<=_;omega,by show(s.map rG).length<=_;grind,zxI (λk o u=>(h.fn k o u).1) e⟩
 cases e:zbt n.K_.xs with
 |error x=>
  rw[e] at h1 h2;obtain⟨c,d,c',f,s,rs,v,q,w,z,q5⟩:=B [] je;exact⟨_,_,c,d,_,_,c',f,[],s,rs,h1,v,h2,q,je,w,z,q5⟩
 |ok t=>
  have j:=zpM e;grind
theorem zpN(g:U0):∃L b,q3f g=D (L,b)/\(b=E->zzj L):=by
 unfold q3f q7x;rw[zfL,jj];simp only[jl,zm];by_cases hp:(Xd g).2.2=0
 rotate_left
 ·rw[jv hp];grind
 have p:=zmb hp;rw[jx (by simp[hp])];generalize C:(Xd g).1=n at p;obtain⟨a,b,c,d,a',b',c',X,t,s,rs,h1,h2,I,z,B,hs,m,o⟩:=zzk p;have Y:=p.kids;simp only[h1,jj,h2,zdW,C,zj,I,z];have N:(rN n).K_.xs=n.K_.xs.map rN:=by rw[zJ]
 have T:(rN n).K_.xs.length=n.K_.xs.length:=by rw[N];simp
 obtain⟨⟨fs,j⟩,e,_⟩:=go (f:=q4u q6d q75 q7p q2s q38 q2y) (n:=n.K_.xs.length) (A:=Sl Nd×Sl RNd)
  (st:=λi x=>(b,d,n.K_,n.K_.len,(i:Int),s,rN n,rs,(mkS t,mkS (t.map rT)),x.1,x.2)) (fin:=λx=>(b,d,s,rs,(mkS t,mkS (t.map rT)),x.1,x.2)) (J:=λi x=>x.1.xs.length<=i/\x.2.xs.length<=i)
  (λi hi x q=>by
   obtain⟨fs,j⟩:=x;obtain⟨Q,w⟩:=q;simp only at Q w;unfold q4u;simp only[jl,zm,zj];rw[jv jA,ze hi,jj,Zu Zc Zc];have v:=zu (Zc:i < 1000000000);split
   ·simp only[jj];rw[ze Zc,jj,Zu Zc Zc];simp only[jj,v];exact⟨(_,_),rfl,ji,ji⟩
   ·simp only[jj,v]
    exact⟨(fs,j),rfl,jE,jE⟩)
  (λx q=>by
   unfold q4u;simp only[jl]
   rw[jx jA])
  (a:=(O [] K,O [] K)) ⟨je,je⟩
 have e:lpO (q4u q6d q75 q7p q2s q38 q2y) (b,d,n.K_,n.K_.len,0,s,rN n,rs,(mkS t,mkS (t.map rT)),O [] K,O [] K)=_:=e;rw[e];simp only[jj];have G:∀f u,zzj ⟨f,mkS t,s,u,mkS (t.map rT),rs⟩:=λf u=>⟨t,rfl,rfl,B,hs,m,o⟩
 by_cases c1:b=0<;>by_cases c2:d=0<;>by_cases c3:Sl.len s=Sl.len fs<;>
 ·simp only[c1,c2,c3,jq,jp,jj];exact⟨_,_,rfl,λ_=>G _ _⟩
def QVm(d:Sl PSg)(fs:Sl PNf)(f:PNf):QK->Prop
 | .y=>False
 | .n n=>n=lit []\/0<=idP n f.V_.xs
 | .x n=>0<=idP n f.V_.xs
 | .c y l=>zpI d.xs y l
 | .f y l=>zfS fs.xs y l
structure CliG(L:q13)(ks:List Nd)(C:q1w):Prop where
 k:ks.length<=40000
 f:xK 5000 ks C.J_.xs
 c:C.w_.xs.length=ks.length
 rc:C.g_.xs.length=ks.length
 rf:C.r_.xs.length=ks.length
 g:∀(i:Nat) (c:q1m) (f:PNf),C.w_.xs[i]?=D c->C.J_.xs[i]?=D f->c.L_.xs.length<=40000/\zjs (QVm L.s_ C.J_ f) c.L_.xs
 o:OkS L.I_ C.J_
 s:∀g∈L.s_.xs,zd2 L.I_.xs g
 sl:L.s_.xs.length<=50000
theorem zsf(x:U0×U0):∃L C b,q3u x=D (L,C,b)/\(b=E->∃ks,CliG L ks C):=by
 obtain⟨libs,text⟩:=x;obtain⟨L,ok,hl,hL⟩:=zpN libs;unfold q3u q8d;simp only[hl,jj,zfL,zm,zdW,zj,jl];cases ok with
 |false=>simp only[D6,jq,jj];grind
 |true=>
 obtain⟨t,ty,rty,ht,hs,hrs,hsg⟩:=hL rfl;simp only[Do,jk,jp,jj,jl];by_cases hp:(Xd text).2.2=0
 rotate_left
 ·rw[jv hp];grind
 have hg:=zmb hp;rw[jx (by simp[hp])];generalize (Xd text).1=n at hg;obtain⟨a,e,fns,h1,hf⟩:=zut hg L.s_ (mkS t) (λs hs=>(hsg s hs).1) hs (by show t.length<=_;omega);obtain⟨S,h2,hrf⟩:=zsd hg L.q_ t hrs (by omega);rw[ty,rty,h1,jj,h2,jj];have hk:=hg.kids;have hsz:=hg.size;have ek:(rN n).K_.xs=n.K_.xs.map rN:=by rw[zJ]
 have ekl:(rN n).K_.xs.length=n.K_.xs.length:=by rw[ek];simp
 obtain⟨⟨cs,rcs⟩,q,j1,j2,j4⟩:=go (f:=q54 q3f q6d q2s q85 q45 q5b q2j) (n:=n.K_.xs.length) (A:=Sl q1m×Sl q1n)
  (st:=λi x=>(e,n.K_,n.K_.len,(i:Int),L,rN n,fns,S.1,S.2,x.1,x.2)) (fin:=λx=>(e,L,fns,S.1,S.2,x.1,x.2)) (J:=λi x=>x.1.xs.length<=i/\x.2.xs.length=x.1.xs.length/\((∀k∈n.K_.xs,FnG k)->x.1.xs.length=i/\∀(j:Nat) (hj:j < n.K_.xs.length) c,x.1.xs[j]?=D c->q5b n.K_.xs[j]=D c))
  (λi hi x hx=>by
   obtain⟨cs,rcs⟩:=x;obtain⟨x1,x2,x4⟩:=hx;simp only at x1 x2 x4;unfold q54;simp only[jl,zm,zj];rw[jv (by simp only[zf];omega),ze hi,jj];have wk:=zu (show i < 1000000000 by omega);have hx:za (rN n).K_ (i:Int)=D (rN n.K_.xs[i]):=by rw[ze (by omega)];grind
   have hki:=ZX (gc hi);by_cases h6:n.K_.xs[i].k_=6
   ·have hf:=(hg.fn _ (gc hi) h6).1;obtain⟨c,l1,l4,l5⟩:=zpG (Q:=λ_=>True) hf (by omega) trivial λ_ _ _=>zme (λ_=>⟨λ_=>trivial,λ_=>trivial,λ_=>trivial,λ_=>trivial,λ_=>trivial⟩) _
    obtain⟨rc,l2⟩:=znN hf (by omega);simp only[h6,jq,l1,jj,hx,l2];rw[Zu (by omega) (by omega),jj,Zu (by omega) (by omega)];simp only[jj,wk]
    exact⟨(_,_),rfl,by simp;omega,by simp;omega,λh=>⟨by grind,λj hj c' hc=>by
     have hxl:=(x4 h).1
     grind⟩⟩
   ·simp only[h6,jp,jj,wk]
    exact⟨(cs,rcs),rfl,by grind,by grind,λh=>absurd (h _ (gc hi)).1 h6⟩)
  (λx hx=>by
   unfold q54;simp only[jl]
   rw[jx (by simp only[zf];omega)])
  (a:=(O [] K,O [] K)) ⟨by simp,by simp,λ_=>⟨rfl,λj _ c hc=>by cases hc⟩⟩
 have q:lpO (q54 q3f q6d q2s q85 q45 q5b q2j) (e,n.K_,n.K_.len,0,L,rN n,fns,S.1,S.2,O [] K,O [] K)=_:=q;rw[q];simp only[jj];have G:e=0->Sl.len fns=Sl.len cs->Sl.len S.2=Sl.len fns->CliG L n.K_.xs ⟨fns,cs,S.2,rcs⟩:=by
  intro he h1 h2;rcases hf with⟨h,_⟩ | ⟨_,hF,hO,hD⟩
  ·grind
  have kg:∀k∈n.K_.xs,FnG k:=λk hk=>by
   obtain⟨i,hi,rfl⟩:=qo hk;exact(hF.2 i hi).g
  obtain⟨j5,j6⟩:=j4 kg;have hF1:=hF.1;simp only[zf] at h1 h2 j2;refine⟨by omega,hF,j5,by grind,by grind,λi c f hc hf=>?_,by grind,by rw[ty];exact hsg,hs⟩;obtain⟨hi',_⟩:=UC.1 hf;have hi:i < n.K_.xs.length:=by grind
  have hz:=ZX (gc hi);have kx:∀m,KnX ((L.s_,mkS t,0,(i:Int)),fns) m->0<=idP m f.V_.xs:=λm hm=>by
   obtain⟨f',⟨j,hj,hf'⟩,h⟩:=hm;grind
  obtain⟨c',e1,e2,e3⟩:=zpG (Q:=QVm L.s_ fns f) (kg _ (gc hi)) (by omega) (.inl rfl) λb hb h9=>(hD i hi b hb h9).mono λm hm=>⟨λc=>(hm.q c).imp id (kx _),hm.y,λc=>kx _ (hm.s c),hm.c,hm.f⟩
  grind
 by_cases c1:e=0<;>by_cases c2:S.1.2.2.2=0<;>by_cases c3:Sl.len fns=Sl.len cs<;>
 ·simp only[c1,c2,c3,jq,jp,jj];exact⟨_,_,_,rfl,λh=>by first | exact⟨_,G c1 c3 (by grind)⟩ | cases h⟩
structure FuncG(x:ql):Prop where
 c:zjs (QVm x.G_ x.f_ x.F_) x.c_.L_.xs
 o:OkS x.W_ x.f_
 f:x.F_∈x.f_.xs
 s:∀g∈x.G_.xs,zd2 x.W_.xs g
 sl:x.G_.xs.length<=50000
 fl:x.f_.xs.length<=50000
 pr:0<=x.F_.P_/\x.F_.P_<=x.F_.V_.xs.length
 l:x.c_.L_.xs.length<=40000
 v:x.F_.V_.xs.length<=60000
theorem zuv(x:U0×U0):∃b fs rs,q2t x=D (b,fs,rs)/\(b=E->fs.xs.length<=40000/\∀x∈fs.xs,FuncG x):=by
 obtain⟨L,C,b,h,hb⟩:=zsf x;unfold q2t q8y;rw[h,jj];cases b with
 |false=>exact⟨_,_,_,rfl,λh=>by cases h⟩
 |true=>
 obtain⟨ks,X,hF,N,G,w,I,u,z,d⟩:=hb rfl;simp only[Do,jk,jp];have f1:=hF.1
 obtain⟨⟨fs,rs⟩,q,Y,_,o⟩:=go (f:=q5k q3u) (n:=ks.length) (A:=Sl ql×Sl q18)
  (st:=λi x=>(C.J_.len,(i:Int),L,C,x.1,x.2)) (fin:=λx=>(x.1,x.2)) (J:=λi x=>x.1.xs.length=i/\x.2.xs.length=i/\∀y∈x.1.xs,FuncG y)
  (λi hi x e=>by
   obtain⟨fs,rs⟩:=x;obtain⟨j,g,m⟩:=e;simp only at j g m;unfold q5k;simp only[jl];rw[jv jA,ze Zc,jj,ze Zc,jj,Zu Zc Zc,jj,ze Zc,jj,ze Zc,jj,Zu Zc Zc,jj,zu Zc];refine⟨(_,_),rfl,by simp[j],by simp[g],λy c=>?_⟩;rcases U5.1 c with c | c
   ·exact m y c
   rw[Dz] at c;subst c;obtain⟨B,g2⟩:=I i _ _ (UJ Zc) (UJ Zc);refine⟨g2,u,gc _,z,d,jE,by have h1:=(hF.2 i hi).p;have h2:=(hF.2 i hi).v;grind,B,?_⟩;have Q:=(hF.2 i hi).v;have T:=(hF.2 i hi).l
   grind)
  (λx e=>by
   unfold q5k;simp only[jl]
   rw[jx jA])
  (a:=(O [] K,O [] K)) ⟨je,je,je⟩
 have q:lpO (q5k q3u) (C.J_.len,0,L,C,O [] K,O [] K)=_:=q;rw[q];exact⟨_,_,_,rfl,λ_=>⟨Zc,o⟩⟩
theorem zi0{β:Type}[DecidableEq α](k c:α)(z v:β)(l:List (α×β)):ZB k z (yA c v l)=if c=k then v else ZB k z l:=by
 unfold ZB
 induction l with
 |nil=>by_cases h:c=k<;>simp[yA,ym,h]
 |cons a l d=>
  obtain⟨a,u⟩:=a;unfold yA;by_cases h:a=c<;>by_cases h2:a=k<;>grind[ym]
abbrev MF:=ql
theorem zbx{x:MF}{i:Nat}(hi:i < x.c_.L_.xs.length):q1u (x,(i:Int))=D (x.c_.L_.xs[i],E):=by
 unfold q1u qbn;simp only[jl];rw[jx Zc];simp only[jj,zf];rw[jx ji,ze hi];rfl
section
variable {x:MF}(H:FuncG x){i:Nat}(hi:i < x.c_.L_.xs.length)
include H hi
theorem zsg:∃l,q1o (x,(i:Int))=D l/\l.xs.length<=2/\∀k∈l.xs,∃j:Nat,k=(j:Int)/\j < x.c_.L_.xs.length:=by
 have p:=zbx hi;obtain⟨d,e,z,m,o⟩:=H.c;have B:=H.l;have G:=H.v;have C:x.c_.L_.xs.length=d.length+1:=by rw[z];simp
 have g:=(o _ (gc hi)).t;have u:i=d.length->x.c_.L_.xs[i].O_=14:=λh=>by
  grind
 generalize x.c_.L_.xs[i]=n at *
 unfold q1o qc8;simp only[p,jj,Do,jk,jp,jl];by_cases c:n.O_=14
 ·simp only[c,jq,jj,jo];grind
 have q:i < d.length:=by
  grind
 have w:U4 ((i:Int)+1)=((i+1:Nat):Int):=zu Zc;have two:∀k:Int,k=n.H_\/k=((i+1:Nat):Int)->∃j:Nat,k=(j:Int)/\j < x.c_.L_.xs.length:=by
  rintro k (rfl | rfl)
  ·exact⟨n.H_.toNat,Zc,Zc⟩
  ·exact⟨i+1,rfl,Zc⟩
 rw[jx c];simp only[jj];by_cases c2:n.O_=15
 ·simp only[c2,js,jq,jj,jo];grind
 simp only[c2,jr,jp,jk,w];by_cases c3:n.O_=11
 ·simp only[c3,jq,jj,jo];exact⟨_,rfl,je,λk f=>two k (.inl (Dz.1 f))⟩
 rw[jx c3];by_cases c4:n.O_=10
 ·rw[jv c4];simp only[jj];by_cases c5:n.H_≠((i+1:Nat):Int)
  ·simp only[gm c5,jq,jj,jo];grind
  ·simp only[decide_eq_false c5,jk,jp,jj,jm,w];grind
 ·rw[jx c4];simp only[jj,jk,jp,jm,w];grind
theorem znS:∃y,q1v (x,(i:Int))=D y/\(0<=y->∃v:Nat,y=(v:Int)/\v < x.F_.V_.xs.length):=by
 have e:=zbx hi;have g:=H.v;generalize x.c_.L_.xs[i]=n at *
 unfold q1v qbo;simp only[e,jj,jq,jl];have c:∀b:Bool,∃y,((D (b,x,n)).bind λd:Bool×MF×CIx=>if d.1=E then(q1s (d.2.1.F_,d.2.2.X_)).bind λf=>D f else D (-1))=D y/\(0<=y->∃v:Nat,y=(v:Int)/\v < x.F_.V_.xs.length):=by
  intro b;cases b
  ·exact⟨-1,rfl,λh=>Zc⟩
  ·refine⟨idP n.X_ x.F_.V_.xs,?_,λh=>⟨_,(DF h).symm,?_⟩⟩
   ·simp only[jj,jq];rw[wY _ _ Zc];rfl
   ·have:idP n.X_ x.F_.V_.xs < x.F_.V_.xs.length:=yE.2.1;omega
 split
 ·exact c E
 split
 ·exact c _
 ·exact c K
def nmO(n:CIx):List U0:=((n.A_::n.B_::n.Q_.xs).map qz.N_).filter λs=>decide (s≠lit [])
theorem zxJ:∃l,q9h x.c_.L_.xs[i]=D l/\l.xs=nmO x.c_.L_.xs[i]/\l.xs.length<=60000/\∀y∈l.xs,0<=idP y x.F_.V_.xs:=by
 unfold nmO;obtain⟨X,e,he,z,N⟩:=H.c;have p:=H.l;have Y:=H.v;have g:=N _ (gc hi);generalize x.c_.L_.xs[i]=n at *
 have G:¬ (5<=n.O_/\n.O_<=9):=λh=>g.y h.1 h.2
 have gl:=g.l.1;generalize u:n.A_::n.B_::n.Q_.xs=T;have Q:T.length=n.Q_.xs.length+2:=jE
 have I:∀t∈T,t.N_=lit []\/0<=idP t.N_ x.F_.V_.xs:=by
  intro t d;rw[<- u] at d;rcases Db.1 d with rfl | d
  ·exact g.a
  rcases Db.1 d with rfl | d
  ·exact g.b
  ·exact g.l.2 t d
 obtain⟨l,e,l1,l2⟩:=go (f:=qby) (n:=T.length) (A:=Sl U0) (st:=λj a=>((T.length:Int),(j:Int),a,(⟨T,E⟩:Sl qz))) (fin:=λa=>a)
  (J:=λm l=>l.xs.length<=m/\l.xs=((T.take m).map qz.N_).filter λs=>decide (s≠lit []))
  (λj w l p=>by
   obtain⟨B,q⟩:=p;have wk:=zu (Zc:j < 1000000000);rw[<- DG w,DA,qA,<- q];unfold qby;simp only[jl];rw[jv Zc,ze (s:=⟨T,E⟩) w,jj,jj];by_cases c:T[j].N_=lit []
   ·grind
   ·simp only[c,Dj,ju,jq];rw[Zu Zc Zc]
    grind)
  (λl p=>by
   unfold qby
   grind)
  (a:=O [] K) ⟨je,je⟩
 rw[Dt] at l2;refine⟨l,?_,l2,Zc,λy C=>?_⟩
 rotate_left
 ·rw[l2,D7] at C;grind
 unfold q9h qfu;have o:∀k:Int,5<=k->k<=9->¬ n.O_=k:=λk h1 h2 h=>G Zc
 simp only[o 5 Zc Zc,o 6 Zc Zc,o 7 Zc Zc,o 8 Zc Zc,o 9 Zc Zc,jr,jk,jp,jj];have L:zo 24 (O [n.A_,n.B_] E) n.Q_.xs=D ⟨T,E⟩:=by
  have hm:(2+n.Q_.xs.length) * 24<=60000 * 24:=qk Zc (UK _);rw[yy ji ji,<- u];simp
 have e:lpO qby ((T.length:Int),0,O [] K,(⟨T,E⟩:Sl qz))=_:=e;simp only[L,jj,zf,e]
def rdO(x:MF)(n:CIx):List Int:=(nmO n).map λs=>idP s x.F_.V_.xs
theorem zig:∃l,q1j (x,(i:Int))=D l/\l.xs=rdO x x.c_.L_.xs[i]/\l.xs.length<=60000/\∀y∈l.xs,∃v:Nat,y=(v:Int)/\v < x.F_.V_.xs.length:=by
 obtain⟨N,q,z,C,u⟩:=zxJ H hi;have B:=zbx hi;have I:=H.v;unfold rdO;rw[<- z];generalize x.c_.L_.xs[i]=n at *
 obtain⟨l,e,G,l2⟩:=go (f:=q6w q1u q9h q1s) (n:=N.xs.length) (A:=Sl Int) (st:=λj a=>(N.len,(j:Int),x,a,N)) (fin:=λa=>a)
  (J:=λm l=>l.xs.length<=m/\l.xs=(N.xs.take m).map λs=>idP s x.F_.V_.xs)
  (λj g l d=>by
   obtain⟨w,c⟩:=d;have p:=zu (Zc:j < 1000000000);unfold q6w;simp only[jl];rw[jv jA,ze g,jj,jj,wY _ _ Zc,jj,Zu Zc Zc,jj,p]
   exact⟨_,rfl,ji,by rw[<- DG g,DA,<- c];rfl⟩)
  (λl d=>by
   unfold q6w;simp only[jl]
   rw[jx jA])
  (a:=O [] K) ⟨je,je⟩
 rw[Dt] at l2;refine⟨l,?_,l2,Zc,λy o=>?_⟩
 rotate_left
 ·rw[l2] at o;obtain⟨s,hs,rfl⟩:=D4.1 o;have h1:=u s hs;have h2:idP s x.F_.V_.xs < x.F_.V_.xs.length:=yE.2.1;exact⟨_,(DF h1).symm,Zc⟩
 unfold q1j qbp;simp only[B,q,jj,jq];rw[show lpO (q6w q1u q9h q1s) (N.len,0,x,O [] K,N)=_ from e];rfl
end
theorem znT{x:MF}{p:PP}(h:OkO x.W_.xs p):∃b,q65 (x,p)=D b/\(b=E->p.M_=2):=by
 unfold q65 qe9;simp only[jl];by_cases c:p.M_=2
 ·obtain⟨h0,h1⟩:=h c;obtain⟨k,d⟩:∃k:Nat,p.t_=(k:Int):=⟨_,(DF h0).symm⟩
  rw[d] at h1;rw[jv c,d,ze Zc];exact⟨_,rfl,λ_=>c⟩
 ·rw[jx c];exact⟨_,rfl,λh=>by cases h⟩
theorem zzl(c:Sl PSg)(n:CIx)(h:c.xs.length<=50000):qc9 (c,n)=D (idx (λx=>decide (x.N_=n.Y_)) c.xs,n):=by
 have:=wh (f:=q8j qae) (xs:=c.xs) (p:=λx=>decide (x.N_=n.Y_)) (st:=λi=>(c,c.len,(i:Int),n)) (yes:=λi =>.inl ((i:Int),n)) (no :=.inr n)
  (λi hi=>by
   unfold q8j;simp only[jl];rw[jv jA,ze hi,jj];show((D (decide (c.xs[i].N_=n.Y_),n)).bind _)=_;simp only[jj,zu (Zc:i < 1000000000)]
   grind)
  (by unfold q8j;simp only[jl];rw[jx jA])
 unfold qc9 qea;have this:lpO (q8j qae) (c,c.len,0,n)=_:=this;rw[this];unfold idx;cases c.xs.findIdx? _<;>rfl
theorem zAH(c:Sl PNf)(n:CIx)(h:c.xs.length<=50000):qca (c,n)=D (idx (λx=>decide (x.N_=n.Y_)) c.xs,n):=by
 have:=wh (f:=q8k qaf) (xs:=c.xs) (p:=λx=>decide (x.N_=n.Y_)) (st:=λi=>(c,c.len,(i:Int),n)) (yes:=λi =>.inl ((i:Int),n)) (no :=.inr n)
  (λi hi=>by
   unfold q8k;simp only[jl];rw[jv jA,ze hi,jj];show((D (decide (c.xs[i].N_=n.Y_),n)).bind _)=_;simp only[jj,zu (Zc:i < 1000000000)]
   grind)
  (by unfold q8k;simp only[jl];rw[jx jA])
 unfold qca qeb;have this:lpO (q8k qaf) (c,c.len,0,n)=_:=this;rw[this];unfold idx;cases c.xs.findIdx? _<;>rfl
section
variable {x:MF}(H:FuncG x){i:Nat}(hi:i < x.c_.L_.xs.length)
include H hi
theorem zuw:∃a b c d,q66 (x,(i:Int))=D (a,b,c,d)/\(d=E->c∈rdO x x.c_.L_.xs[i]/\∃v:Nat,c=(v:Int)/\x.F_.V_.xs[v]?=D b):=by
 have z:=zbx hi;have I:=H.v;obtain⟨C,e,G,p,u⟩:=H.c;have g:=u _ (gc hi);generalize x.c_.L_.xs[i]=n at *
 have j:∀s,0<=idP s x.F_.V_.xs->∃(v:Nat) (h:v < x.F_.V_.xs.length),idP s x.F_.V_.xs=(v:Int):=λs hs=>by
  have h2:idP s x.F_.V_.xs < x.F_.V_.xs.length:=yE.2.1;exact⟨(idP s x.F_.V_.xs).toNat,Zc,Zc⟩
 unfold q66 qec;simp only[z,jj,Do,jk,jp,jl];by_cases c0:n.O_=0
 rotate_left
 ·rw[jv c0];exact⟨_,_,_,_,rfl,λh=>by cases h⟩
 rw[jx (by simp[c0])];by_cases c1:n.A_.N_=lit []
 ·rw[jv c1];exact⟨_,_,_,_,rfl,λh=>by cases h⟩
 rw[jx c1];by_cases c2:n.A_.n_≠0
 ·simp only[gm c2,jj,jq];grind
 have B:0<=idP n.A_.N_ x.F_.V_.xs:=(show _\/_ from g.a).resolve_left c1;obtain⟨v,f,o⟩:=j _ B;obtain⟨w,m,q⟩:=j _ (show 0<=idP n.X_ x.F_.V_.xs from g.x c0);simp only[decide_eq_false c2,jj,jk,jp];rw[wY _ _ Zc,jj,o,ze f,jj,wY _ _ Zc,jj,q,ze m];exact⟨_,_,_,_,rfl,λ_=>⟨D4.2 ⟨n.A_.N_,D7.2 ⟨je,by simpa using c1⟩,o⟩,v,rfl,UJ f⟩⟩
theorem zux:∃ps,q4l (x,x.c_.L_.xs[i])=D ps/\ps.xs.length<=50000/\∀(k:Nat) (p:PP),ps.xs[k]?=D p->OkO x.W_.xs p/\∃t,x.c_.L_.xs[i].Q_.xs[k]?=D t/\(p.M_=2->t.N_≠lit []):=by
 obtain⟨G,e,N,w,B⟩:=H.c;have g:=B _ (gc hi);generalize x.c_.L_.xs[i]=n at *
 have key:∀{l:List PP},(∀p∈l,OkO x.W_.xs p)->l.length=(n.Q_.xs.map qz.N_).length->Fit (n.Q_.xs.map qz.N_) l->∀(k:Nat) (p:PP),l[k]?=D p->OkO x.W_.xs p/\∃t,n.Q_.xs[k]?=D t/\(p.M_=2->t.N_≠lit []):=by
  intro l v I z k p hp;obtain⟨d,e⟩:=UC.1 hp;have m:k < n.Q_.xs.length:=jE
  exact⟨v p (UT hp),_,UJ m,z k _ p jE hp⟩
 have none:∀(k:Nat) (p:PP),([]:List PP)[k]?=D p->OkO x.W_.xs p/\∃t,n.Q_.xs[k]?=D t/\(p.M_=2->t.N_≠lit []):=λk p h=>by simp at h
 have gl:=g.l.1;unfold q4l qdo;simp only[jl];by_cases c0:n.O_=12
 ·obtain⟨k,s,h1,h2,q,j⟩:zpI x.G_.xs n.Y_ (n.Q_.xs.map qz.N_):=g.c c0;obtain⟨d,rfl⟩:=UC.1 h2;rw[jv c0,zzl _ _ H.sl];simp only[jj,h1];rw[jv Zc,ze d];exact⟨_,rfl,jE,key (H.s _ (gc d)).2 q.symm j⟩
 rw[jx c0];by_cases c1:n.O_=13
 ·obtain⟨k,f,h1,h2,q,j,L⟩:zfS x.f_.xs n.Y_ (n.Q_.xs.map qz.N_):=g.f c1;obtain⟨d,rfl⟩:=UC.1 h2;rw[jv c1,zAH _ _ H.fl];simp only[jj,h1];rw[jv Zc,ze d,jj,jj,Ys Zc Zc j];have u:(x.f_.xs[k].P_).toNat=(n.Q_.xs.map qz.N_).length:=Zc
  simp only[jj,jo,u];have C:(n.Q_.xs.map qz.N_).length<=x.f_.xs[k].V_.xs.length:=Zc
  refine⟨_,rfl,?_,key (λp hp=>H.o _ (gc d) p (qy (by simpa using hp))) ?_ ?_⟩
  all_goals grind
 ·rw[jx c1];exact⟨_,rfl,je,none⟩
theorem zxK:∃l,q24 (x,(i:Int))=D l/\l.xs.length<=50000/\l.xs.Sublist (rdO x x.c_.L_.xs[i]):=by
 obtain⟨a,b,c,d,ep,hp⟩:=zuw H hi;obtain⟨ps,es,pl,w⟩:=zux H hi;have hI:=zbx hi;have hv:=H.v;have B:∀p∈x.F_.V_.xs,OkO x.W_.xs p:=H.o _ H.f
 generalize x.c_.L_.xs[i]=n at *
 unfold q24 qed;simp only[ep,jj,jl];cases d with
 |true=>
  obtain⟨z,v,rfl,C⟩:=hp rfl;obtain⟨m,I,_⟩:=znT (x:=x) (B b (UT C));simp only[jq,I,jj];by_cases c1:a.M_=b.M_
  ·rw[jv c1];have g:∀q:Bool,∃l,(((D ((v:Int),q)).bind λN:Int×Bool=>if N.2=E then D (Sum.inl (O [N.1] E)) else D (Sum.inl (O [] K)):U3 (Sl Int⊕Int×MF)).bind λy3=>Sum.elim (λy4:Sl Int=>D y4) (λu:Int×MF=>(q1u (u.2,u.1)).bind λX:CIx×Bool=>(q4l (u.2,X.1)).bind λQ:Sl PP=>(lpO (q6x q66 q65 q1u q4l q1s) (Q,Q.len,0,u.2,X.1,O [] K)).bind λG:Sl Int=>D G) y3)=D l/\l.xs.length<=50000/\l.xs.Sublist (rdO x n):=by
    intro q;cases q
    ·exact⟨_,rfl,je,je⟩
    ·exact⟨_,rfl,je,List.singleton_sublist.2 z⟩
   cases m
   ·exact g _
   ·exact g E
  ·rw[jx c1];exact⟨_,rfl,je,je⟩
 |false=>
  simp only[jk,jp,jj,jm,hI,es]
  obtain⟨l,e,l1,l2⟩:=go (f:=q6x q66 q65 q1u q4l q1s) (n:=ps.xs.length) (A:=Sl Int) (st:=λk a=>(ps,ps.len,(k:Int),x,n,a)) (fin:=λa=>a) (J:=λk a=>a.xs.length<=k/\a.xs.Sublist ((((n.Q_.xs.take k).map qz.N_).filter λs=>decide (s≠lit [])).map λs=>idP s x.F_.V_.xs))
   (λk T l L=>by
    obtain⟨hl1,hl2⟩:=L;have wk:=zu (Zc:k < 1000000000);obtain⟨Y,t,z,hm⟩:=w k _ (UJ T);obtain⟨m,I,hm2⟩:=znT (x:=x) Y;obtain⟨j,rfl⟩:=UC.1 z;unfold q6x;simp only[jl];rw[jv jA,ze T];simp only[jj,I];rw[<- DG j,DA,qA,DA];cases m
    ·simp only[jk,jp,jj,wk];grind
    ·simp only[jq,ze j,jj];rw[wY _ _ Zc,jj,Zu Zc Zc]
     grind)
   (λl L=>by
    unfold q6x;simp only[jl]
    rw[jx jA])
   (a:=O [] K) ⟨je,je⟩
  rw[show lpO (q6x q66 q65 q1u q4l q1s) (ps,ps.len,0,x,n,O [] K)=_ from e];refine⟨l,rfl,Zc,l2.trans ?_⟩;exact(((((List.take_sublist _ _).map _).trans ((qx _ _).trans (qx _ _))).filter _).map _)
end
abbrev MpQ:=U0×Sl (Int×Bool)
def wj(c l:Sl Int):Prop:=c.xs.Perm l.xs
theorem wj.len(h:wj a b):a.xs.length=b.xs.length:=List.Perm.length_eq h
theorem wj.mem(h:wj a b){x:Int}:x∈a.xs↔x∈b.xs:=List.Perm.mem_iff h
theorem wj.trans{c:Sl Int}(h:wj a b)(g:wj b c):wj a c:=List.Perm.trans h g
theorem wj.rfl:wj l l:=List.Perm.refl _
theorem zmm{s:Int}{m:MpQ}{i:Nat}(hi:i < l.xs.length)(c:k < l.xs.length):∃d,q22 ((i:Int),(k:Int),s,l,m)=D (s,d,m)/\wj d l:=by
 unfold q22 qcb;simp only[ze hi,ze c,jj];rw[ze (by simpa[Sl.set] using c)];exact⟨_,qc _,List.set_set_perm hi c⟩
theorem zmn{s:Int}{m:MpQ}{i:Nat}(hi:i < l.xs.length)(c:k < l.xs.length):∃b,q2g ((i:Int),(k:Int),s,l,m)=D (b,s,l,m):=by
 unfold q2g qcc;simp only[ze hi,ze c,jj];grind
theorem zBf{s:Int}{m:MpQ}:∀(j:Nat) (l:Sl Int),j < l.xs.length->l.xs.length<=1000000000000->∃f,lpO (q6l q2g q22) ((j:Int),s,l,m)=D (s,f,m)/\wj f l:=by
 intro j
 induction j using Nat.strongRecOn with
 |ind j p=>
  intro l g u;have hw:U4 ((U4 ((j:Int) - 1)).tdiv 2)=(((j - 1) / 2:Nat):Int):=by
   rw[zE (n:=(j:Int) - 1) Zc Zc];cases j with
   |zero=>rfl
   |succ j=>
    rw[(Zc:((j+1:Nat):Int) - 1=(j:Int)),Int.tdiv_eq_ediv_of_nonneg Zc,zE Zc Zc];omega
  have hs:∀X,q6l q2g q22 ((j:Int),s,l,m)=X->X=D (.done (s,l,m))\/∃d,j≠0/\X=D (.next ((((j - 1) / 2:Nat):Int),s,d,m))/\wj d l:=by
   intro X o;subst o;unfold q6l;simp only[hw,jl];by_cases c:(((j - 1) / 2:Nat):Int)=(j:Int)
   ·grind
   ·obtain⟨b,e⟩:=zmn (s:=s) (m:=m) g (Zc:(j - 1) / 2 < l.xs.length);obtain⟨d,v,q⟩:=zmm (s:=s) (m:=m) (Zc:(j - 1) / 2 < l.xs.length) g;rw[jx c,e];grind
  rcases hs _ (qc _) with h | ⟨d,h0,h,q⟩
  ·exact⟨l,zw h,.rfl⟩
  ·obtain⟨f,e,q'⟩:=p ((j - 1) / 2) Zc d (by rw[q.len];omega) (by rw[q.len];exact u);exact⟨f,by rw[zA h,e],q'.trans q⟩
theorem zzm{s i0:Int}{m:MpQ}{n:Nat}:∀(d i:Nat) (l:Sl Int),n<=i+d->n<=l.xs.length->l.xs.length<=1000000000000->i<=1000000000000->∃a p,lpO (q4i q2g q22) (i0,(n:Int),(i:Int),s,l,m)=D (i0,a,s,p,m)/\wj p l:=by
 intro d
 induction d with
 |zero=>
  intro i l hn o B hi;refine⟨i,l,zw ?_,.rfl⟩;unfold q4i;simp only[jl];rw[zE (n:=2 * (i:Int)) Zc Zc,zE Zc Zc,jv Zc];rfl
 |succ d L=>
  intro i l hn o B hi;have hs:∀X,q4i q2g q22 (i0,(n:Int),(i:Int),s,l,m)=X->(X=D (.done (i0,(i:Int),s,l,m)))\/∃(j:Nat) (g:Sl Int),i < j/\j < n/\X=D (.next (i0,(n:Int),(j:Int),s,g,m))/\wj g l:=by
   intro X I;subst I;unfold q4i;simp only[jl];rw[zE (n:=2 * (i:Int)) Zc Zc,zE (n:=2 * (i:Int)+1) Zc Zc];by_cases c:(n:Int)<=2 * (i:Int)+1
   ·grind
   rw[jx c];have N:decide (2 * (i:Int)+1 < 0)=false:=decide_eq_false Zc;have T:U4 (2 * (i:Int)+1+1)=((2 * i+2:Nat):Int):=by rw[zE Zc Zc];omega
   have C:(2 * (i:Int)+1)=((2 * i+1:Nat):Int):=Zc
   simp only[N,jj,jk,jp,T]
   have f:∀j:Nat,i < j->j < n->∀Y,((q2g ((j:Int),(i:Int),s,l,m)).bind λz:Bool×Int×Sl Int×U0×Sl (Int×Bool)=>if(!z.1)=E then D (Sum.inl (i0,(i:Int),z.2)) else(q22 ((i:Int),(j:Int),z.2)).bind λQ:Int×Sl Int×U0×Sl (Int×Bool)=>D (Sum.inr (i0,(n:Int),(j:Int),Q)))=Y->
       ((Y.bind λu=>Sum.elim (λv=>D (Step.done v)) (λw=>D (Step.next w)) u)=D (.done (i0,(i:Int),s,l,m)))\/∃(j:Nat) (g:Sl Int),i < j/\j < n/\(Y.bind λu=>Sum.elim (λv=>D (Step.done v)) (λw=>D (Step.next w)) u)=D (.next (i0,(n:Int),(j:Int),s,g,m))/\wj g l:=by
    intro j h1 h2 Y G;subst G;obtain⟨b,e⟩:=zmn (s:=s) (m:=m) (Zc:j < l.xs.length) (Zc:i < l.xs.length);obtain⟨g,e1,q⟩:=zmm (s:=s) (m:=m) (Zc:i < l.xs.length) (Zc:j < l.xs.length);rw[e];grind
   by_cases c2:((2 * i+2:Nat):Int) < (n:Int)
   · obtain⟨b,e⟩:=zmn (s:=s) (m:=m) (Zc:2 * i+2 < l.xs.length) (Zc:2 * i+1 < l.xs.length);rw[jv c2,C,e];cases b
     ·simp only[jj,jk,jp];exact f (2 * i+1) Zc Zc _ (qc _)
     ·simp only[jj,jq];exact f (2 * i+2) Zc Zc _ (qc _)
   ·rw[jx c2,C];simp only[jj,jk,jp];exact f (2 * i+1) Zc Zc _ (qc _)
  rcases hs _ (qc _) with h | ⟨j,g,h0,h1,h,q⟩
  ·exact⟨i,l,zw h,.rfl⟩
  ·obtain⟨a,p,e,q'⟩:=L j g Zc (by rw[q.len];exact o) (by rw[q.len];exact B) Zc;exact⟨a,p,by rw[zA h,e],q'.trans q⟩
theorem zvv{s:Int}{m:MpQ}(h0:0 < l.xs.length)(w:l.xs.length<=1000000000000):∃x e,q1q (s,l,m)=D (x,s,m,e)/\x∈l.xs/\e.xs.length+1=l.xs.length/\(∀y∈e.xs,y∈l.xs)/\∀y∈l.xs,y=x\/y∈e.xs:=by
 obtain⟨n,p⟩:∃n,l.xs.length=n+1:=⟨l.xs.length - 1,Zc⟩
 have hw:∀k:Nat,k=n+1->U4 ((k:Int) - 1)=(n:Int):=λk z=>by rw[zE Zc Zc];omega
 obtain⟨o,g,f⟩:=zmm (s:=s) (m:=m) (l:=l) (i:=0) (k:=n) Zc Zc;obtain⟨a,l2,j,u⟩:=zzm (s:=s) (m:=m) (i0:=0) (n:=n) n 0 o Zc (by rw[f.len];omega) (by rw[f.len];omega) Zc;have q:=u.trans f;have c:n < l2.xs.length:=by rw[q.len];omega
 have g:q22 (0,(n:Int),s,l,m)=_:=g;have j:lpO (q4i q2g q22) (0,(n:Int),0,s,o,m)=_:=j;have w1:=hw _ p;have v:=hw _ (q.len.trans p);unfold q1q qag q1g q3h q7l q8z qbf qcy;simp only[jj,zf,w1,g,j,v,ze c];rw[Ys Zc Zc Zc];refine⟨_,_,qc _,q.mem.1 (gc c),?_,λy d=>q.mem.1 (qy d),λy d=>?_⟩
 ·simp;omega
 ·have d:=q.mem.2 d;rw[<- List.take_append_drop n l2.xs,Dq c,U6 (show l2.xs.length<=n+1 by rw[q.len];omega)] at d;grind
theorem zuy(k:Int)(v:Bool)(l:List (Int×Bool)):(yA k v l).map qb=if k∈l.map qb then l.map qb else l.map qb++[k]:=by
 induction l with
 |nil=>simp[yA]
 |cons a l e=>
  obtain⟨a,u⟩:=a;unfold yA;by_cases c:a=k
  ·subst c;simp
  ·rw[jx c,UF,e];by_cases d:k∈l.map qb
   ·grind
   grind
theorem zmo(k:Int):∀l:List (Int×Bool),(yB k l).Sublist l
 |[] =>.slnil
 |(a,u)::l=>by
  unfold yB;split
  ·grind
  ·exact(zmo k l).cons_cons _
theorem zpO{k:Int}{l:List (Int×Bool)}(h:k ∉ l.map qb):ZB k K l=false:=by
 unfold ZB
 induction l with
 |nil=>rfl
 |cons a l c=>
  obtain⟨a,u⟩:=a;simp only[UF,Db,not_or] at h;unfold ym;grind
theorem zsh{k d:Int}{l:List (Int×Bool)}(f:(l.map qb).Nodup)(h:ZB k K (yB d l)=E):ZB k K l=E/\k≠d:=by
 induction l with
 |nil=>simp[yB,ZB,ym] at h
 |cons a l m=>
  obtain⟨a,u⟩:=a;simp only[UF,UE] at f;unfold yB at h;by_cases c:a=d
  ·rw[jv c] at h;subst c;have g:k≠a:=λe=>by subst e;rw[zpO f.1] at h;cases h
   refine⟨?_,g⟩;unfold ZB ym;rw[jx (λe=>g e.symm)];exact h
  ·rw[jx c] at h;by_cases c2:a=k
   ·subst c2;unfold ZB ym at h |-
    grind
   ·have j:ZB k K (yB d l)=true:=by
     unfold ZB at h |-
     unfold ym at h;grind
    obtain⟨h1,h2⟩:=m f.2 j;refine⟨?_,h2⟩;unfold ZB ym;rw[jx c2];exact h1
def InQ(m:MpQ)(l:Sl Int):Prop:=(m.2.xs.map qb).Nodup/\∀k,ZB k K m.2.xs=E->k∈l.xs
theorem zsi{k:Int}{v:Bool}{l:List (Int×Bool)}(h:(l.map qb).Nodup):((yA k v l).map qb).Nodup:=by
 rw[zuy];split
 ·exact h
 ·rename_i c;rw[List.nodup_append];grind
theorem zg4{s n:Int}{m:MpQ}(v:l.xs.length < 1000000000000):∃p d,q1c (n,s,l,m)=D (s,p,d)/\d.xs.length<=l.xs.length+1/\(∀y∈d.xs,y=n\/y∈l.xs)/\(∀y∈l.xs,y∈d.xs)/\(InQ m l->InQ p d/\n∈d.xs):=by
 have u:zo 8 l [n]=D ⟨l.xs++[n],E⟩:=by rw[yy ji ji];simp
 obtain⟨d,e,q⟩:=zBf (s:=s) (m:=(m.1,⟨yA n E m.2.xs,E⟩)) l.xs.length ⟨l.xs++[n],E⟩ je ji;have hw:U4 ((((l.xs++[n]).length:Nat):Int) - 1)=(l.xs.length:Int):=by rw[jy,g9,zE Zc Zc];omega
 unfold q1c qcz q7m q90 qat qcd q1g q3h q8l qb6;by_cases c:(!ZB n K m.2.xs)=E
 ·simp only[c,jq,u,jj,zf,hw];rw[show lpO (q6l q2g q22) ((l.xs.length:Int),s,⟨l.xs++[n],E⟩,m.1,⟨yA n E m.2.xs,E⟩)=_ from e];have j:∀y,y∈d.xs↔y∈l.xs\/y=n:=λy=>by rw[q.mem];simp
  refine⟨_,d,qc _,by rw[q.len];simp,λy f=>((j y).1 f).symm,λy f=>(j y).2 (.inl f),λg=>⟨⟨zsi g.1,λk o=>?_⟩,(j n).2 (.inr (qc _))⟩⟩;simp only[zi0] at o;rw[j];by_cases e:n=k
  ·grind
  ·rw[jx e] at o;exact .inl (g.2 k o)
 ·simp only[c,jj];refine⟨_,l,qc _,Zc,λy f =>.inr f,λy f=>f,λg=>⟨g,g.2 n (by simpa using c)⟩⟩
abbrev RBo:=Sl (Sl Bool)
def On(r:Sl Bool)(y:Nat):Prop:=r.xs[y]?=D E
theorem zAI(h:On r y):y < r.xs.length:=(UC.1 h).1
theorem zg5{v:Nat}(h:On (r.set (v:Int) K) y):On r y/\y≠v:=by
 unfold On at *
 simp only[Sl.set,Z,UI] at h;grind
theorem zex{v:Nat}(h:On (r.set (v:Int) E) y):On r y\/y=v:=by
 unfold On at *
 simp only[Sl.set,Z,UI] at h;grind
theorem znU(h:r.nn=E)(c:r.xs.length<=60000):q2b r=D ⟨r.xs,E⟩:=by
 unfold q2b qb7;simp only[h,Do,jk,jp];rw[yy ji ji];simp
def Nl(n:Nat)(l:List Int):Prop:=∀k∈l,∃j:Nat,k=(j:Int)/\j < n
def Bh(x:MF)(i:Nat)(r:Sl Bool)(y:Nat):Prop:=q1v (x,(i:Int))=D (y:Int)\/(On r y/\∀T,q24 (x,(i:Int))=D T->(y:Int) ∉ T.xs)
section
variable {x:MF}(H:FuncG x){i:Nat}(hi:i < x.c_.L_.xs.length)
include H hi
theorem znV:∃T,q24 (x,(i:Int))=D T/\T.xs.length<=50000/\Nl x.F_.V_.xs.length T.xs:=by
 obtain⟨R,g,e,_,c⟩:=zig H hi;obtain⟨T,d,h1,h2⟩:=zxK H hi;exact⟨T,d,h1,λk f=>c k jE⟩
theorem zuz(B:r.nn=E)(w:r.xs.length=x.F_.V_.xs.length):∃o,q5r (x,(i:Int),r)=D o/\o.nn=E/\o.xs.length=x.F_.V_.xs.length/\∀y,On o y->Bh x i r y:=by
 have hV:=H.v;obtain⟨T,Q,T1,N⟩:=znV H hi;obtain⟨g,u,hG⟩:=znS H hi;unfold q5r qdp;simp only[znU B Zc,jj,Q,jl]
 obtain⟨o,e,I,L,q⟩:=go (f:=q7y q2b q24 q1v) (n:=T.xs.length) (A:=Sl Bool) (st:=λk a=>((i:Int),T.len,(k:Int),x,a,T)) (fin:=λa=>((i:Int),x,a)) (J:=λk a=>a.nn=E/\a.xs.length=x.F_.V_.xs.length/\∀y,On a y->On r y/\(y:Int) ∉ T.xs.take k)
  (λk m a p=>by
   obtain⟨z,a2,a3⟩:=p;have wk:=zu (Zc:k < 1000000000);obtain⟨v,Y,G⟩:=N _ (gc m);unfold q7y;simp only[jl];rw[jv jA,ze m];simp only[jj,Y,ze (s:=a) (Zc:v < _),wk];refine⟨_,rfl,z,by simp[Sl.set,a2],λy d=>?_⟩;obtain⟨h1,h2⟩:=zg5 d;obtain⟨C,h4⟩:=a3 y h1;refine⟨C,λX=>?_⟩;rw[<- DG m] at X
   grind)
  (λa p=>by
   unfold q7y;simp only[jl]
   rw[jx jA])
  (a:=⟨r.xs,E⟩) ⟨rfl,w,λy d=>⟨d,je⟩⟩
 rw[Dt] at q;rw[show lpO (q7y q2b q24 q1v) ((i:Int),T.len,0,x,⟨r.xs,E⟩,T)=_ from e];simp only[jj,u];have j:∀y,On o y->Bh x i r y:=λy d =>.inr ⟨(q y d).1,λT' h=>jE⟩
 by_cases c:0<=g
 ·obtain⟨v,rfl,G⟩:=hG c;rw[jv c,ze (s:=o) (Zc:v < _)];refine⟨_,rfl,I,by simp[Sl.set,L],λy d=>?_⟩;rcases zex d with h | rfl
  ·exact j y h
  ·exact .inl u
 grind
end
structure SG(n V:Nat)(S:RBo):Prop where
 l:S.xs.length=n
 r:∀r∈S.xs,r.nn=E->r.xs.length=V
def wt(V:Nat)(r:Sl Bool):Nat:=if r.nn=E then r.xs.count E else V+1
def Mz(V:Nat)(S:RBo):Nat:=(S.xs.map (wt V)).sum
theorem zsj{f:α->Nat}{v:α}:∀(l:List α) (k:Nat) (h:k < l.length),f v < f l[k]->((l.set k v).map f).sum < (l.map f).sum
 |a::l,0,_,e=>jE
 |a::l,k+1,h,e=>by
  have:=zsj l k (by simpa using h) (by simpa using e);grind
structure Came(S0 S:RBo)(l:Sl Int):Prop where
 n:S.xs.length=S0.xs.length
 g:∀(j:Nat) r0,S0.xs[j]?=D r0->∃r,S.xs[j]?=D r/\(r=r0\/(j:Int)∈l.xs)/\(r0.nn=E->r.nn=E/\∀y,On r y->On r0 y)
theorem Came.refl{S:RBo}:Came S S l:=⟨rfl,λj r h=>⟨r,h,.inl rfl,λh=>⟨h,λy c=>c⟩⟩⟩
theorem Came.trans{a b c:RBo}{d:Sl Int}(h:Came a b l)(g:Came b c d)(f:∀z∈l.xs,z∈d.xs):Came a c d:=⟨g.n.trans h.n,λj r0 h0=>by
 obtain⟨r,h1,h2,p⟩:=h.g j r0 h0;obtain⟨q,e,g2,o⟩:=g.g j r h1;refine⟨q,e,?_,λm=>?_⟩
 ·grind
 grind⟩
structure Wq(n V M:Nat)(S:RBo)(l:Sl Int)(m:MpQ):Prop where
 w:SG n V S
 q:InQ m l
 wl:∀z∈l.xs,∃(j:Nat) (r:Sl Bool),z=(j:Int)/\S.xs[j]?=D r/\r.nn=E
 wm:Mz V S+l.xs.length<=M
theorem Wq.put {n M:Nat}(hM:M < 1000000000000) {S:RBo}{m:MpQ}(h:Wq n V M S l m) (u:k < S.xs.length) (T:r.nn=E) (G:r.xs.length=V) (hw:wt V r < wt V S.xs[k]) (hd:S.xs[k].nn=E->∀y,On r y->On S.xs[k] y) {s:Int} :
    ∃f d,q1c ((k:Int),s,l,m)=D (s,f,d)/\Wq n V M (S.set (k:Int) r) d f/\(∀z∈l.xs,z∈d.xs)/\Came S (S.set (k:Int) r) d:=by
 have C:=h.wm;obtain⟨f,d,e,Q,L,B,I⟩:=zg4 (s:=s) (n:=(k:Int)) (l:=l) (m:=m) Zc;obtain⟨v,N⟩:=I h.q;have hs:Mz V (S.set (k:Int) r) < Mz V S:=by
  unfold Mz;simp only[Sl.set,Z];exact zsj _ k u hw
 refine⟨f,d,e,⟨⟨by simp[Sl.set,h.w.l],λq p g=>?_⟩,v,λz o=>?_,Zc⟩,B,by simp[Sl.set],λj r0 h0=>?_⟩
 · rcases D3 p with p | rfl
   ·exact h.w.r q p g
   ·exact G
 · simp only[Sl.set,Z];rcases L z o with rfl | o
   ·grind
   · obtain⟨j,q,rfl,h1,h2⟩:=h.wl z o;by_cases c:k=j
     ·grind
     grind
 · simp only[Sl.set,Z];by_cases c:k=j
   ·subst c;rw[UJ u] at h0;grind
   grind
noncomputable abbrev PL0:=q4v q5r q1o q2b q1c
noncomputable abbrev PL1:=q3x q5r q1o q2b q1c
theorem zuA:∀(l:List Bool) (y:Nat) (h:y < l.length),l[y]=E->(l.set y K).count E+1=l.count E
 |b::l,0,_,e=>jE
 |b::l,y+1,h,e=>by
  grind
theorem zzn {n M:Nat}(hM:M < 1000000000000) {x:MF}{S:RBo}{m:MpQ}(h:Wq n V M S l m) (hk:k < S.xs.length) (hn:S.xs[k].nn=E) {o:Sl Bool}(ol:o.xs.length=V) (hV:V<=60000) {s a b:Int}{X:Sl Int} :
    ∃L S' B,lpO PL0 ((k:Int),a,b,o.len,0,s,x,m,S,o,X,l)=D (a,b,s,x,L,S',o,X,B)/\Wq n V M S' B L/\(∀z∈l.xs,z∈B.xs)/\Came S S' B/\∃r,S'.xs[k]?=D r/\r.nn=E/\∀y,On r y->On o y:=by
 obtain⟨⟨L,S',B⟩,e,h1,h2,C,r,u,g,h6⟩:=go (f:=PL0) (n:=V) (A:=MpQ×RBo×Sl Int) (st:=λy z=>((k:Int),a,b,o.len,(y:Int),s,x,z.1,z.2.1,o,X,z.2.2)) (fin:=λz=>(a,b,s,x,z.1,z.2.1,o,X,z.2.2))
  (J:=λy z=>Wq n V M z.2.1 z.2.2 z.1/\(∀q∈l.xs,q∈z.2.2.xs)/\Came S z.2.1 z.2.2/\∃r,z.2.1.xs[k]?=D r/\r.nn=E/\∀p,p < y->On r p->On o p)
  (λy I z hz=>by
    obtain⟨m,S1,Y⟩:=z;obtain⟨h1,h2,C,r,u,g,h6⟩:=hz;simp only at h1 h2 C u;have Q:=zu (Zc:y < 1000000000);obtain⟨d,rfl⟩:=UC.1 u;have rl:=h1.w.r _ (gc d) g;have v:y < S1.xs[k].xs.length:=Zc
    have T:y < o.xs.length:=Zc
    show∃a',q4v _ _ _ _ _=_/\_
    unfold q4v;simp only[jl];rw[jv jA];simp only[ze d,ze v,ze T,jj];cases c1:S1.xs[k].xs[y]
    · simp only[jk,jp,jj,Q];refine⟨(m,S1,Y),rfl,h1,h2,C,_,u,g,λp j G=>?_⟩;by_cases c:p=y
      ·subst c;unfold On at G;grind
      grind
    simp only[jq,jj];cases c2:o.xs[y]
    · have hw:wt V (S1.xs[k].set (y:Int) K) < wt V S1.xs[k]:=by
        have:=zuA _ y v c1;unfold wt;simp only[Sl.set,Z,g,jq];omega
      obtain⟨m2,l2,e,g1,g2,g3⟩:=h1.put hM d (r:=S1.xs[k].set (y:Int) K) g (by simp[Sl.set,rl]) hw (λ_ p j=>(zg5 j).1) (s:=s);simp only[D6,jq,jj,ze d,ze v,e,Q];refine⟨(m2,_,l2),rfl,g1,λq N=>g2 q (h2 q N),C.trans g3 g2,S1.xs[k].set (y:Int) K,jE,g,λp j G=>?_⟩;obtain⟨G,hne⟩:=zg5 G;grind
    · simp only[Do,jk,jp,jj,Q];refine⟨(m,S1,Y),rfl,h1,h2,C,_,u,g,λp j G=>?_⟩;by_cases c:p=y
      ·subst c;unfold On;grind
      grind)
  (λz hz=>by
    show q4v _ _ _ _ _=_;unfold q4v;simp only[jl]
    rw[jx jA])
  (a:=(m,S,l)) ⟨h,λq N=>N,.refl,_,UJ hk,hn,λy I=>Zc⟩
 refine⟨L,S',B,e,h1,h2,C,r,u,g,λy I=>h6 y ?_ I⟩;obtain⟨d,rfl⟩:=UC.1 u;have:=h1.w.r _ (gc d) g;have:=zAI I;omega
def RlO(S:RBo)(o:Sl Bool)(ks:List Int):Prop:=∀k∈ks,∃(j:Nat) (r:Sl Bool),k=(j:Int)/\S.xs[j]?=D r/\r.nn=E/\∀y,On r y->On o y
theorem RlO.came{S S':RBo}{o:Sl Bool}{ks:List Int}(h:RlO S o ks)(g:Came S S' l):RlO S' o ks:=λk c=>by
 obtain⟨j,r,rfl,h1,h2,m⟩:=h k c;obtain⟨e,d,_,f⟩:=g.g j r h1;grind
theorem zxL {x:MF}(H:FuncG x) {i:Nat}(hi:i < x.c_.L_.xs.length) {M:Nat}(hM:M < 1000000000000) {S:RBo}{m:MpQ}(h:Wq x.c_.L_.xs.length x.F_.V_.xs.length M S l m) (hr:S.xs[i]?=D r) (hn:r.nn=E) {s:Int} :
    ∃m' S' C o X,q3g ((i:Int),s,x,l,m,S)=D (s,x,m',S',C)/\Wq x.c_.L_.xs.length x.F_.V_.xs.length M S' C m'/\(∀z∈l.xs,z∈C.xs)/\Came S S' C/\(∀y,On o y->Bh x i r y)/\q1o (x,(i:Int))=D X/\RlO S' o X.xs:=by
 have hV:=H.v;obtain⟨L,rfl⟩:=UC.1 hr;obtain⟨o,eo,on,ol,oB⟩:=zuz H hi hn (h.w.r _ (gc L) hn);obtain⟨X,eX,X1,X2⟩:=zsg H hi;unfold q3g qbg;simp only[ze L,jj,eo,eX]
 obtain⟨⟨m',S',C⟩,e,h1,h2,Q,N⟩:=go (f:=PL1) (n:=X.xs.length) (A:=MpQ×RBo×Sl Int) (st:=λp z=>(X.len,(p:Int),s,x,z.1,z.2.1,o,X,z.2.2)) (fin:=λz=>(s,x,z.1,z.2.1,z.2.2))
  (J:=λp z=>Wq x.c_.L_.xs.length x.F_.V_.xs.length M z.2.1 z.2.2 z.1/\(∀q∈l.xs,q∈z.2.2.xs)/\Came S z.2.1 z.2.2/\RlO z.2.1 o (X.xs.take p))
  (λp hp z hz=>by
    obtain⟨m,S1,l1⟩:=z;obtain⟨h1,h2,Q,N⟩:=hz;simp only at h1 h2 Q N;have wk:=zu (Zc:p < 1000000000);obtain⟨j,ej,hj⟩:=X2 _ (gc hp);have B:j < S1.xs.length:=by rw[h1.w.l];exact hj
    have d:∀{S2:RBo} {l2:Sl Int},Came S1 S2 l2->(∃r,S2.xs[j]?=D r/\r.nn=E/\∀y,On r y->On o y)->RlO S2 o (X.xs.take (p+1)):=λg hr k u=>by
     rw[<- DG hp] at u;rcases U5.1 u with u | u
     ·exact N.came g k u
     grind
    show∃a',q3x _ _ _ _ _=_/\_
    unfold q3x;simp only[jl];rw[jv jA,ze hp];simp only[jj,ej,ze B];cases c:S1.xs[j].nn
    · have hw:wt x.F_.V_.xs.length ⟨o.xs,E⟩ < wt x.F_.V_.xs.length S1.xs[j]:=by
        have:=@qs Bool _ E o.xs;unfold wt;grind
      obtain⟨T,l2,e,Y,g2,I⟩:=h1.put hM B (r:=⟨o.xs,E⟩) rfl ol hw (λh=>jE) (s:=s);simp only[D6,jq,znU on (Zc:o.xs.length<=60000),jj,e,wk];exact⟨(T,_,l2),rfl,Y,λq G=>g2 q (h2 q G),Q.trans I g2,d I ⟨⟨o.xs,E⟩,jE,rfl,λy hy=>hy⟩⟩
    · obtain⟨T,S2,l2,e,Y,g2,I,g4⟩:=zzn hM (x:=x) h1 B c ol hV (s:=s) (a:=X.len) (b:=(p:Int)) (X:=X);simp only[Do,jk,jp];rw[e];simp only[jj,wk]
      exact⟨(T,S2,l2),rfl,Y,λq G=>g2 q (h2 q G),Q.trans I g2,d I g4⟩)
  (λz hz=>by
    show q3x _ _ _ _ _=_;unfold q3x;simp only[jl]
    rw[jx jA])
  (a:=(m,S,l)) ⟨h,λq G=>G,.refl,λk u=>by simp at u⟩
 rw[Dt] at N;rw[show lpO (q3x q5r q1o q2b q1c) (X.len,0,s,x,m,S,o,X,l)=_ from e];grind
def ClO(x:MF)(S:RBo)(i:Nat)(r:Sl Bool):Prop:=∃X,q1o (x,(i:Int))=D X/\∀k∈X.xs,∃(j:Nat) (q:Sl Bool),k=(j:Int)/\S.xs[j]?=D q/\q.nn=E/\∀y,On q y->Bh x i r y
theorem ClO.came{x:MF}{S S':RBo}{i:Nat}(h:ClO x S i r)(g:Came S S' l):ClO x S' i r:=by
 obtain⟨X,e,h⟩:=h;refine⟨X,e,λk c=>?_⟩;obtain⟨j,q,rfl,h1,h2,m⟩:=h k c;obtain⟨q',d,_,f⟩:=g.g j q h1;grind
def Iv(x:MF)(S:RBo)(l:List Int):Prop:=∀(i:Nat) r,S.xs[i]?=D r->r.nn=E->(i:Int)∈l\/ClO x S i r
def Dec(S S':RBo):Prop:=∀(j:Nat) r0,S.xs[j]?=D r0->r0.nn=E->∃r,S'.xs[j]?=D r/\r.nn=E/\∀y,On r y->On r0 y
theorem Came.dec{S S':RBo}(h:Came S S' l):Dec S S':=λj r0 h0 c=>by
 obtain⟨r,h1,_,d⟩:=h.g j r0 h0;grind
theorem Dec.trans{a b c:RBo}(h:Dec a b)(g:Dec b c):Dec a c:=λj r0 h0 d=>by
 obtain⟨r,h1,h2,m⟩:=h j r0 h0 d;obtain⟨q,e,g2,f⟩:=g j r h1 h2;grind
noncomputable abbrev zBg:=q5s q1c q1g q1q q3g
noncomputable abbrev zBh:=q3y q1c q1g q1q q3g
theorem zuB {x:MF}(H:FuncG x) {M:Nat}(hM:M < 1000000000000) {s:Int}:∀(d:Nat) (S:RBo) (l:Sl Int) (m:MpQ),d<=M->Wq x.c_.L_.xs.length x.F_.V_.xs.length d S l m->Iv x S l.xs->
    ∃S',lpO zBh (x,S,s,l,m)=D (x,S')/\SG x.c_.L_.xs.length x.F_.V_.xs.length S'/\Iv x S' []/\Dec S S':=by
 intro d
 induction d with
 |zero=>
  intro S l m hd h hI;have h0:l.xs=[]:=UQ (by have:=h.wm;omega);refine⟨S,zw ?_,h.w,jE,λj r h p=>⟨r,h,p,λy N=>N⟩⟩;show q3y _ _ _ _ _=_;unfold q3y q1g q3h;simp only[jj,jl,zf];grind
 |succ d ih=>
  intro S l m hd h hI;have hm:=h.wm;by_cases c:0 < l.xs.length
  rotate_left
  ·have h0:l.xs=[]:=UQ Zc;refine⟨S,zw ?_,h.w,jE,λj r h p=>⟨r,h,p,λy N=>N⟩⟩;show q3y _ _ _ _ _=_;unfold q3y q1g q3h;simp only[jj,jl,zf];grind
  obtain⟨k,l1,e1,h1,h2,h3,h4⟩:=zvv (s:=s) (m:=m) c Zc;obtain⟨i,r,rfl,u,p⟩:=h.wl k h1;obtain⟨Q,_⟩:=UC.1 u;have hi:i < x.c_.L_.xs.length:=by rw[<- h.w.l];exact Q
  have G:InQ (m.1,⟨yB (i:Int) m.2.xs,E⟩) l1:=⟨h.q.1.sublist ((zmo _ _).map _),λk L=>by
   obtain⟨I,g2⟩:=zsh h.q.1 L
   exact(h4 k (h.q.2 k I)).resolve_left g2⟩
  obtain⟨m2,S2,l2,o,X,e2,I,g2,v,g4,g5,g6⟩:=zxL H hi (M:=d) Zc (s:=s) (m:=(m.1,⟨yB (i:Int) m.2.xs,E⟩)) (l:=l1) (S:=S) ⟨h.w,G,λz hz=>h.wl z (h3 z hz),Zc⟩ u p;have T:Iv x S2 l2.xs:=λj q G C=>by
   have f:j < S.xs.length:=by rw[<- v.n];grind
   obtain⟨q',B,e,_⟩:=v.g j _ (UJ f);rw[G] at B;cases B;rcases e with e | e
   rotate_left
   ·exact .inl e
   subst e;by_cases cj:j=i
   · subst cj;rw[UJ f] at u;cases u
     exact .inr ⟨X,g5,λk L=>by
      obtain⟨a,b,b1,b2,b3,b4⟩:=g6 k L
      grind⟩
   · rcases hI j _ (UJ f) C with Y | Y
     ·grind
     ·exact .inr (Y.came v)
  obtain⟨S3,e3,B,e,f3⟩:=ih S2 l2 m2 Zc I T;refine⟨S3,?_,B,e,v.dec.trans f3⟩;rw[<- e3];refine zA ?_;show q3y _ _ _ _ _=_;unfold q3y q1g q3h;simp only[jj,jl,zf];grind
theorem zAJ{n:Nat}{S:RBo}(h:SG n V S):Mz V S<=n * (V+1):=by
 have:∀l:List (Sl Bool),(∀r∈l,r.nn=E->r.xs.length=V)->(l.map (wt V)).sum<=l.length * (V+1):=by
  intro l
  induction l with
  |nil=>intro _;simp
  |cons r l d=>
   intro h;have h1:=d λr c=>h r (by simp[c])
   have h2:wt V r<=V+1:=by
    unfold wt;split
    ·grind
    ·omega
   simp only[UF,qv,jz,US];omega
 have:=this S.xs h.r;rw[h.l] at this;exact this
theorem zg6{b n:Nat}{z:α}(hb:b<=1000)(h:n<=100000):Z3 b (n:Int) z=D ⟨U n z,E⟩:=by
 have:b * n<=1000 * 100000:=qk hb h;unfold Z3;grind
structure SuG(x:MF)(S:RBo):Prop where
 w:SG x.c_.L_.xs.length x.F_.V_.xs.length S
 i:∀(i:Nat) r,S.xs[i]?=D r->r.nn=E->ClO x S i r
 z:∃r,S.xs[0]?=D r/\r.nn=E/\∀y,On r y->(y:Int) < x.F_.P_
theorem zzo{x:MF}(H:FuncG x):∃S,q4n x=D S/\SuG x S:=by
 have hN:=H.l;have hV:=H.v;obtain⟨p0,p1⟩:=H.pr;obtain⟨l0,e,he,_,_⟩:=H.c;have X:0 < x.c_.L_.xs.length:=by rw[he];simp
 obtain⟨P,hP⟩:∃P:Nat,x.F_.P_=(P:Int):=⟨_,(DF p0).symm⟩
 unfold q4n qer;simp only[zf (s:=x.c_.L_),zf (s:=x.F_.V_),zg6 (Zc:24<=1000) (Zc:x.c_.L_.xs.length<=100000),zg6 (Zc:1<=1000) (Zc:x.F_.V_.xs.length<=100000),jj,jl];rw[jx (by simp only[zf,List.length_replicate];omega),show(0:Int)=((0:Nat):Int) from rfl,ze jE];simp only[jj]
 obtain⟨S0,e0,w1,r,L,C,w4,w5,w6⟩:=go (f:=q9i q9j) (n:=P) (A:=RBo) (st:=λk S=>(x.F_.P_,(k:Int),x,S)) (fin:=λS=>(x,S))
  (J:=λk S=>S.xs.length=x.c_.L_.xs.length/\∃r,S.xs[0]?=D r/\r.nn=E/\r.xs.length=x.F_.V_.xs.length/\(∀y,On r y->y < k)/\∀(j:Nat) q,0 < j->S.xs[j]?=D q->q.nn=K)
  (λk G S I=>by
   obtain⟨h1,r,h2,Y,Q,h5,h6⟩:=I;have wk:=zu (Zc:k < 1000000000);obtain⟨h0,rfl⟩:=UC.1 h2;have g0:=ze (s:=S) h0;unfold q9i;simp only[jl];rw[jv Zc,show(0:Int)=((0:Nat):Int) from rfl];simp only[g0,jj,ze (s:=S.xs[0]) (Zc:k < _),wk];refine⟨_,rfl,by simp[Sl.set,h1],S.xs[0].set (k:Int) E,by simp only[Sl.set,Z];grind,Y,by simp[Sl.set,Q],λy o=>?_,λj q p d=>?_⟩
   ·rcases zex o with h | rfl
    all_goals grind
   ·simp only[Sl.set,Z] at d
    grind)
  (λS I=>by
   unfold q9i
   grind)
  (a:=Sl.set ⟨U x.c_.L_.xs.length (O [] K),E⟩ ((0:Nat):Int) ⟨U x.F_.V_.xs.length K,E⟩)
  ⟨by simp[Sl.set],⟨U x.F_.V_.xs.length K,E⟩,by simp only[Sl.set,Z];grind,rfl,je,λy o=>by unfold On at o;grind,λj q p d=>by
   simp only[Sl.set,Z] at d
   grind⟩
 have e0:lpO (q9i q9j) (x.F_.P_,((0:Nat):Int),x,Sl.set ⟨U x.c_.L_.xs.length (O [] K),E⟩ ((0:Nat):Int) ⟨U x.F_.V_.xs.length K,E⟩)=_:=e0;rw[e0];simp only[jj]
 have hw:SG x.c_.L_.xs.length x.F_.V_.xs.length S0:=⟨w1,λq d g=>by
  obtain⟨j,p,rfl⟩:=qo d;by_cases c:j=0
  ·grind
  ·rw[w6 j _ Zc (UJ p)] at g;cases g⟩
 have hM:Mz x.F_.V_.xs.length S0+1 < 1000000000000:=by
  have h1:=zAJ hw;have h2:x.c_.L_.xs.length * (x.F_.V_.xs.length+1)<=40000 * 60001:=qk hN Zc;omega
 obtain⟨m,q,ep,p1,p2,_,T⟩:=zg4 (s:=1) (n:=0) (l:=O [] K) (m:=(lit [],O [] E)) je;obtain⟨q1,q2⟩:=T ⟨je,λk G=>by simp[ZB,ym] at G⟩;have d:∀z∈q.xs,z=0:=λz u=>(p2 z u).resolve_right je
 obtain⟨S',e',f1,f2,f3⟩:=zuB H hM (s:=1) (Mz x.F_.V_.xs.length S0+1) S0 q m (UK _) ⟨hw,q1,λz u=>⟨0,r,d z u,L,C⟩,jE⟩ (λi N B g=>by
  grind)
 unfold q9j qee;simp only[jk,jp,jj];have w:lpO zBg (⟨[0],E⟩,Sl.len (⟨[0],E⟩:Sl Int),0,x,S0,1,O [] K,lit [],O [] E)=D (x,S0,1,q,m):=by
  rw[zA (y:=(⟨[0],E⟩,Sl.len (⟨[0],E⟩:Sl Int),1,x,S0,1,q,m))]
  ·refine zw ?_;show q5s _ _ _ _ _=_;unfold q5s;simp (decide:=true) only [zf,jp]
  ·show q5s _ _ _ _ _=_;unfold q5s;simp only[jl];rw[jv (by simp[zf]),show za (⟨[0],E⟩:Sl Int) 0=D 0 from rfl];simp only[jj,ep];rfl
 rw[show lpO (q5s q1c q1g q1q q3g) (⟨[((0:Nat):Int)],E⟩,Sl.len (⟨[((0:Nat):Int)],E⟩:Sl Int),0,x,S0,1,O [] K,lit [],O [] E)=_ from w];simp only[jj];rw[show lpO (q3y q1c q1g q1q q3g) (x,S0,1,q,m)=_ from e'];obtain⟨N,g1,g2,g3⟩:=f3 0 r L C;exact⟨S',rfl,f1,λi r B g=>(f2 i r B g).resolve_left je,N,g1,g2,λy o=>jE⟩
noncomputable abbrev CL0:=q5t q4n q1j q24
noncomputable abbrev CL1:=q5u q4n q1j q24
noncomputable abbrev CL2:=q3z q4n q1j q24
abbrev MI:=U0×Sl (Int×Int)
def Ck1(x:MF)(i:Nat)(r:Sl Bool):Prop:=∃R T,q1j (x,(i:Int))=D R/\q24 (x,(i:Int))=D T/\(∀v:Nat,(v:Int)∈R.xs->On r v)/\∀y∈T.xs,R.xs.count y<=1
def zg7{β:Type}(r:Int×Int⊕β):Prop:=∃a,r = .inl (a,52)
section
variable {x:MF}(H:FuncG x){i:Nat}(hi:i < x.c_.L_.xs.length){S:RBo}(hw:SG x.c_.L_.xs.length x.F_.V_.xs.length S)
include H hi hw
theorem zAK (C:S.xs[i]?=D r) (I:r.nn=E) {R:Sl Int}(L:R.xs.length<=60000) (B:Nl x.F_.V_.xs.length R.xs) {n:Int} :
    (∃m:MI,lpO CL0 ((i:Int),(i:Int),n,(i:Int),R.len,0,x,S,(lit [],O [] E),R)=D (.inr ((i:Int),n,(i:Int),x,m,S))/\(∀y,ZB y 0 m.2.xs=(R.xs.count y:Int))/\∀v:Nat,(v:Int)∈R.xs->On r v)\/
    ∃q,lpO CL0 ((i:Int),(i:Int),n,(i:Int),R.len,0,x,S,(lit [],O [] E),R)=D q/\zg7 q:=by
 obtain⟨g,rfl⟩:=UC.1 C;have N:=hw.r _ (gc g) I
 rcases goE (f:=CL0) (n:=R.xs.length) (A:=MI) (st:=λk m=>((i:Int),(i:Int),n,(i:Int),R.len,(k:Int),x,S,m,R)) (fin:=λm =>.inr ((i:Int),n,(i:Int),x,m,S)) (J:=λk m=>(∀y,ZB y 0 m.2.xs=((R.xs.take k).count y:Int))/\∀v:Nat,(v:Int)∈R.xs.take k->On S.xs[i] v) (bad:=zg7)
  (λk j m u=>by
    obtain⟨h1,h2⟩:=u;have z:=zu (Zc:k < 1000000000);obtain⟨v,p,Q⟩:=B _ (gc j);have o:v < S.xs[i].xs.length:=Zc
    have b:=h1 (v:Int);have b2:(R.xs.take k).count (v:Int)<=k:=UM qs ji;have G:U4 (ZB (v:Int) 0 m.2.xs+1)=ZB (v:Int) 0 m.2.xs+1:=zE Zc Zc;show(∃a',q5t _ _ _ _=_/\_)\/∃q,q5t _ _ _ _=_/\_
    unfold q5t;simp only[jl];rw[jv jA,ze j];simp only[jj,p,ze g,ze o];cases c:S.xs[i].xs[v]
    ·simp only[D6,jq,ze hi,jj];exact .inr ⟨_,rfl,_,rfl⟩
    · simp only[Do,jk,jp,G,z];refine .inl ⟨_,rfl,λy=>?_,λw d=>?_⟩
      · rw[<- DG j,List.count_append,p];simp only[zi0];by_cases e:(v:Int)=y
        ·grind
        grind
      · rw[<- DG j] at d;rcases U5.1 d with d | d
        ·exact h2 w d
        · rw[Dz,p] at d;obtain rfl:w=v:=Zc
          unfold On;grind)
  (λm u=>by
    show q5t _ _ _ _=_;unfold q5t;simp only[jl]
    rw[jx jA])
  (a:=(lit [],O [] E)) ⟨λy=>by simp[ZB,ym],je⟩ with⟨m,e,h1,h2⟩ | h
 all_goals grind
omit H hw in
theorem zAL {m:MI}{T:Sl Int}(hl:T.xs.length<=50000) {n:Int} :
    (lpO CL1 ((i:Int),n,(i:Int),T.len,0,x,m,S,T)=D (.inr (n,(i:Int),x,S))/\∀y∈T.xs,ZB y 0 m.2.xs<=1)\/
    ∃q,lpO CL1 ((i:Int),n,(i:Int),T.len,0,x,m,S,T)=D q/\zg7 q:=by
 rcases goE (f:=CL1) (n:=T.xs.length) (A:=Unit) (st:=λk _=>((i:Int),n,(i:Int),T.len,(k:Int),x,m,S,T)) (fin:=λ_ =>.inr (n,(i:Int),x,S)) (J:=λk _=>∀y∈T.xs.take k,ZB y 0 m.2.xs<=1) (bad:=zg7)
  (λk hk _ hm=>by
    have wk:=zu (show k < 1000000000 by omega);show(∃a',q5u _ _ _ _=_/\_)\/∃q,q5u _ _ _ _=_/\_
    unfold q5u;simp only[jl];rw[jv (by simp only[zf];omega),ze hk];simp only[jj];by_cases c:1 < ZB T.xs[k] 0 m.2.xs
    ·rw[jv c,ze hi];exact .inr ⟨_,rfl,_,rfl⟩
    · rw[jx c,wk];refine .inl ⟨(),by grind,λy hy=>?_⟩;rw[<- DG hk] at hy
      grind)
  (λ_ _=>by
    show q5u _ _ _ _=_;unfold q5u;simp only[jl]
    rw[jx (by simp only[zf];omega)])
  (a:=()) (by simp) with⟨_,e,h⟩ | h
 all_goals grind
end
theorem zxM{x:MF}(H:FuncG x):∃S a e,q67 x=D (a,e)/\SuG x S/\(e=0->∀(i:Nat) r,S.xs[i]?=D r->r.nn=E->Ck1 x i r):=by
 obtain⟨S,eS,hS⟩:=zzo H;have hN:=H.l;have hl:=hS.w.l;unfold q67 qef;simp only[eS,jj]
 rcases goE (f:=CL2) (n:=S.xs.length) (A:=Unit) (st:=λi _=>(S.len,(i:Int),x,S)) (fin:=λ_ =>.inr ()) (J:=λi _=>∀(j:Nat) r,j < i->S.xs[j]?=D r->r.nn=E->Ck1 x j r) (bad:=zg7)
  (λi hi _ hJ=>by
   have wk:=zu (show i < 1000000000 by omega);have hic:i < x.c_.L_.xs.length:=by omega
   have next:(S.xs[i].nn=E->Ck1 x i S.xs[i])->∀(j:Nat) r,j < i+1->S.xs[j]?=D r->r.nn=E->Ck1 x j r:=λh j r hj hr hn=>by
    by_cases c:j=i
    all_goals grind
   show(∃a',q3z _ _ _ _=_/\_)\/∃q,q3z _ _ _ _=_/\_
   unfold q3z;simp only[jl];rw[jv (by simp only[zf];omega)];simp only[ze hi,jj];cases c:S.xs[i].nn
   ·simp only[D6,jq,jj,jo,wk];exact .inl ⟨(),by grind,next λh=>by grind⟩
   simp only[Do,jk,jp];obtain⟨R,eR,R0,R1,R2⟩:=zig H hic;obtain⟨T,eT,T1,_⟩:=znV H hic;rw[eR,jj];rcases zAK H hic hS.w (UJ hi) c R1 R2 (n:=S.len) with⟨m,e,m1,m2⟩ | ⟨q,e,a,rfl⟩
   rotate_left
   ·rw[e];simp only[jj,jo,jm];exact .inr ⟨_,rfl,a,rfl⟩
   rw[e];simp only[jj,jm,eT];rcases zAL hic (S:=S) (m:=m) T1 (n:=S.len) with⟨e,t1⟩ | ⟨q,e,a,rfl⟩
   rotate_left
   ·rw[e];simp only[jj,jo,jm];exact .inr ⟨_,rfl,a,rfl⟩
   rw[e];simp only[jj,jo,jm,wk]
   exact .inl ⟨(),by grind,next λ_=>⟨R,T,eR,eT,m2,λy hy=>by grind⟩⟩)
  (λ_ _=>by
   show q3z _ _ _ _=_;unfold q3z;simp only[jl]
   rw[jx (by simp only[zf];omega)])
  (a:=()) (λj r hj=>by omega) with⟨_,e,h⟩ | ⟨q,e,a,rfl⟩
 ·rw[show lpO (q3z q4n q1j q24) (S.len,0,x,S)=_ from e];exact⟨S,0,0,rfl,hS,λ_ j r hr hn=>h j r (UC.1 hr).1 hr hn⟩
 ·rw[show lpO (q3z q4n q1j q24) (S.len,0,x,S)=_ from e];grind
def Wf(x:MF)(P:Nat->Nat->Prop)(R:RBo):Prop:=R.xs.length=x.c_.L_.xs.length/\∀(i:Nat) r,R.xs[i]?=D r->r.xs.length=x.F_.V_.xs.length/\∀v,On r v->P i v
section
variable {x:MF}{P:Nat->Nat->Prop}{R:RBo}(h:Wf x P R){i:Nat}
include h
theorem Wf.row(hi:i < x.c_.L_.xs.length):∃(c:i < R.xs.length),za R (i:Int)=D R.xs[i]/\R.xs[i].xs.length=x.F_.V_.xs.length/\∀v,On R.xs[i] v->P i v:=by
 have c:i < R.xs.length:=by rw[h.1];exact hi
 exact⟨c,ze c,h.2 i _ (UJ c)⟩
theorem Wf.set(e:r.xs.length=x.F_.V_.xs.length)(hp:∀v,On r v->P i v):Wf x P (R.set (i:Int) r):=by
 refine⟨by simp[Sl.set,h.1],λj q d=>?_⟩;simp only[Sl.set,Z,UI] at d;by_cases c:i=j
 ·grind
 ·rw[jx c] at d;exact h.2 j q d
end
def Fc(B:RBo):Nat:=(B.xs.map λr=>r.xs.count K).sum
theorem zuC:∀(l:List Bool) (y:Nat) (h:y < l.length),l[y]=K->(l.set y E).count K+1=l.count K
 |b::l,0,_,e=>jE
 |b::l,y+1,h,e=>by
  grind
theorem znW{f:α->Nat}{v:α}:∀(l:List α) (k:Nat) (h:k < l.length),f v+1=f l[k]->((l.set k v).map f).sum+1=(l.map f).sum
 |a::l,0,_,e=>jE
 |a::l,k+1,h,e=>by
  have:=znW l k (by simpa using h) (by simpa using e);grind
theorem zzp{B:RBo}(c:k < B.xs.length)(d:y < B.xs[k].xs.length)(e:B.xs[k].xs[y]=K):Fc (B.set (k:Int) (B.xs[k].set (y:Int) E))+1=Fc B:=by
 unfold Fc;simp only[Sl.set,Z];exact znW _ k c (zuC _ y d e)
theorem zAM{x:MF}{P:Nat->Nat->Prop}{B:RBo}(h:Wf x P B):Fc B<=x.c_.L_.xs.length * x.F_.V_.xs.length:=by
 have:∀l:List (Sl Bool),(∀r∈l,r.xs.length=x.F_.V_.xs.length)->(l.map λr=>r.xs.count K).sum<=l.length * x.F_.V_.xs.length:=by
  intro l
  induction l with
  |nil=>intro _;simp
  |cons r l e=>
   intro h;have h1:=e λr c=>h r (by simp[c])
   have h2:=h r je;have f:=@qs Bool _ K r.xs;simp only[UF,qv,jz,US];omega
 have:=this B.xs λr c=>by
  obtain⟨j,d,rfl⟩:=qo c;exact(h.2 j _ (UJ d)).1
 rw[h.1] at this;exact this
structure FrG(x:MF)(b:Nat)(F:Sl (Sl Int)):Prop where
 l:F.xs.length=x.c_.L_.xs.length
 r:∀(i:Nat) r,F.xs[i]?=D r->r.xs.length<=b/\∀k∈r.xs,∃(j:Nat) (X:Sl Int),k=(j:Int)/\j < x.c_.L_.xs.length/\q1o (x,(j:Int))=D X/\(i:Int)∈X.xs
structure LvG(x:MF)(PB:Nat->Nat->Prop)(M:Nat)(B:RBo)(l:Sl Int):Prop where
 wb:Wf x PB B
 wl:Nl x.c_.L_.xs.length l.xs
 wm:Fc B+l.xs.length<=M
structure Lw(x:MF)(PA PB:Nat->Nat->Prop):Prop where
 r:∀(i v:Nat) R,i < x.c_.L_.xs.length->q1j (x,(i:Int))=D R->(v:Int)∈R.xs->PA i v
 b:∀(i v:Nat),PB i v->q1v (x,(i:Int))≠D (v:Int)->PA i v
 f:∀(k i v:Nat) X,q1o (x,(k:Int))=D X->(i:Int)∈X.xs->PA i v->PB k v
noncomputable abbrev LL0:=q4y q1v q1j q1c
noncomputable abbrev LL1:=q68 q1v q1j q1c
noncomputable abbrev LL2:=q4z q1v q1j q1c
section
variable {x:MF}{PA PB:Nat->Nat->Prop}(W:Lw x PA PB){M:Nat}(hM:M < 1000000000000){i:Nat}(hi:i < x.c_.L_.xs.length){A:RBo}(hA:Wf x PA A)(hV:x.F_.V_.xs.length<=60000){s:Int}{F:Sl (Sl Int)}
include W hM hi hA hV
theorem zAN (hk:k < x.c_.L_.xs.length) {X:Sl Int}(eX:q1o (x,(k:Int))=D X) (hX:(i:Int)∈X.xs) {n j:Int}{m:MpQ}{B:RBo}(h:LvG x PB M B l) :
    ∃m' B' l',lpO LL1 ((i:Int),(k:Int),(i:Int),n,j,(i:Int),(x.F_.V_.xs.length:Int),0,s,x,m,A,B,F,l)=D ((i:Int),(i:Int),n,j,s,x,m',A,B',F,l')/\LvG x PB M B' l':=by
 obtain⟨⟨m',B',l'⟩,e,g⟩:=go (f:=LL1) (n:=x.F_.V_.xs.length) (A:=MpQ×RBo×Sl Int) (st:=λp a=>((i:Int),(k:Int),(i:Int),n,j,(i:Int),(x.F_.V_.xs.length:Int),(p:Int),s,x,a.1,A,a.2.1,F,a.2.2)) (fin:=λa=>((i:Int),(i:Int),n,j,s,x,a.1,A,a.2.1,F,a.2.2)) (J:=λ_ a=>LvG x PB M a.2.1 a.2.2)
  (λp hp a g=>by
    obtain⟨m,B,l⟩:=a;simp only at g;have wk:=zu (show p < 1000000000 by omega);obtain⟨ha',ga,la,pa⟩:=hA.row hi;obtain⟨hb',gb,lb,pb⟩:=g.wb.row hk;have hpa:p < A.xs[i].xs.length:=by omega
    have hpb:p < B.xs[k].xs.length:=by omega
    show∃a',q68 _ _ _ _=_/\_
    unfold q68;simp only[jl];rw[jv (by omega),ga];simp only[jj,ze hpa];cases hz:A.xs[i].xs[p]
    ·simp only[jk,jp,jj,wk];exact⟨(m,B,l),rfl,g⟩
    simp only[jq,gb,jj,ze hpb];obtain⟨r0,hr0,_⟩:∃r0,za A (k:Int)=D r0/\True:=⟨_,(hA.row hk).2.1,trivial⟩
    cases hy:B.xs[k].xs[p]
    · obtain⟨m',l',e,e1,e2,_⟩:=zg4 (s:=s) (n:=(k:Int)) (l:=l) (m:=m) (by have:=g.wm;omega);simp only[jj,D6,jq,e,wk];refine⟨(m',_,l'),rfl,g.wb.set (by simp[Sl.set,lb]) λv hv=>?_,λz hz=>?_,?_⟩
      · rcases zex hv with hv | rfl
        ·exact pb v hv
        ·exact W.f k i v X eX hX (pa v (by unfold On;grind))
      · rcases e2 z hz with rfl | hz
        ·grind
        ·exact g.wl z hz
      ·have h1:=zzp hb' hpb hy;have h2:=g.wm;show Fc (B.set (k:Int) (B.xs[k].set (p:Int) E))+l'.xs.length<=M;omega
    · simp only[jj,Do,jk,jp,wk]
      exact⟨(m,B,l),rfl,g⟩)
  (λa g=>by
    show q68 _ _ _ _=_;unfold q68
    grind)
  (a:=(m,B,l)) h
 grind
theorem zzq (hF:FrG x 200000 F) {m:MpQ}{B:RBo}(h:LvG x PB M B l) :
    ∃q o d,(za F (i:Int)).bind (λy=>lpO LL2 ((i:Int),(i:Int),y.len,0,s,x,m,A,B,F,l))=D (s,x,q,A,o,F,d)/\LvG x PB M o d:=by
 have c:i < F.xs.length:=by rw[hF.l];exact hi
 obtain⟨I,u⟩:=hF.r i _ (UJ c)
 obtain⟨⟨q,o,d⟩,e,g⟩:=go (f:=LL2) (n:=F.xs[i].xs.length) (A:=MpQ×RBo×Sl Int) (st:=λp a=>((i:Int),(i:Int),F.xs[i].len,(p:Int),s,x,a.1,A,a.2.1,F,a.2.2)) (fin:=λa=>(s,x,a.1,A,a.2.1,F,a.2.2)) (J:=λ_ a=>LvG x PB M a.2.1 a.2.2)
  (λp hp a g=>by
    obtain⟨m,B,l⟩:=a;simp only at g;have C:=zu (Zc:p < 1000000000);obtain⟨N,z,L,_⟩:=hA.row hi;obtain⟨k,X,w,G,Q,v⟩:=u _ (gc hp);obtain⟨q,o,d,e,g'⟩:=zAN W hM hi hA hV (s:=s) (F:=F) G Q v (n:=F.xs[i].len) (j:=(p:Int)) (m:=m) g;show∃a',q4z _ _ _ _=_/\_
    unfold q4z;simp only[jl];rw[jv jA,ze c];simp only[jj,ze hp,z,w,zf (s:=A.xs[i]),L,e,C]
    exact⟨(q,o,d),rfl,g'⟩)
  (λa g=>by
    show q4z _ _ _ _=_;unfold q4z;simp only[jl]
    rw[jx jA])
  (a:=(m,B,l)) h
 exact⟨q,o,d,by rw[ze c,jj];exact e,g⟩
end
section
variable {x:MF}(H:FuncG x){PA PB:Nat->Nat->Prop}(W:Lw x PA PB){M:Nat}(hM:M < 1000000000000){s:Int}{F:Sl (Sl Int)}(hF:FrG x 200000 F)
include H W hM hF
theorem zzr {i:Nat}(hi:i < x.c_.L_.xs.length) {A B:RBo}{m:MpQ}(hA:Wf x PA A) (h:LvG x PB M B l) :
    ∃m' A' N z,q47 ((i:Int),s,x,l,m,A,B,F)=D (s,x,m',A',N,F,z)/\Wf x PA A'/\LvG x PB M N z:=by
 have hV:=H.v;obtain⟨y,L,hy⟩:=znS H hi;obtain⟨R,T,_,R1,R2⟩:=zig H hi;obtain⟨I,ga,Y,pa⟩:=hA.row hi;obtain⟨hb',gb,lb,pb⟩:=h.wb.row hi;unfold q47 qce;simp only[ga,gb,jj,L,jl];obtain⟨ρ,d⟩:∃ρ:Sl Bool,ρ=⟨B.xs[i].xs.take A.xs[i].xs.length++A.xs[i].xs.drop B.xs[i].xs.length,A.xs[i].nn⟩:=⟨_,rfl⟩
 have j:ρ.xs.length=x.F_.V_.xs.length:=by rw[d];simp[Y,lb]
 have o:∀v,On ρ v->PB i v:=λv w=>pb v (by rw[d] at w;simpa[On,Y,lb,Dn (Zc:B.xs[i].xs.length<=x.F_.V_.xs.length),U6 (Zc:A.xs[i].xs.length<=x.F_.V_.xs.length)] using w)
 rw[<- d];have g1:za (A.set (i:Int) ρ) (i:Int)=D ρ:=by rw[ze (by simpa[Sl.set] using I)];simp[Sl.set]
 have ss:∀r,(A.set (i:Int) ρ).set (i:Int) r=A.set (i:Int) r:=λr=>by simp[Sl.set]
 generalize hX:(if 0<=y then _ else _:U3 (Int×Int×MF×Sl Int×MpQ×RBo×RBo×Sl (Sl Int)))=X;obtain⟨g,rfl,C⟩:∃g,X=D ((i:Int),s,x,l,m,g,B,F)/\Wf x PA g:=by
  subst hX;by_cases c:0<=y
  ·obtain⟨v,rfl,w⟩:=hy c;rw[jv c,g1];simp only[jj,ze (s:=ρ) (Zc:v < _),ss];refine⟨_,rfl,hA.set (by simp[Sl.set,j]) λu e=>?_⟩;obtain⟨h1,h2⟩:=zg5 e;exact W.b i u (o u h1) (by rw[L];grind)
  ·rw[jx c];exact⟨_,rfl,hA.set j λu e=>W.b i u (o u e) (by rw[L];grind)⟩
 simp only[jj,T]
 obtain⟨A3,e3,Q⟩:=go (f:=LL0) (n:=R.xs.length) (A:=RBo) (st:=λp a=>((i:Int),R.len,(p:Int),s,x,l,m,a,B,F,R)) (fin:=λa=>((i:Int),s,x,l,m,a,B,F)) (J:=λ_ a=>Wf x PA a)
  (λp hp a G=>by
    have wk:=zu (Zc:p < 1000000000);obtain⟨v,ev,w⟩:=R2 _ (gc hp);obtain⟨h2',g2,l2,p2⟩:=G.row hi;show∃a',q4y _ _ _ _=_/\_
    unfold q4y;simp only[jl];rw[jv jA,ze hp];simp only[jj,g2,ev,ze (s:=a.xs[i]) (Zc:v < _),wk];refine⟨_,rfl,G.set (by simp[Sl.set,l2]) λu e=>?_⟩;rcases zex e with e | rfl
    ·exact p2 u e
    ·exact W.r i u R hi T (by rw[<- ev];exact gc hp))
  (λa G=>by
    show q4y _ _ _ _=_;unfold q4y;simp only[jl]
    rw[jx jA])
  (a:=g) C
 obtain⟨m',N,z,e4,g4⟩:=zzq W hM hi Q hV (s:=s) hF (m:=m) h;have q:i < F.xs.length:=by rw[hF.l];exact hi
 rw[ze q,jj] at e4;rw[show lpO (q4y q1v q1j q1c) ((i:Int),R.len,0,s,x,l,m,g,B,F,R)=_ from e3];simp only[jj,ze q];rw[show lpO (q4z q1v q1j q1c) ((i:Int),(i:Int),F.xs[i].len,0,s,x,m,A3,B,F,l)=_ from e4];grind
noncomputable abbrev UL0:=q4m q1c q1g q1q q47
noncomputable abbrev UL1:=q3d q1c q1g q1q q47
theorem zxN:∀(d:Nat) (A B:RBo) (l:Sl Int) (m:MpQ),d<=M->Wf x PA A->LvG x PB d B l->
    ∃A' j,lpO UL1 (x,A,B,F,s,l,m)=D (x,A',j,F)/\Wf x PA A'/\Wf x PB j:=by
 intro d
 induction d with
 |zero=>
  intro A B l m hd hA h;have:=h.wm;refine⟨A,B,zw ?_,hA,h.wb⟩;show q3d _ _ _ _ _=_;unfold q3d q1g q3h;simp only[jj,jl,zf];grind
 |succ d q=>
  intro A B l m hd hA h;have N:=h.wm;by_cases c:0 < l.xs.length
  rotate_left
  ·refine⟨A,B,zw ?_,hA,h.wb⟩;show q3d _ _ _ _ _=_;unfold q3d q1g q3h;simp only[jj,jl,zf];grind
  obtain⟨k,G,Q,h1,h2,o,_⟩:=zvv (s:=s) (m:=m) c Zc;obtain⟨i,rfl,hi⟩:=h.wl k h1;obtain⟨L,I,C,l2,T,g,g2⟩:=zzr H W (M:=d) Zc (s:=s) hF hi (m:=(m.1,⟨yB (i:Int) m.2.xs,E⟩)) (l:=G) (B:=B) hA ⟨h.wb,λz w=>h.wl z (o z w),Zc⟩;obtain⟨u,v,p,e,f⟩:=q I C l2 L Zc g g2;refine⟨u,v,?_,e,f⟩;rw[<- p];refine zA ?_;show q3d _ _ _ _ _=_;unfold q3d q1g q3h;simp only[jj,jl,zf];grind
end
noncomputable abbrev VL0:=q9k q1o q3v
noncomputable abbrev VL1:=q9l q1o q3v
def Wp(x:MF)(i:Nat)(R:RBo):Prop:=R.xs.length=x.c_.L_.xs.length/\∀j,j < i->∀r,R.xs[j]?=D r->r.xs=U x.F_.V_.xs.length K
theorem Wp.set{x:MF}{i:Nat}{R:RBo}(h:Wp x i R):Wp x (i+1) (R.set (i:Int) ⟨U x.F_.V_.xs.length K,E⟩):=by
 refine⟨by simp[Sl.set,h.1],λj e q d=>?_⟩;simp only[Sl.set,Z,UI] at d;by_cases c:i=j
 ·grind
 ·rw[jx c] at d;exact h.2 j Zc q d
theorem Wp.wf{x:MF}{R:RBo}(h:Wp x x.c_.L_.xs.length R){P:Nat->Nat->Prop}:Wf x P R:=⟨h.1,λi r c=>by
 have hi:=(UC.1 c).1;have e:=h.2 i (by rw[<- h.1];exact hi) r c;refine⟨by rw[e];simp,λv d=>?_⟩;unfold On at d;rw[e] at d
 grind⟩
theorem zuD {x:MF}(H:FuncG x) {PA PB:Nat->Nat->Prop}(W:Lw x PA PB) {F:Sl (Sl Int)}(hF:FrG x 200000 F) {A B:RBo}(hA:Wf x PA A) (o:Wf x PB B) (X:l.xs.length<=40000) (T:Nl x.c_.L_.xs.length l.xs) :
    ∃A' d,q3v (E,l,x,A,B,F)=D (x,A',d,F)/\Wf x PA A'/\Wf x PB d:=by
 have hM:Fc B+l.xs.length < 1000000000000:=by
  have h1:=zAM o;have h2:x.c_.L_.xs.length * x.F_.V_.xs.length<=40000 * 60000:=qk H.l H.v;omega
 unfold q3v qbq;simp only[jq,jj]
 obtain⟨⟨m,q⟩,e,Q,c⟩:=go (f:=UL0) (n:=l.xs.length) (A:=MpQ×Sl Int) (st:=λp a=>(l,l.len,(p:Int),x,A,B,F, -1,a.2,a.1)) (fin:=λa=>(x,A,B,F, -1,a.2,a.1)) (J:=λp a=>a.2.xs.length<=p/\Nl x.c_.L_.xs.length a.2.xs)
  (λp hp a u=>by
    obtain⟨m,q⟩:=a;obtain⟨I,a2⟩:=u;simp only at I a2;have w:=zu (Zc:p < 1000000000);obtain⟨L,q',e,Y,j,_⟩:=zg4 (s:= -1) (n:=l.xs[p]) (l:=q) (m:=m) Zc;show∃a',q4m _ _ _ _ _=_/\_
    unfold q4m;simp only[jl];rw[jv jA,ze hp];simp only[jj,e,w];refine⟨(L,q'),rfl,jE,λz g=>?_⟩;rcases j z g with rfl | g
    ·exact T _ (gc hp)
    ·exact a2 z g)
  (λa u=>by
    show q4m _ _ _ _ _=_;unfold q4m;simp only[jl]
    rw[jx jA])
  (a:=((lit [],O [] E),O [] K)) ⟨je,by intro k G;simp at G⟩
 simp only at Q c;obtain⟨A',d,j,N,C⟩:=zxN H W hM (s:= -1) hF (Fc B+q.xs.length) A B q m Zc hA ⟨o,c,Zc⟩;rw[show lpO (q4m q1c q1g q1q q47) (l,l.len,0,x,A,B,F,O [] K |> λz=>(-1,z,lit [],O [] E))=_ from e];simp only[jj];rw[show lpO (q3d q1c q1g q1q q47) (x,A,B,F, -1,q,m)=_ from j];grind
theorem zzs{x:MF}(H:FuncG x){PA PB:Nat->Nat->Prop}(W:Lw x PA PB):∃A B,q7q x=D (A,B)/\Wf x PA A/\Wf x PB B:=by
 have hN:=H.l;have hV:=H.v;unfold q7q qgo;simp only[zf,zg6 (Zc:24<=1000) (Zc:x.c_.L_.xs.length<=100000),jj,Zs]
 obtain⟨⟨l,A,B,F⟩,e,Q,G,hA,L,hF⟩:=go (f:=VL1) (n:=x.c_.L_.xs.length) (A:=Sl Int×RBo×RBo×Sl (Sl Int)) (st:=λi a=>((x.c_.L_.xs.length:Int),(i:Int),x,a)) (fin:=λa=>(x,a))
  (J:=λi a=>a.1.xs.length<=i/\Nl x.c_.L_.xs.length a.1.xs/\Wp x i a.2.1/\Wp x i a.2.2.1/\FrG x (2 * i) a.2.2.2)
  (λi hi a m=>by
   obtain⟨l,A,B,F⟩:=a;obtain⟨T,a2,a3,a4,a5⟩:=m;simp only at T a2 a3 a4 a5;have C:=zu (Zc:i < 1000000000);obtain⟨nx,N,n1,X⟩:=zsg H hi;have ga:=ze (s:=A) (i:=i) (by rw[a3.1];exact hi);have gb:=ze (s:=B) (i:=i) (by rw[a4.1];exact hi)
   obtain⟨F',e,q⟩:=go (f:=VL0) (n:=nx.xs.length) (A:=Sl (Sl Int)) (st:=λp a=>((i:Int),(x.c_.L_.xs.length:Int),(i:Int),nx.len,(p:Int),x,(⟨l.xs++[(i:Int)],E⟩:Sl Int),nx,A.set (i:Int) ⟨U x.F_.V_.xs.length K,E⟩,B.set (i:Int) ⟨U x.F_.V_.xs.length K,E⟩,a)) (fin:=λa=>((x.c_.L_.xs.length:Int),(i:Int),x,(⟨l.xs++[(i:Int)],E⟩:Sl Int),A.set (i:Int) ⟨U x.F_.V_.xs.length K,E⟩,B.set (i:Int) ⟨U x.F_.V_.xs.length K,E⟩,a))
    (J:=λp a=>FrG x (2 * i+p) a)
    (λp hp a m=>by
     have C:=zu (Zc:p < 1000000000);obtain⟨k,I,u⟩:=X _ (gc hp);have o:k < a.xs.length:=by rw[m.l];exact u
     obtain⟨r1,r2⟩:=m.r k _ (UJ o);show∃a',q9k _ _ _=_/\_
     unfold q9k;simp only[jl];rw[jv jA,ze hp];simp only[jj,I,ze o];rw[Zu Zc Zc];simp only[jj,js,Dy,C];refine⟨_,rfl,by simp[Sl.set,m.l],λj r d=>?_⟩;simp only[Sl.set,Z,UI] at d;by_cases c:k=j
     ·subst c;rw[jv rfl,jv o] at d;cases d;refine⟨ji,λz g=>?_⟩;rcases U5.1 g with g | g
      ·exact r2 z g
      ·exact⟨i,nx,by simpa using g,hi,N,by rw[<- I];exact gc hp⟩
     ·rw[jx c] at d;obtain⟨q1,w⟩:=m.r j r d
      exact⟨Zc,w⟩)
    (λa m=>by
     show q9k _ _ _=_;unfold q9k;simp only[jl]
     rw[jx jA])
    (a:=F) a5
   show∃a',q9l _ _ _=_/\_
   unfold q9l;simp only[jl];rw[jv Zc];simp only[zf (s:=x.F_.V_),zg6 (Zc:1<=1000) (Zc:x.F_.V_.xs.length<=100000),jj,ga,gb,Zs];rw[Zu Zc Zc];simp only[jj,N];rw[show lpO (q9k q1o q3v) ((i:Int),(x.c_.L_.xs.length:Int),(i:Int),nx.len,0,x,(⟨l.xs++[(i:Int)],E⟩:Sl Int),nx,A.set (i:Int) ⟨U x.F_.V_.xs.length K,E⟩,B.set (i:Int) ⟨U x.F_.V_.xs.length K,E⟩,F)=_ from e];simp only[jj,C];refine⟨(_,_,_,_),rfl,ji,λz g=>?_,a3.set,a4.set,q.l,λj r d=>?_⟩
   ·rcases U5.1 g with g | g
    ·exact a2 z g
    grind
   ·obtain⟨q1,w⟩:=q.r j r d
    exact⟨Zc,w⟩)
  (λa m=>by
   show q9l _ _ _=_;unfold q9l
   grind)
  (a:=(O [] K,⟨U x.c_.L_.xs.length (O [] K),E⟩,⟨U x.c_.L_.xs.length (O [] K),E⟩,⟨U x.c_.L_.xs.length (O [] K),E⟩))
  ⟨je,by intro k u;simp at u,⟨je,λj hj=>Zc⟩,⟨je,λj hj=>Zc⟩,je,λi r d=>by
   obtain rfl:=List.eq_of_mem_replicate (UT d)
   exact⟨je,by intro k u;simp at u⟩⟩
 simp only at Q G hA L hF;obtain⟨A',B',e2,Y,hB'⟩:=zuD H W (F:=F) ⟨hF.l,λi r d=>⟨by have:=(hF.r i r d).1;omega,(hF.r i r d).2⟩⟩ hA.wf L.wf Zc G;rw[show lpO (q9l q1o q3v) ((x.c_.L_.xs.length:Int),0,x,O [] K,⟨U x.c_.L_.xs.length (O [] K),E⟩,⟨U x.c_.L_.xs.length (O [] K),E⟩,⟨U x.c_.L_.xs.length (O [] K),E⟩)=_ from e];grind
theorem zxO{x:MF}{S:RBo}(p:SuG x S)(o:∀(i:Nat) r,S.xs[i]?=D r->r.nn=E->Ck1 x i r):Lw x (λi v=>∀r,S.xs[i]?=D r->r.nn=E->On r v) (λi v=>∀r,S.xs[i]?=D r->r.nn=E->Bh x i r v) where
 r i v R hi eR hv r d e:=by
  obtain⟨w,T,m,_,h,_⟩:=o i r d e;grind
 b i v hb hg r d e:=by
  rcases hb r d e with h | h
  ·exact absurd h hg
  ·exact h.1
 f k i v X eX g ha r d e:=by
  obtain⟨z,c,h⟩:=p.i k r d e;rw[eX] at c;cases c;obtain⟨j,q,ej,h1,h2,u⟩:=h _ g;obtain rfl:i=j:=Zc
  exact u v (ha q h1 h2)
noncomputable abbrev FL0:=q4a q2t q3a q67 q7q
noncomputable abbrev FL1:=q3e q2t q3a q67 q7q
theorem zzt {x:MF}{fs:Sl MF}{A:RBo}(h0:za A 0=D r) (hl:r.xs.length<=60000) (hP:∀v:Nat,On r v->(v:Int) < x.F_.P_) {p q:Int} :
    lpO FL0 (p,q,0,r.len,0,x,fs,A)=D (.inr (p,q,fs)):=by
 obtain⟨_,e,_⟩:=go (f:=FL0) (n:=r.xs.length) (A:=Unit) (st:=λv _=>(p,q,0,r.len,(v:Int),x,fs,A)) (fin:=λ_ =>.inr (p,q,fs)) (J:=λ_ _=>True)
  (λv hv _ _=>by
    have wk:=zu (show v < 1000000000 by omega);refine⟨(),?_,trivial⟩;show q4a _ _ _ _ _=_;unfold q4a;simp only[jl];rw[jv (by simp only[zf];omega),h0];simp only[jj,ze hv];cases hz:r.xs[v]
    ·simp only[jk,jp,jj,wk]
    · have:=hP v (by unfold On;rw[UJ hv,hz]);simp only[jq,jj,jl]
      rw[jx (by omega),wk])
  (λ_ _=>by
    show q4a _ _ _ _ _=_;unfold q4a;simp only[jl]
    rw[jx (by simp only[zf];omega)])
  (a:=()) trivial
 exact e
theorem zsk(hw:q3a ()=D E)(x:U0×U0):qb8 x=D true:=by
 obtain⟨ok,fs,rs,h,hb⟩:=zuv x;unfold qb8 qas;simp only[h,jj,hw,Do,jk,jp];cases ok with
 |false=>rfl
 |true=>
 obtain⟨hl,hG⟩:=hb rfl;simp only[Do,jk,jp]
 obtain⟨_,e,_⟩:=go (f:=FL1) (n:=fs.xs.length) (A:=Unit) (st:=λi _=>(fs.len,(i:Int),fs)) (fin:=λ_ =>.inr ()) (J:=λ_ _=>True)
  (λi hi _ _=>by
   have wk:=zu (show i < 1000000000 by omega);have H:=hG _ (gc hi);obtain⟨S,u,v,ec,hS,hC⟩:=zxM H;have hV:=H.v;refine⟨(),?_,trivial⟩;show q3e _ _ _ _ _=_;unfold q3e;simp only[jl];rw[jv (by simp only[zf];omega),ze hi];simp only[jj,ec];by_cases c:v=0
   rotate_left
   ·rw[jv c];simp only[jj,jo,wk]
   rw[jx (λh=>h c)];obtain⟨A,B,el,hA,_⟩:=zzs H (zxO hS (hC c));obtain⟨r,z1,z2,z3⟩:=hS.z;obtain⟨h0,g,gl,gp⟩:=hA.row (i:=0) (by rw[<- hS.w.l];exact(UC.1 z1).1);have g:za A 0=D A.xs[0]:=g;simp only[el,jj,g];rw[zzt g (by omega) λv hv=>z3 v (gp v hv r z1 z2)]
   simp only[jj,jm,jo,wk])
  (λ_ _=>by
   show q3e _ _ _ _ _=_;unfold q3e;simp only[jl]
   rw[jx (by simp only[zf];omega)])
  (a:=()) trivial
 rw[show lpO (q3e q2t q3a q67 q7q) (fs.len,0,fs)=_ from e];rfl
deriving instance DecidableEq for Sl
mutual
def zuE:q8->q8->Bool
 |⟨k,t,n,a,s⟩,⟨k',t',n',a',s'⟩=>(decide (k=k') && (decide (t=t') && (decide (n=n') && decide (a=a')))) && zuF s s'
def zuF:Sl q8->Sl q8->Bool
 |⟨l,b⟩,⟨l',b'⟩=>(b == b') && zfT l l'
def zfT:List q8->List q8->Bool
 |[],[]=>E
 |x::l,y::r=>zuE x y && zfT l r
 |_,_=>K
end
mutual
theorem zmp:∀a b:q8,zuE a b=E↔a=b
 |⟨k,t,n,a,s⟩,⟨k',t',n',a',s'⟩=>by
  unfold zuE;have:=zuG s s';simp only[gf,jl,this,q8.mk.injEq];constructor
  ·rintro⟨⟨h1,h2,e,d⟩,c⟩;exact⟨h1,h2,e,d,c⟩
  ·rintro⟨h1,h2,e,d,c⟩;exact⟨⟨h1,h2,e,d⟩,c⟩
theorem zuG:∀a b:Sl q8,zuF a b=E↔a=b
 |⟨l,b⟩,⟨l',b'⟩=>by
  unfold zuF;have:=zmq l l';simp only[gf,beq_iff_eq,this,O.injEq];constructor
  ·rintro⟨h1,h2⟩;exact⟨h2,h1⟩
  ·rintro⟨h1,h2⟩;exact⟨h2,h1⟩
theorem zmq:∀a b:List q8,zfT a b=E↔a=b
 |[],[]=>by unfold zfT;simp
 |x::l,y::r=>by
  unfold zfT;have h1:=zmp x y;have h2:=zmq l r;simp only[gf,h1,h2,List.cons.injEq]
 |[],_::_=>by unfold zfT;simp
 |_::_,[]=>by unfold zfT;simp
end
instance:DecidableEq q8:=λa b=>decidable_of_iff _ (zmp a b)
deriving instance DecidableEq for qr
deriving instance DecidableEq for q7
deriving instance DecidableEq for qt
deriving instance DecidableEq for qw
deriving instance DecidableEq for qa
deriving instance DecidableEq for qh
deriving instance DecidableEq for qf
deriving instance DecidableEq for qe
deriving instance DecidableEq for qz
deriving instance DecidableEq for qm
deriving instance DecidableEq for q1m
deriving instance DecidableEq for ql
end Go.Px
