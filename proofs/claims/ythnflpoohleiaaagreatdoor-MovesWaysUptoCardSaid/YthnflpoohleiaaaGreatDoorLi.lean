/- Part Li. -/
import Derived.Test.YthnflpoohleiaaaGreatDoorB2
set_option linter.unusedVariables false
set_option linter.unusedSimpArgs false
set_option linter.unusedSectionVars false
namespace Go.Px
open Bool renaming true->D,false->E
open Eq renaming refl->U
open Int renaming toNat_natCast->O
open List renaming replicate->W,take_append_drop->qb,sublist_cons_self->qc,mem_of_mem_take->qk,getElem_of_mem->qo,filter_append->qs,count_pos_iff->qv,count_le_length->qx,count_append->qy
open Nat renaming mul_le_mul->Z
open _root_.Option renaming some->B
open Prod renaming fst->K
open Sl renaming mk->F
variable{M V k y:Nat}{a b l:Sl Int}{n:Nd}{p q s:Int}{r:Sl Bool}{t:List PT}{α:Type}
theorem zpC{l:List Nd}(h:zbv l = .ok t):t.length<=l.length:=by
 have:=V8 (I:=λi (a:List PT)=>a.length<=i) l 0 [] je (λi hi a a' c e=>by
  split at e
  ·cases b:xh a l[i] with
   |error x=>rw[b] at e;cases e
   |ok x=>rw[b] at e;cases e;simp;omega
  grind) t h
 omega
theorem zsa{l:List Nd}{s:List PSg}(h:zcF t l = .ok s):s.length<=l.length:=by
 have:=V8 (I:=λi (a:List PSg)=>a.length<=i) l 0 [] je (λi hi a a' c e=>by
  split at e
  ·cases b:xb t l[i] with
   |error x=>rw[b] at e;cases e
   |ok x=>rw[b] at e;cases e;simp;omega
  grind) s h
 omega
theorem znH{p:PP}(a:vo n\/zd1 n)(h:X6 t n=B p):OkO t p:=λb=>(za7 a h).resolve_right Zd
def zd5(t:List PT)(s:PSg):Prop:=OkO t s.R_/\∀p∈s.P_.xs,OkO t p
theorem zzd{s:PSg}(u:FnG n)(h:xb t n = .ok s):zd5 t s:=by
 obtain⟨_,ps,r,b,l,hp,o,_,_⟩:=u;have e:zd3 n (n.K_.xs.length - 2)=r:=by unfold zd3;rw[l];simp
 have g:n.K_.xs.take (n.K_.xs.length - 2)=ps:=by rw[l];simp
 unfold xb at h;simp only[e,g] at h;split at h
 ·cases h
 cases f:ps.foldlM (ya t) [] with
 |error x=>rw[f] at h;cases h
 |ok q=>
  rw[f] at h;simp only[Except.bind] at h;split at h
  ·cases h
  ·rename_i p k;cases h;refine⟨znH (.inr o) k,V8 (I:=λ_ (a:List PP)=>∀p∈a,OkO t p) ps 0 [] je (λi hi a a' w e=>?_) q f⟩;obtain⟨_,m,j,c⟩:=hp _ (gc hi);have k0:zW ps[i]=m:=by unfold zW;rw[j];rfl
   unfold ya at e;rw[k0] at e;split at e
   ·cases e
   split at e
   ·cases e
   rename_i p d;split at e
   ·cases e
   cases e;have v:=znH (.inl c) d;exact zex w λj=>v j
theorem zxE{l:List Nd}{s:List PSg}(d:∀k∈l,k.k_=6->FnG k)(h:zcF t l = .ok s):∀g∈s,zd5 t g:=
 V8 (I:=λ_ (a:List PSg)=>∀g∈a,zd5 t g) l 0 [] je (λi hi a a' j e=>by
  split at e
  ·rename_i f;cases c:xb t l[i] with
   |error x=>rw[c] at e;cases e
   |ok x=>
    rw[c] at e;cases e;intro g b;rcases Ux.1 b with b | b
    ·exact j g b
    ·obtain rfl:=Dr.1 b;exact zzd (d _ (gc hi) f) c
  grind) s h
def zze(L:q13):Prop:=∃t:List PT,L.I_=mkS t/\L.j_=mkS (t.map rT)/\t.length<=20000/\L.s_.xs.length<=50000/\L.q_.xs.length<=50000/\∀g∈L.s_.xs,zd5 t g
theorem UnitG.kids(h:UnitG n):n.K_.xs.length<=4096:=by have:=h.size;have:=@Zm n;omega
theorem UnitG.ty(h:UnitG n):∀k∈n.K_.xs,k.k_=1->wE k/\k.K_.xs.length<=20000:=by
 intro k a h1;have:=ZY a;have:=@Zm k;have:=h.size;rcases h.kid k a with h | h
 ·grind
 ·rw[h.1] at h1;grind
theorem UnitG.fn(h:UnitG n):∀k∈n.K_.xs,k.k_=6->FnG k/\k.K_.xs.length<=20000:=by
 intro k a h1;have:=ZY a;have:=@Zm k;have:=h.size;rcases h.kid k a with h | h
 ·rw[h.1] at h1;grind
 grind
theorem zzf(h:UnitG n):∃(a b c d a' p c' f:Int) (t:List PT) (s:Sl PSg) (rs:Sl RSg),q77 n=B (a,b,mkS t)/\q7v (n,mkS t)=B (c,d,s)/\q3d (rN n)=B (a',p,mkS (t.map rT))/\q31 (rN n,mkS (t.map rT))=B (c',f,rs)/\t.length<=20000/\s.xs.length<=50000/\rs.xs.length<=50000/\∀g∈s.xs,zd5 t g:=by
 have m:=h.kids;have h1:=zui h.ty Zd;have h2:=zr3 h.ty Zd;have q:∀t:List PT,t.length<=20000->∃(c d c' f:Int) (s:Sl PSg) (rs:Sl RSg),q7v (n,mkS t)=B (c,d,s)/\q31 (rN n,mkS (t.map rT))=B (c',f,rs)/\s.xs.length<=50000/\rs.xs.length<=50000/\∀g∈s.xs,zd5 t g:=by
  intro t i;have j:=zxn (t:=mkS t) h.fn i Zd;have l:=zum (t:=t) h.fn i Zd;rw[show(mkS t).xs=t from rfl] at j;cases e:zcF t n.K_.xs with
  |error x=>grind
  |ok s=>
   have:=zsa e;rw[e] at j l;exact⟨_,_,_,_,_,_,j,l,by show s.length<=_;omega,by show(s.map rG).length<=_;grind,zxE (λk m u=>(h.fn k m u).1) e⟩
 cases e:zbv n.K_.xs with
 |error x=>
  rw[e] at h1 h2;obtain⟨c,d,c',f,s,rs,w,v,o,r,q5⟩:=q [] je;exact⟨_,_,c,d,_,_,c',f,[],s,rs,h1,w,h2,v,je,o,r,q5⟩
 |ok t=>
  have i:=zpC e;grind
theorem zpD(g:Ut):∃L b,q3l g=B (L,b)/\(b=D->zze L):=by
 unfold q3l q82;rw[zfK,jj];simp only[jl,zm];by_cases hp:(Xc g).2.2=0
 rotate_left
 ·rw[jv hp];grind
 have k:=zl0 hp;rw[jx (by simp[hp])];generalize C:(Xc g).1=n at k;obtain⟨a,b,c,d,a',M,c',H,t,s,rs,h1,h2,z,w,q,hs,j,l⟩:=zzf k;have I:=k.kids;simp only[h1,jj,h2,zdZ,C,zj,z,w];have u:(rN n).K_.xs=n.K_.xs.map rN:=by rw[zJ]
 have v:(rN n).K_.xs.length=n.K_.xs.length:=by rw[u];simp
 obtain⟨⟨fs,h⟩,e,_⟩:=go (f:=q50 q6d q77 q7v q2w q3d q31) (n:=n.K_.xs.length) (A:=Sl Nd×Sl RNd)
  (st:=λi x=>(b,d,n.K_,n.K_.len,(i:Int),s,rN n,rs,(mkS t,mkS (t.map rT)),x.1,x.2)) (fin:=λx=>(b,d,s,rs,(mkS t,mkS (t.map rT)),x.1,x.2)) (J:=λi x=>x.1.xs.length<=i/\x.2.xs.length<=i)
  (λi hi x m=>by
   obtain⟨fs,h⟩:=x;obtain⟨y,r⟩:=m;simp only at y r;unfold q50;simp only[jl,zm,zj];rw[jv jA,ze hi,jj,ZA Zd Zd];have p:=zu (Zd:i < 1000000000);split
   ·simp only[jj];rw[ze Zd,jj,ZA Zd Zd];simp only[jj,p];exact⟨(_,_),rfl,ji,ji⟩
   ·simp only[jj,p]
    exact⟨(fs,h),rfl,jE,jE⟩)
  (λx m=>by
   unfold q50;simp only[jl]
   rw[jx jA])
  (a:=(F [] E,F [] E)) ⟨je,je⟩
 have e:lpO (q50 q6d q77 q7v q2w q3d q31) (b,d,n.K_,n.K_.len,0,s,rN n,rs,(mkS t,mkS (t.map rT)),F [] E,F [] E)=_:=e;rw[e];simp only[jj];have G:∀f o,zze ⟨f,mkS t,s,o,mkS (t.map rT),rs⟩:=λf o=>⟨t,rfl,rfl,q,hs,j,l⟩
 by_cases c1:b=0<;>by_cases c2:d=0<;>by_cases c3:Sl.len s=Sl.len fs<;>
 ·simp only[c1,c2,c3,jq,jp,jj];exact⟨_,_,rfl,λ_=>G _ _⟩
def QVm(a:Sl PSg)(fs:Sl PNf)(f:PNf):QK->Prop
 | .y=>False
 | .n n=>n=lit []\/0<=idP n f.V_.xs
 | .x n=>0<=idP n f.V_.xs
 | .c y l=>zpy a.xs y l
 | .f y l=>zfR fs.xs y l
structure CliG(L:q13)(ks:List Nd)(C:q1w):Prop where
 k:ks.length<=40000
 f:xI 5000 ks C.J_.xs
 c:C.w_.xs.length=ks.length
 rc:C.g_.xs.length=ks.length
 rf:C.r_.xs.length=ks.length
 g:∀(i:Nat) (c:q1m) (f:PNf),C.w_.xs[i]?=B c->C.J_.xs[i]?=B f->c.L_.xs.length<=40000/\zji (QVm L.s_ C.J_ f) c.L_.xs
 o:OkS L.I_ C.J_
 s:∀g∈L.s_.xs,zd5 L.I_.xs g
 sl:L.s_.xs.length<=50000
theorem zsb(x:Ut×Ut):∃L C b,q3z x=B (L,C,b)/\(b=D->∃ks,CliG L ks C):=by
 obtain⟨libs,text⟩:=x;obtain⟨L,ok,hl,hL⟩:=zpD libs;unfold q3z q8i;simp only[hl,jj,zfK,zm,zdZ,zj,jl];cases ok with
 |false=>simp only[Dy,jq,jj];grind
 |true=>
 obtain⟨t,ty,rty,ht,hs,hrs,hsg⟩:=hL rfl;simp only[Dg,jk,jp,jj,jl];by_cases hp:(Xc text).2.2=0
 rotate_left
 ·rw[jv hp];grind
 have hg:=zl0 hp;rw[jx (by simp[hp])];generalize (Xc text).1=n at hg;obtain⟨a,e,fns,h1,hf⟩:=zup hg L.s_ (mkS t) (λs hs=>(hsg s hs).1) hs (by show t.length<=_;omega);obtain⟨S,h2,hrf⟩:=zr9 hg L.q_ t hrs (by omega);rw[ty,rty,h1,jj,h2,jj];have hk:=hg.kids;have hsz:=hg.size;have ek:(rN n).K_.xs=n.K_.xs.map rN:=by rw[zJ]
 have ekl:(rN n).K_.xs.length=n.K_.xs.length:=by rw[ek];simp
 obtain⟨⟨cs,rcs⟩,q,j1,j2,j4⟩:=go (f:=q57 q3l q6d q2w q8a q48 q5e q2m) (n:=n.K_.xs.length) (A:=Sl q1m×Sl q1n)
  (st:=λi x=>(e,n.K_,n.K_.len,(i:Int),L,rN n,fns,S.1,S.2,x.1,x.2)) (fin:=λx=>(e,L,fns,S.1,S.2,x.1,x.2)) (J:=λi x=>x.1.xs.length<=i/\x.2.xs.length=x.1.xs.length/\((∀k∈n.K_.xs,FnG k)->x.1.xs.length=i/\∀(j:Nat) (hj:j < n.K_.xs.length) c,x.1.xs[j]?=B c->q5e n.K_.xs[j]=B c))
  (λi hi x hx=>by
   obtain⟨cs,rcs⟩:=x;obtain⟨x1,x2,x4⟩:=hx;simp only at x1 x2 x4;unfold q57;simp only[jl,zm,zj];rw[jv (by simp only[zh];omega),ze hi,jj];have wk:=zu (show i < 1000000000 by omega);have hx:za (rN n).K_ (i:Int)=B (rN n.K_.xs[i]):=by rw[ze (by omega)];grind
   have hki:=ZY (gc hi);by_cases h6:n.K_.xs[i].k_=6
   ·have hf:=(hg.fn _ (gc hi) h6).1;obtain⟨c,l1,l4,l5⟩:=zpw (Q:=λ_=>True) hf (by omega) trivial λ_ _ _=>zl3 (λ_=>⟨λ_=>trivial,λ_=>trivial,λ_=>trivial,λ_=>trivial,λ_=>trivial⟩) _
    obtain⟨rc,l2⟩:=znD hf (by omega);simp only[h6,jq,l1,jj,hx,l2];rw[ZA (by omega) (by omega),jj,ZA (by omega) (by omega)];simp only[jj,wk]
    exact⟨(_,_),rfl,by simp;omega,by simp;omega,λh=>⟨by grind,λj hj c' hc=>by
     have hxl:=(x4 h).1
     grind⟩⟩
   ·simp only[h6,jp,jj,wk]
    exact⟨(cs,rcs),rfl,by grind,by grind,λh=>absurd (h _ (gc hi)).1 h6⟩)
  (λx hx=>by
   unfold q57;simp only[jl]
   rw[jx (by simp only[zh];omega)])
  (a:=(F [] E,F [] E)) ⟨by simp,by simp,λ_=>⟨rfl,λj _ c hc=>by cases hc⟩⟩
 have q:lpO (q57 q3l q6d q2w q8a q48 q5e q2m) (e,n.K_,n.K_.len,0,L,rN n,fns,S.1,S.2,F [] E,F [] E)=_:=q;rw[q];simp only[jj];have G:e=0->Sl.len fns=Sl.len cs->Sl.len S.2=Sl.len fns->CliG L n.K_.xs ⟨fns,cs,S.2,rcs⟩:=by
  intro he h1 h2;rcases hf with⟨h,_⟩ | ⟨_,hF,hO,hD⟩
  ·grind
  have kg:∀k∈n.K_.xs,FnG k:=λk hk=>by
   obtain⟨i,hi,rfl⟩:=qo hk;exact(hF.2 i hi).g
  obtain⟨j5,j6⟩:=j4 kg;have hF1:=hF.1;simp only[zh] at h1 h2 j2;refine⟨by omega,hF,j5,by grind,by grind,λi c f hc hf=>?_,by grind,by rw[ty];exact hsg,hs⟩;obtain⟨hi',_⟩:=U5.1 hf;have hi:i < n.K_.xs.length:=by grind
  have hz:=ZY (gc hi);have kx:∀m,KnX ((L.s_,mkS t,0,(i:Int)),fns) m->0<=idP m f.V_.xs:=λm hm=>by
   obtain⟨f',⟨j,hj,hf'⟩,h⟩:=hm;grind
  obtain⟨c',e1,e2,e3⟩:=zpw (Q:=QVm L.s_ fns f) (kg _ (gc hi)) (by omega) (.inl rfl) λb hb h9=>(hD i hi b hb h9).mono λm hm=>⟨λc=>(hm.q c).imp id (kx _),hm.y,λc=>kx _ (hm.s c),hm.c,hm.f⟩
  grind
 by_cases c1:e=0<;>by_cases c2:S.1.2.2.2=0<;>by_cases c3:Sl.len fns=Sl.len cs<;>
 ·simp only[c1,c2,c3,jq,jp,jj];exact⟨_,_,_,rfl,λh=>by first | exact⟨_,G c1 c3 (by grind)⟩ | cases h⟩
structure FuncG(x:ql):Prop where
 c:zji (QVm x.G_ x.f_ x.F_) x.c_.L_.xs
 o:OkS x.W_ x.f_
 f:x.F_∈x.f_.xs
 s:∀g∈x.G_.xs,zd5 x.W_.xs g
 sl:x.G_.xs.length<=50000
 fl:x.f_.xs.length<=50000
 pr:0<=x.F_.P_/\x.F_.P_<=x.F_.V_.xs.length
 l:x.c_.L_.xs.length<=40000
 v:x.F_.V_.xs.length<=60000
theorem zur(x:Ut×Ut):∃b fs rs,q1s x=B (b,fs,rs)/\(b=D->fs.xs.length<=40000/\∀x∈fs.xs,FuncG x):=by
 obtain⟨L,C,b,h,hb⟩:=zsb x;unfold q1s q91;rw[h,jj];cases b with
 |false=>exact⟨_,_,_,rfl,λh=>by cases h⟩
 |true=>
 obtain⟨ks,P,d,H,t,s,z,w,r,e⟩:=hb rfl;simp only[Dg,jk,jp];have I:=d.1
 obtain⟨⟨fs,rs⟩,q,G,_,u⟩:=go (f:=q5n q3z) (n:=ks.length) (A:=Sl ql×Sl q15)
  (st:=λi x=>(C.J_.len,(i:Int),L,C,x.1,x.2)) (fin:=λx=>(x.1,x.2)) (J:=λi x=>x.1.xs.length=i/\x.2.xs.length=i/\∀y∈x.1.xs,FuncG y)
  (λi hi x g=>by
   obtain⟨fs,rs⟩:=x;obtain⟨m,j,k⟩:=g;simp only at m j k;unfold q5n;simp only[jl];rw[jv jA,ze Zd,jj,ze Zd,jj,ZA Zd Zd,jj,ze Zd,jj,ze Zd,jj,ZA Zd Zd,jj,zu Zd];refine⟨(_,_),rfl,by simp[m],by simp[j],λy c=>?_⟩;rcases Ux.1 c with c | c
   ·exact k y c
   rw[Dr] at c;subst c;obtain⟨o,g2⟩:=z i _ _ (UC Zd) (UC Zd);refine⟨g2,w,gc _,r,e,jE,by have h1:=(d.2 i hi).p;have h2:=(d.2 i hi).v;grind,o,?_⟩;have M:=(d.2 i hi).v;have N:=(d.2 i hi).l
   grind)
  (λx g=>by
   unfold q5n;simp only[jl]
   rw[jx jA])
  (a:=(F [] E,F [] E)) ⟨je,je,je⟩
 have q:lpO (q5n q3z) (C.J_.len,0,L,C,F [] E,F [] E)=_:=q;rw[q];exact⟨_,_,_,rfl,λ_=>⟨Zd,u⟩⟩
theorem vJ{β:Type}[DecidableEq α](k b:α)(z v:β)(l:List (α×β)):zX k z (Z8 b v l)=if b=k then v else zX k z l:=by
 unfold zX
 induction l with
 |nil=>by_cases h:b=k<;>simp[Z8,yl,h]
 |cons a l c=>
  obtain⟨a,u⟩:=a;unfold Z8;by_cases h:a=b<;>by_cases h2:a=k<;>grind[yl]
abbrev MF:=ql
theorem zbz{x:MF}{i:Nat}(hi:i < x.c_.L_.xs.length):q1v (x,(i:Int))=B (x.c_.L_.xs[i],D):=by
 unfold q1v qbk;simp only[jl];rw[jx Zd];simp only[jj,zh];rw[jx ji,ze hi];rfl
section
variable {x:MF}(H:FuncG x){i:Nat}(hi:i < x.c_.L_.xs.length)
include H hi
theorem zsc:∃l,q1o (x,(i:Int))=B l/\l.xs.length<=2/\∀k∈l.xs,∃j:Nat,k=(j:Int)/\j < x.c_.L_.xs.length:=by
 have f:=zbz hi;obtain⟨a,e,o,b,d⟩:=H.c;have r:=H.l;have u:=H.v;have s:x.c_.L_.xs.length=a.length+1:=by rw[o];simp
 have g:=(d _ (gc hi)).t;have q:i=a.length->x.c_.L_.xs[i].O_=14:=λh=>by
  grind
 generalize x.c_.L_.xs[i]=n at *
 unfold q1o qcb;simp only[f,jj,Dg,jk,jp,jl];by_cases c:n.O_=14
 ·simp only[c,jq,jj,jo];grind
 have p:i < a.length:=by
  grind
 have w:Uw ((i:Int)+1)=((i+1:Nat):Int):=zu Zd;have two:∀k:Int,k=n.H_\/k=((i+1:Nat):Int)->∃j:Nat,k=(j:Int)/\j < x.c_.L_.xs.length:=by
  rintro k (rfl | rfl)
  ·exact⟨n.H_.toNat,Zd,Zd⟩
  ·exact⟨i+1,rfl,Zd⟩
 rw[jx c];simp only[jj];by_cases c2:n.O_=15
 ·simp only[c2,js,jq,jj,jo];grind
 simp only[c2,jr,jp,jk,w];by_cases c3:n.O_=11
 ·simp only[c3,jq,jj,jo];exact⟨_,rfl,je,λk m=>two k (.inl (Dr.1 m))⟩
 rw[jx c3];by_cases c4:n.O_=10
 ·rw[jv c4];simp only[jj];by_cases c5:n.H_≠((i+1:Nat):Int)
  ·simp only[gm c5,jq,jj,jo];grind
  ·simp only[decide_eq_false c5,jk,jp,jj,jm,w];grind
 ·rw[jx c4];simp only[jj,jk,jp,jm,w];grind
theorem znI:∃y,q1l (x,(i:Int))=B y/\(0<=y->∃v:Nat,y=(v:Int)/\v < x.F_.V_.xs.length):=by
 have e:=zbz hi;have f:=H.v;generalize x.c_.L_.xs[i]=n at *
 unfold q1l qbl;simp only[e,jj,jq,jl];have a:∀b:Bool,∃y,((B (b,x,n)).bind λc:Bool×MF×CIx=>if c.1=D then(q1r (c.2.1.F_,c.2.2.X_)).bind λd=>B d else B (-1))=B y/\(0<=y->∃v:Nat,y=(v:Int)/\v < x.F_.V_.xs.length):=by
  intro b;cases b
  ·exact⟨-1,rfl,λh=>Zd⟩
  ·refine⟨idP n.X_ x.F_.V_.xs,?_,λh=>⟨_,(D6 h).symm,?_⟩⟩
   ·simp only[jj,jq];rw[wX _ _ Zd];rfl
   ·have:idP n.X_ x.F_.V_.xs < x.F_.V_.xs.length:=yC.2.1;omega
 split
 ·exact a D
 split
 ·exact a _
 ·exact a E
def nmO(n:CIx):List Ut:=((n.A_::n.B_::n.Q_.xs).map qz.N_).filter λs=>decide (s≠lit [])
theorem zxF:∃l,q9k x.c_.L_.xs[i]=B l/\l.xs=nmO x.c_.L_.xs[i]/\l.xs.length<=60000/\∀y∈l.xs,0<=idP y x.F_.V_.xs:=by
 unfold nmO;obtain⟨X,e,P,M,I⟩:=H.c;have p:=H.l;have Q:=H.v;have g:=I _ (gc hi);generalize x.c_.L_.xs[i]=n at *
 have N:¬ (5<=n.O_/\n.O_<=9):=λh=>g.y h.1 h.2
 have gl:=g.l.1;generalize u:n.A_::n.B_::n.Q_.xs=T;have z:T.length=n.Q_.xs.length+2:=jE
 have C:∀t∈T,t.N_=lit []\/0<=idP t.N_ x.F_.V_.xs:=by
  intro t d;rw[<- u] at d;rcases UU.1 d with rfl | d
  ·exact g.a
  rcases UU.1 d with rfl | d
  ·exact g.b
  ·exact g.l.2 t d
 obtain⟨l,e,S,l2⟩:=go (f:=qc1) (n:=T.length) (A:=Sl Ut) (st:=λj a=>((T.length:Int),(j:Int),a,(⟨T,D⟩:Sl qz))) (fin:=λa=>a)
  (J:=λm l=>l.xs.length<=m/\l.xs=((T.take m).map qz.N_).filter λs=>decide (s≠lit []))
  (λj r l p=>by
   obtain⟨G,q⟩:=p;have R:=zu (Zd:j < 1000000000);rw[<- D7 r,D2,qs,<- q];unfold qc1;simp only[jl];rw[jv Zd,ze (s:=⟨T,D⟩) r,jj,jj];by_cases c:T[j].N_=lit []
   ·grind
   ·simp only[c,Dc,ju,jq];rw[ZA Zd Zd]
    grind)
  (λl p=>by
   unfold qc1
   grind)
  (a:=F [] E) ⟨je,je⟩
 rw[Dl] at l2;refine⟨l,?_,l2,Zd,λy L=>?_⟩
 rotate_left
 ·rw[l2,Dz] at L;grind
 unfold q9k qfl;have o:∀k:Int,5<=k->k<=9->¬ n.O_=k:=λk h1 h2 h=>N Zd
 simp only[o 5 Zd Zd,o 6 Zd Zd,o 7 Zd Zd,o 8 Zd Zd,o 9 Zd Zd,jr,jk,jp,jj];have w:zo 24 (F [n.A_,n.B_] D) n.Q_.xs=B ⟨T,D⟩:=by
  have V:(2+n.Q_.xs.length) * 24<=60000 * 24:=Z Zd (UD _);rw[yy ji ji,<- u];simp
 have e:lpO qc1 ((T.length:Int),0,F [] E,(⟨T,D⟩:Sl qz))=_:=e;simp only[w,jj,zh,e]
def rdO(x:MF)(n:CIx):List Int:=(nmO n).map λs=>idP s x.F_.V_.xs
theorem zh9:∃l,q1g (x,(i:Int))=B l/\l.xs=rdO x x.c_.L_.xs[i]/\l.xs.length<=60000/\∀y∈l.xs,∃v:Nat,y=(v:Int)/\v < x.F_.V_.xs.length:=by
 obtain⟨N,p,o,t,h⟩:=zxF H hi;have k:=zbz hi;have w:=H.v;unfold rdO;rw[<- o];generalize x.c_.L_.xs[i]=n at *
 obtain⟨l,e,u,l2⟩:=go (f:=q6x q1v q9k q1r) (n:=N.xs.length) (A:=Sl Int) (st:=λj a=>(N.len,(j:Int),x,a,N)) (fin:=λa=>a)
  (J:=λm l=>l.xs.length<=m/\l.xs=(N.xs.take m).map λs=>idP s x.F_.V_.xs)
  (λj c l g=>by
   obtain⟨r,b⟩:=g;have q:=zu (Zd:j < 1000000000);unfold q6x;simp only[jl];rw[jv jA,ze c,jj,jj,wX _ _ Zd,jj,ZA Zd Zd,jj,q]
   exact⟨_,rfl,ji,by rw[<- D7 c,D2,<- b];rfl⟩)
  (λl g=>by
   unfold q6x;simp only[jl]
   rw[jx jA])
  (a:=F [] E) ⟨je,je⟩
 rw[Dl] at l2;refine⟨l,?_,l2,Zd,λy d=>?_⟩
 rotate_left
 ·rw[l2] at d;obtain⟨s,hs,rfl⟩:=Dw.1 d;have h1:=h s hs;have h2:idP s x.F_.V_.xs < x.F_.V_.xs.length:=yC.2.1;exact⟨_,(D6 h1).symm,Zd⟩
 unfold q1g qbm;simp only[k,p,jj,jq];rw[show lpO (q6x q1v q9k q1r) (N.len,0,x,F [] E,N)=_ from e];rfl
end
theorem znJ{x:MF}{p:PP}(h:OkO x.W_.xs p):∃b,q4k (x,p)=B b/\(b=D->p.M_=2):=by
 unfold q4k qbn;simp only[jl];by_cases c:p.M_=2
 ·obtain⟨h0,h1⟩:=h c;obtain⟨k,a⟩:∃k:Nat,p.t_=(k:Int):=⟨_,(D6 h0).symm⟩
  rw[a] at h1;rw[jv c,a,ze Zd];exact⟨_,rfl,λ_=>c⟩
 ·rw[jx c];exact⟨_,rfl,λh=>by cases h⟩
theorem zzg(a:Sl PSg)(n:CIx)(h:a.xs.length<=50000):q7n (a,n)=B (idx (λx=>decide (x.N_=n.Y_)) a.xs,n):=by
 have:=wh (f:=q6y q65) (xs:=a.xs) (p:=λx=>decide (x.N_=n.Y_)) (st:=λi=>(a,a.len,(i:Int),n)) (yes:=λi =>.inl ((i:Int),n)) (no :=.inr n)
  (λi hi=>by
   unfold q6y;simp only[jl];rw[jv jA,ze hi,jj];show((B (decide (a.xs[i].N_=n.Y_),n)).bind _)=_;simp only[jj,zu (Zd:i < 1000000000)]
   grind)
  (by unfold q6y;simp only[jl];rw[jx jA])
 unfold q7n qbo;have this:lpO (q6y q65) (a,a.len,0,n)=_:=this;rw[this];unfold idx;cases a.xs.findIdx? _<;>rfl
theorem zAz(a:Sl PNf)(n:CIx)(h:a.xs.length<=50000):q7o (a,n)=B (idx (λx=>decide (x.N_=n.Y_)) a.xs,n):=by
 have:=wh (f:=q6z q66) (xs:=a.xs) (p:=λx=>decide (x.N_=n.Y_)) (st:=λi=>(a,a.len,(i:Int),n)) (yes:=λi =>.inl ((i:Int),n)) (no :=.inr n)
  (λi hi=>by
   unfold q6z;simp only[jl];rw[jv jA,ze hi,jj];show((B (decide (a.xs[i].N_=n.Y_),n)).bind _)=_;simp only[jj,zu (Zd:i < 1000000000)]
   grind)
  (by unfold q6z;simp only[jl];rw[jx jA])
 unfold q7o qbp;have this:lpO (q6z q66) (a,a.len,0,n)=_:=this;rw[this];unfold idx;cases a.xs.findIdx? _<;>rfl
section
variable {x:MF}(H:FuncG x){i:Nat}(hi:i < x.c_.L_.xs.length)
include H hi
theorem zus:∃a b c d,q4l (x,(i:Int))=B (a,b,c,d)/\(d=D->c∈rdO x x.c_.L_.xs[i]/\∃v:Nat,c=(v:Int)/\x.F_.V_.xs[v]?=B b):=by
 have p:=zbz hi;have y:=H.v;obtain⟨u,e,t,m,o⟩:=H.c;have g:=o _ (gc hi);generalize x.c_.L_.xs[i]=n at *
 have j:∀s,0<=idP s x.F_.V_.xs->∃(v:Nat) (h:v < x.F_.V_.xs.length),idP s x.F_.V_.xs=(v:Int):=λs hs=>by
  have h2:idP s x.F_.V_.xs < x.F_.V_.xs.length:=yC.2.1;exact⟨(idP s x.F_.V_.xs).toNat,Zd,Zd⟩
 unfold q4l qbq;simp only[p,jj,Dg,jk,jp,jl];by_cases c0:n.O_=0
 rotate_left
 ·rw[jv c0];exact⟨_,_,_,_,rfl,λh=>by cases h⟩
 rw[jx (by simp[c0])];by_cases c1:n.A_.N_=lit []
 ·rw[jv c1];exact⟨_,_,_,_,rfl,λh=>by cases h⟩
 rw[jx c1];by_cases c2:n.A_.n_≠0
 ·simp only[gm c2,jj,jq];grind
 have q:0<=idP n.A_.N_ x.F_.V_.xs:=(show _\/_ from g.a).resolve_left c1;obtain⟨v,f,l⟩:=j _ q;obtain⟨w,k,r⟩:=j _ (show 0<=idP n.X_ x.F_.V_.xs from g.x c0);simp only[decide_eq_false c2,jj,jk,jp];rw[wX _ _ Zd,jj,l,ze f,jj,wX _ _ Zd,jj,r,ze k];exact⟨_,_,_,_,rfl,λ_=>⟨Dw.2 ⟨n.A_.N_,Dz.2 ⟨je,by simpa using c1⟩,l⟩,v,rfl,UC f⟩⟩
theorem zut:∃ps,q3h (x,x.c_.L_.xs[i])=B ps/\ps.xs.length<=50000/\∀(k:Nat) (p:PP),ps.xs[k]?=B p->OkO x.W_.xs p/\∃t,x.c_.L_.xs[i].Q_.xs[k]?=B t/\(p.M_=2->t.N_≠lit []):=by
 obtain⟨A,e,y,q,r⟩:=H.c;have g:=r _ (gc hi);generalize x.c_.L_.xs[i]=n at *
 have key:∀{l:List PP},(∀p∈l,OkO x.W_.xs p)->l.length=(n.Q_.xs.map qz.N_).length->Fit (n.Q_.xs.map qz.N_) l->∀(k:Nat) (p:PP),l[k]?=B p->OkO x.W_.xs p/\∃t,n.Q_.xs[k]?=B t/\(p.M_=2->t.N_≠lit []):=by
  intro l v w m k p hp;obtain⟨a,e⟩:=U5.1 hp;have d:k < n.Q_.xs.length:=jE
  exact⟨v p (UM hp),_,UC d,m k _ p jE hp⟩
 have none:∀(k:Nat) (p:PP),([]:List PP)[k]?=B p->OkO x.W_.xs p/\∃t,n.Q_.xs[k]?=B t/\(p.M_=2->t.N_≠lit []):=λk p h=>by simp at h
 have gl:=g.l.1;unfold q3h qb3;simp only[jl];by_cases c0:n.O_=12
 ·obtain⟨k,s,h1,h2,j,b⟩:zpy x.G_.xs n.Y_ (n.Q_.xs.map qz.N_):=g.c c0;obtain⟨a,rfl⟩:=U5.1 h2;rw[jv c0,zzg _ _ H.sl];simp only[jj,h1];rw[jv Zd,ze a];exact⟨_,rfl,jE,key (H.s _ (gc a)).2 j.symm b⟩
 rw[jx c0];by_cases c1:n.O_=13
 ·obtain⟨k,f,h1,h2,j,b,C⟩:zfR x.f_.xs n.Y_ (n.Q_.xs.map qz.N_):=g.f c1;obtain⟨a,rfl⟩:=U5.1 h2;rw[jv c1,zAz _ _ H.fl];simp only[jj,h1];rw[jv Zd,ze a,jj,jj,Yr Zd Zd b];have u:(x.f_.xs[k].P_).toNat=(n.Q_.xs.map qz.N_).length:=Zd
  simp only[jj,jo,u];have z:(n.Q_.xs.map qz.N_).length<=x.f_.xs[k].V_.xs.length:=Zd
  refine⟨_,rfl,?_,key (λp hp=>H.o _ (gc a) p (qk (by simpa using hp))) ?_ ?_⟩
  all_goals grind
 ·rw[jx c1];exact⟨_,rfl,je,none⟩
theorem znK:∃l,q16 (x,(i:Int))=B l/\l.xs.length<=50000/\l.xs.Sublist (rdO x x.c_.L_.xs[i]):=by
 obtain⟨a,b,c,d,P,hp⟩:=zus H hi;obtain⟨ps,es,pl,z⟩:=zut H hi;have X:=zbz hi;have hv:=H.v;have C:∀p∈x.F_.V_.xs,OkO x.W_.xs p:=H.o _ H.f
 generalize x.c_.L_.xs[i]=n at *
 unfold q16 qbr;simp only[P,jj,jl];cases d with
 |true=>
  obtain⟨r,v,rfl,w⟩:=hp rfl;obtain⟨m,y,_⟩:=znJ (x:=x) (C b (UM w));simp only[jq,y,jj];by_cases c1:a.M_=b.M_
  ·rw[jv c1];have g:∀q:Bool,∃l,(((B ((v:Int),q)).bind λG:Int×Bool=>if G.2=D then B (Sum.inl (F [G.1] D)) else B (Sum.inl (F [] E)):Uv (Sl Int⊕Int×MF)).bind λY=>Sum.elim (λS:Sl Int=>B S) (λj:Int×MF=>(q1v (j.2,j.1)).bind λM:CIx×Bool=>(q3h (j.2,M.1)).bind λL:Sl PP=>(lpO (q5v q4l q4k q1v q3h q1r) (L,L.len,0,j.2,M.1,F [] E)).bind λu:Sl Int=>B u) Y)=B l/\l.xs.length<=50000/\l.xs.Sublist (rdO x n):=by
    intro q;cases q
    ·exact⟨_,rfl,je,je⟩
    ·exact⟨_,rfl,je,List.singleton_sublist.2 r⟩
   cases m
   ·exact g _
   ·exact g D
  ·rw[jx c1];exact⟨_,rfl,je,je⟩
 |false=>
  simp only[jk,jp,jj,jm,X,es]
  obtain⟨l,e,l1,l2⟩:=go (f:=q5v q4l q4k q1v q3h q1r) (n:=ps.xs.length) (A:=Sl Int) (st:=λk a=>(ps,ps.len,(k:Int),x,n,a)) (fin:=λa=>a) (J:=λk a=>a.xs.length<=k/\a.xs.Sublist ((((n.Q_.xs.take k).map qz.N_).filter λs=>decide (s≠lit [])).map λs=>idP s x.F_.V_.xs))
   (λk N l I=>by
    obtain⟨R,V⟩:=I;have T:=zu (Zd:k < 1000000000);obtain⟨ho,t,r,hm⟩:=z k _ (UC N);obtain⟨m,y,Q⟩:=znJ (x:=x) ho;obtain⟨h,rfl⟩:=U5.1 r;unfold q5v;simp only[jl];rw[jv jA,ze N];simp only[jj,y];rw[<- D7 h,D2,qs,D2];cases m
    ·simp only[jk,jp,jj,T];grind
    ·simp only[jq,ze h,jj];rw[wX _ _ Zd,jj,ZA Zd Zd]
     grind)
   (λl I=>by
    unfold q5v;simp only[jl]
    rw[jx jA])
   (a:=F [] E) ⟨je,je⟩
  rw[show lpO (q5v q4l q4k q1v q3h q1r) (ps,ps.len,0,x,n,F [] E)=_ from e];refine⟨l,rfl,Zd,l2.trans ?_⟩;exact(((((List.take_sublist _ _).map _).trans ((qc _ _).trans (qc _ _))).filter _).map _)
end
abbrev MpQ:=Ut×Sl (Int×Bool)
def wj(a l:Sl Int):Prop:=a.xs.Perm l.xs
theorem wj.len(h:wj a b):a.xs.length=b.xs.length:=List.Perm.length_eq h
theorem wj.mem(h:wj a b){x:Int}:x∈a.xs↔x∈b.xs:=List.Perm.mem_iff h
theorem wj.trans{c:Sl Int}(h:wj a b)(g:wj b c):wj a c:=List.Perm.trans h g
theorem wj.rfl:wj l l:=List.Perm.refl _
theorem zmb{m:MpQ}{i:Nat}(hi:i < l.xs.length)(a:k < l.xs.length):∃b,q23 ((i:Int),(k:Int),s,l,m)=B (s,b,m)/\wj b l:=by
 unfold q23 qcc;simp only[ze hi,ze a,jj];rw[ze (by simpa[Sl.set] using a)];exact⟨_,U _,List.set_set_perm hi a⟩
theorem zmc{m:MpQ}{i:Nat}(hi:i < l.xs.length)(a:k < l.xs.length):∃b,q2i ((i:Int),(k:Int),s,l,m)=B (b,s,l,m):=by
 unfold q2i qcd;simp only[ze hi,ze a,jj];grind
theorem zA6{m:MpQ}:∀(j:Nat) (l:Sl Int),j < l.xs.length->l.xs.length<=1000000000000->∃d,lpO (q6l q2i q23) ((j:Int),s,l,m)=B (s,d,m)/\wj d l:=by
 intro j
 induction j using Nat.strongRecOn with
 |ind j k=>
  intro l f g;have hw:Uw ((Uw ((j:Int) - 1)).tdiv 2)=(((j - 1) / 2:Nat):Int):=by
   rw[zF (n:=(j:Int) - 1) Zd Zd];cases j with
   |zero=>rfl
   |succ j=>
    rw[(Zd:((j+1:Nat):Int) - 1=(j:Int)),Int.tdiv_eq_ediv_of_nonneg Zd,zF Zd Zd];omega
  have hs:∀X,q6l q2i q23 ((j:Int),s,l,m)=X->X=B (.done (s,l,m))\/∃a,j≠0/\X=B (.next ((((j - 1) / 2:Nat):Int),s,a,m))/\wj a l:=by
   intro X i;subst i;unfold q6l;simp only[hw,jl];by_cases c:(((j - 1) / 2:Nat):Int)=(j:Int)
   ·grind
   ·obtain⟨b,e⟩:=zmc (s:=s) (m:=m) f (Zd:(j - 1) / 2 < l.xs.length);obtain⟨a,o,q⟩:=zmb (s:=s) (m:=m) (Zd:(j - 1) / 2 < l.xs.length) f;rw[jx c,e];grind
  rcases hs _ (U _) with h | ⟨a,h0,h,q⟩
  ·exact⟨l,zw h,.rfl⟩
  ·obtain⟨d,e,q'⟩:=k ((j - 1) / 2) Zd a (by rw[q.len];omega) (by rw[q.len];exact g);exact⟨d,by rw[zB h,e],q'.trans q⟩
theorem zzh{i0:Int}{m:MpQ}{n:Nat}:∀(d i:Nat) (l:Sl Int),n<=i+d->n<=l.xs.length->l.xs.length<=1000000000000->i<=1000000000000->∃a o,lpO (q4o q2i q23) (i0,(n:Int),(i:Int),s,l,m)=B (i0,a,s,o,m)/\wj o l:=by
 intro d
 induction d with
 |zero=>
  intro i l A k w hi;refine⟨i,l,zw ?_,.rfl⟩;unfold q4o;simp only[jl];rw[zF (n:=2 * (i:Int)) Zd Zd,zF Zd Zd,jv Zd];rfl
 |succ d G=>
  intro i l A k w hi;have hs:∀X,q4o q2i q23 (i0,(n:Int),(i:Int),s,l,m)=X->(X=B (.done (i0,(i:Int),s,l,m)))\/∃(j:Nat) (g:Sl Int),i < j/\j < n/\X=B (.next (i0,(n:Int),(j:Int),s,g,m))/\wj g l:=by
   intro X C;subst C;unfold q4o;simp only[jl];rw[zF (n:=2 * (i:Int)) Zd Zd,zF (n:=2 * (i:Int)+1) Zd Zd];by_cases c:(n:Int)<=2 * (i:Int)+1
   ·grind
   rw[jx c];have y:decide (2 * (i:Int)+1 < 0)=false:=decide_eq_false Zd;have H:Uw (2 * (i:Int)+1+1)=((2 * i+2:Nat):Int):=by rw[zF Zd Zd];omega
   have v:(2 * (i:Int)+1)=((2 * i+1:Nat):Int):=Zd
   simp only[y,jj,jk,jp,H]
   have f:∀j:Nat,i < j->j < n->∀Y,((q2i ((j:Int),(i:Int),s,l,m)).bind λt:Bool×Int×Sl Int×Ut×Sl (Int×Bool)=>if(!t.1)=D then B (Sum.inl (i0,(i:Int),t.2)) else(q23 ((i:Int),(j:Int),t.2)).bind λz:Int×Sl Int×Ut×Sl (Int×Bool)=>B (Sum.inr (i0,(n:Int),(j:Int),z)))=Y->
       ((Y.bind λr=>Sum.elim (λu=>B (Step.done u)) (λp=>B (Step.next p)) r)=B (.done (i0,(i:Int),s,l,m)))\/∃(j:Nat) (g:Sl Int),i < j/\j < n/\(Y.bind λr=>Sum.elim (λu=>B (Step.done u)) (λp=>B (Step.next p)) r)=B (.next (i0,(n:Int),(j:Int),s,g,m))/\wj g l:=by
    intro j h1 h2 Y x;subst x;obtain⟨b,e⟩:=zmc (s:=s) (m:=m) (Zd:j < l.xs.length) (Zd:i < l.xs.length);obtain⟨g,I,q⟩:=zmb (s:=s) (m:=m) (Zd:i < l.xs.length) (Zd:j < l.xs.length);rw[e];grind
   by_cases c2:((2 * i+2:Nat):Int) < (n:Int)
   · obtain⟨b,e⟩:=zmc (s:=s) (m:=m) (Zd:2 * i+2 < l.xs.length) (Zd:2 * i+1 < l.xs.length);rw[jv c2,v,e];cases b
     ·simp only[jj,jk,jp];exact f (2 * i+1) Zd Zd _ (U _)
     ·simp only[jj,jq];exact f (2 * i+2) Zd Zd _ (U _)
   ·rw[jx c2,v];simp only[jj,jk,jp];exact f (2 * i+1) Zd Zd _ (U _)
  rcases hs _ (U _) with h | ⟨j,g,h0,h1,h,q⟩
  ·exact⟨i,l,zw h,.rfl⟩
  ·obtain⟨a,o,e,q'⟩:=G j g Zd (by rw[q.len];exact k) (by rw[q.len];exact w) Zd;exact⟨a,o,by rw[zB h,e],q'.trans q⟩
theorem zAA{m:MpQ}(h0:0 < l.xs.length)(t:l.xs.length<=1000000000000):∃x d,q36 (s,l,m)=B (x,s,m,d)/\x∈l.xs/\d.xs.length+1=l.xs.length/\(∀y∈d.xs,y∈l.xs)/\∀y∈l.xs,y=x\/y∈d.xs:=by
 obtain⟨n,j⟩:∃n,l.xs.length=n+1:=⟨l.xs.length - 1,Zd⟩
 have hw:∀k:Nat,k=n+1->Uw ((k:Int) - 1)=(n:Int):=λk r=>by rw[zF Zd Zd];omega
 obtain⟨h,g,f⟩:=zmb (s:=s) (m:=m) (l:=l) (i:=0) (k:=n) Zd Zd;obtain⟨a,l2,e,p⟩:=zzh (s:=s) (m:=m) (i0:=0) (n:=n) n 0 h Zd (by rw[f.len];omega) (by rw[f.len];omega) Zd;have q:=p.trans f;have b:n < l2.xs.length:=by rw[q.len];omega
 have g:q23 (0,(n:Int),s,l,m)=_:=g;have e:lpO (q4o q2i q23) (0,(n:Int),0,s,h,m)=_:=e;have w1:=hw _ j;have o:=hw _ (q.len.trans j);unfold q36 qad q2g q5s q7p q92 qbd qd2;simp only[jj,zh,w1,g,e,o,ze b];rw[Yr Zd Zd Zd];refine⟨_,_,U _,q.mem.1 (gc b),?_,λy c=>q.mem.1 (qk c),λy c=>?_⟩
 ·simp;omega
 ·have c:=q.mem.2 c;rw[<- qb n l2.xs,Di b,Uy (show l2.xs.length<=n+1 by rw[q.len];omega)] at c;grind
theorem zuu(k:Int)(v:Bool)(l:List (Int×Bool)):(Z8 k v l).map K=if k∈l.map K then l.map K else l.map K++[k]:=by
 induction l with
 |nil=>simp[Z8]
 |cons a l b=>
  obtain⟨a,u⟩:=a;unfold Z8;by_cases c:a=k
  ·subst c;simp
  ·rw[jx c,U8,b];by_cases d:k∈l.map K
   ·grind
   grind
theorem zmd(k:Int):∀l:List (Int×Bool),(yN k l).Sublist l
 |[] =>.slnil
 |(a,u)::l=>by
  unfold yN;split
  ·grind
  ·exact(zmd k l).cons_cons _
theorem zpE{k:Int}{l:List (Int×Bool)}(h:k ∉ l.map K):zX k E l=false:=by
 unfold zX
 induction l with
 |nil=>rfl
 |cons a l b=>
  obtain⟨a,u⟩:=a;simp only[U8,UU,not_or] at h;unfold yl;grind
theorem zsd{k b:Int}{l:List (Int×Bool)}(d:(l.map K).Nodup)(h:zX k E (yN b l)=D):zX k E l=D/\k≠b:=by
 induction l with
 |nil=>simp[yN,zX,yl] at h
 |cons a l i=>
  obtain⟨a,u⟩:=a;simp only[U8,U7] at d;unfold yN at h;by_cases c:a=b
  ·rw[jv c] at h;subst c;have f:k≠a:=λe=>by subst e;rw[zpE d.1] at h;cases h
   refine⟨?_,f⟩;unfold zX yl;rw[jx (λe=>f e.symm)];exact h
  ·rw[jx c] at h;by_cases c2:a=k
   ·subst c2;unfold zX yl at h |-
    grind
   ·have g:zX k E (yN b l)=true:=by
     unfold zX at h |-
     unfold yl at h;grind
    obtain⟨h1,h2⟩:=i d.2 g;refine⟨?_,h2⟩;unfold zX yl;rw[jx c2];exact h1
def InQ(m:MpQ)(l:Sl Int):Prop:=(m.2.xs.map K).Nodup/\∀k,zX k E m.2.xs=D->k∈l.xs
theorem zse{k:Int}{v:Bool}{l:List (Int×Bool)}(h:(l.map K).Nodup):((Z8 k v l).map K).Nodup:=by
 rw[zuu];split
 ·exact h
 ·rename_i c;rw[List.nodup_append];grind
theorem zsf{n:Int}{m:MpQ}(j:l.xs.length < 1000000000000):∃h a,q2h (n,s,l,m)=B (s,h,a)/\a.xs.length<=l.xs.length+1/\(∀y∈a.xs,y=n\/y∈l.xs)/\(∀y∈l.xs,y∈a.xs)/\(InQ m l->InQ h a/\n∈a.xs):=by
 have i:zo 8 l [n]=B ⟨l.xs++[n],D⟩:=by rw[yy ji ji];simp
 obtain⟨a,e,q⟩:=zA6 (s:=s) (m:=(m.1,⟨Z8 n D m.2.xs,D⟩)) l.xs.length ⟨l.xs++[n],D⟩ je ji;have hw:Uw ((((l.xs++[n]).length:Nat):Int) - 1)=(l.xs.length:Int):=by rw[jy,g9,zF Zd Zd];omega
 unfold q2h qd3 q7q q93 qaq qce q2g q5s q8o qb4;by_cases c:(!zX n E m.2.xs)=D
 ·simp only[c,jq,i,jj,zh,hw];rw[show lpO (q6l q2i q23) ((l.xs.length:Int),s,⟨l.xs++[n],D⟩,m.1,⟨Z8 n D m.2.xs,D⟩)=_ from e];have f:∀y,y∈a.xs↔y∈l.xs\/y=n:=λy=>by rw[q.mem];simp
  refine⟨_,a,U _,by rw[q.len];simp,λy b=>((f y).1 b).symm,λy b=>(f y).2 (.inl b),λd=>⟨⟨zse d.1,λk g=>?_⟩,(f n).2 (.inr (U _))⟩⟩;simp only[vJ] at g;rw[f];by_cases e:n=k
  ·grind
  ·rw[jx e] at g;exact .inl (d.2 k g)
 ·simp only[c,jj];refine⟨_,l,U _,Zd,λy b =>.inr b,λy b=>b,λd=>⟨d,d.2 n (by simpa using c)⟩⟩
abbrev RBo:=Sl (Sl Bool)
def On(r:Sl Bool)(y:Nat):Prop:=r.xs[y]?=B D
theorem zAB(h:On r y):y < r.xs.length:=(U5.1 h).1
theorem zme{v:Nat}(h:On (r.set (v:Int) E) y):On r y/\y≠v:=by
 unfold On at *
 simp only[Sl.set,O,UB] at h;grind
theorem znL{v:Nat}(h:On (r.set (v:Int) D) y):On r y\/y=v:=by
 unfold On at *
 simp only[Sl.set,O,UB] at h;grind
theorem znM(h:r.nn=D)(a:r.xs.length<=60000):q1t r=B ⟨r.xs,D⟩:=by
 unfold q1t q7u;simp only[h,Dg,jk,jp];rw[yy ji ji];simp
def Nl(n:Nat)(l:List Int):Prop:=∀k∈l,∃j:Nat,k=(j:Int)/\j < n
def Bh(x:MF)(i:Nat)(r:Sl Bool)(y:Nat):Prop:=q1l (x,(i:Int))=B (y:Int)\/(On r y/\∀T,q16 (x,(i:Int))=B T->(y:Int) ∉ T.xs)
section
variable {x:MF}(H:FuncG x){i:Nat}(hi:i < x.c_.L_.xs.length)
include H hi
theorem znN:∃T,q16 (x,(i:Int))=B T/\T.xs.length<=50000/\Nl x.F_.V_.xs.length T.xs:=by
 obtain⟨R,c,e,_,b⟩:=zh9 H hi;obtain⟨T,a,h1,h2⟩:=znK H hi;exact⟨T,a,h1,λk d=>b k jE⟩
theorem zuv(N:r.nn=D)(u:r.xs.length=x.F_.V_.xs.length):∃o,q42 (x,(i:Int),r)=B o/\o.nn=D/\o.xs.length=x.F_.V_.xs.length/\∀y,On o y->Bh x i r y:=by
 have R:=H.v;obtain⟨T,w,V,P⟩:=znN H hi;obtain⟨g,p,Q⟩:=znI H hi;unfold q42 qb5;simp only[znM N Zd,jj,w,jl]
 obtain⟨o,e,q,C,l⟩:=go (f:=q6m q1t q16 q1l) (n:=T.xs.length) (A:=Sl Bool) (st:=λk a=>((i:Int),T.len,(k:Int),x,a,T)) (fin:=λa=>((i:Int),x,a)) (J:=λk a=>a.nn=D/\a.xs.length=x.F_.V_.xs.length/\∀y,On a y->On r y/\(y:Int) ∉ T.xs.take k)
  (λk j a m=>by
   obtain⟨z,a2,a3⟩:=m;have L:=zu (Zd:k < 1000000000);obtain⟨v,t,G⟩:=P _ (gc j);unfold q6m;simp only[jl];rw[jv jA,ze j];simp only[jj,t,ze (s:=a) (Zd:v < _),L];refine⟨_,rfl,z,by simp[Sl.set,a2],λy b=>?_⟩;obtain⟨h1,h2⟩:=zme b;obtain⟨I,S⟩:=a3 y h1;refine⟨I,λM=>?_⟩;rw[<- D7 j] at M
   grind)
  (λa m=>by
   unfold q6m;simp only[jl]
   rw[jx jA])
  (a:=⟨r.xs,D⟩) ⟨rfl,u,λy b=>⟨b,je⟩⟩
 rw[Dl] at l;rw[show lpO (q6m q1t q16 q1l) ((i:Int),T.len,0,x,⟨r.xs,D⟩,T)=_ from e];simp only[jj,p];have d:∀y,On o y->Bh x i r y:=λy b =>.inr ⟨(l y b).1,λT' h=>jE⟩
 by_cases c:0<=g
 ·obtain⟨v,rfl,G⟩:=Q c;rw[jv c,ze (s:=o) (Zd:v < _)];refine⟨_,rfl,q,by simp[Sl.set,C],λy b=>?_⟩;rcases znL b with h | rfl
  ·exact d y h
  ·exact .inl p
 grind
end
structure SG(n V:Nat)(S:RBo):Prop where
 l:S.xs.length=n
 r:∀r∈S.xs,r.nn=D->r.xs.length=V
def wt(V:Nat)(r:Sl Bool):Nat:=if r.nn=D then r.xs.count D else V+1
def Mz(V:Nat)(S:RBo):Nat:=(S.xs.map (wt V)).sum
theorem zsg{f:α->Nat}{v:α}:∀(l:List α) (k:Nat) (h:k < l.length),f v < f l[k]->((l.set k v).map f).sum < (l.map f).sum
 |a::l,0,_,e=>jE
 |a::l,k+1,h,e=>by
  have:=zsg l k (by simpa using h) (by simpa using e);grind
structure Came(S0 S:RBo)(l:Sl Int):Prop where
 n:S.xs.length=S0.xs.length
 g:∀(j:Nat) r0,S0.xs[j]?=B r0->∃r,S.xs[j]?=B r/\(r=r0\/(j:Int)∈l.xs)/\(r0.nn=D->r.nn=D/\∀y,On r y->On r0 y)
theorem Came.refl{S:RBo}:Came S S l:=⟨rfl,λj r h=>⟨r,h,.inl rfl,λh=>⟨h,λy a=>a⟩⟩⟩
theorem Came.trans{a b c:RBo}{d:Sl Int}(h:Came a b l)(g:Came b c d)(f:∀z∈l.xs,z∈d.xs):Came a c d:=⟨g.n.trans h.n,λj r0 h0=>by
 obtain⟨r,h1,h2,k⟩:=h.g j r0 h0;obtain⟨q,e,g2,i⟩:=g.g j r h1;refine⟨q,e,?_,λm=>?_⟩
 ·grind
 grind⟩
structure Wq(n V M:Nat)(S:RBo)(l:Sl Int)(m:MpQ):Prop where
 w:SG n V S
 q:InQ m l
 wl:∀z∈l.xs,∃(j:Nat) (r:Sl Bool),z=(j:Int)/\S.xs[j]?=B r/\r.nn=D
 wm:Mz V S+l.xs.length<=M
theorem Wq.put {n:Nat}(H:M < 1000000000000) {S:RBo}{m:MpQ}(h:Wq n V M S l m) (i:k < S.xs.length) (G:r.nn=D) (t:r.xs.length=V) (hw:wt V r < wt V S.xs[k]) (hd:S.xs[k].nn=D->∀y,On r y->On S.xs[k] y)  :
    ∃b a,q2h ((k:Int),s,l,m)=B (s,b,a)/\Wq n V M (S.set (k:Int) r) a b/\(∀z∈l.xs,z∈a.xs)/\Came S (S.set (k:Int) r) a:=by
 have o:=h.wm;obtain⟨b,a,e,A,p,v,x⟩:=zsf (s:=s) (n:=(k:Int)) (l:=l) (m:=m) Zd;obtain⟨u,C⟩:=x h.q;have hs:Mz V (S.set (k:Int) r) < Mz V S:=by
  unfold Mz;simp only[Sl.set,O];exact zsg _ k i hw
 refine⟨b,a,e,⟨⟨by simp[Sl.set,h.w.l],λq d g=>?_⟩,u,λz f=>?_,Zd⟩,v,by simp[Sl.set],λj r0 h0=>?_⟩
 · rcases Dv d with d | rfl
   ·exact h.w.r q d g
   ·exact t
 · simp only[Sl.set,O];rcases p z f with rfl | f
   ·grind
   · obtain⟨j,q,rfl,h1,h2⟩:=h.wl z f;by_cases c:k=j
     ·grind
     grind
 · simp only[Sl.set,O];by_cases c:k=j
   ·subst c;rw[UC i] at h0;grind
   grind
noncomputable abbrev PL0:=q41 q42 q1o q1t q2h
noncomputable abbrev PL1:=q3a q42 q1o q1t q2h
theorem zuw:∀(l:List Bool) (y:Nat) (h:y < l.length),l[y]=D->(l.set y E).count D+1=l.count D
 |b::l,0,_,e=>jE
 |b::l,y+1,h,e=>by
  grind
theorem zzi {n:Nat}(hM:M < 1000000000000) {x:MF}{S:RBo}{m:MpQ}(h:Wq n V M S l m) (hk:k < S.xs.length) (hn:S.xs[k].nn=D) {o:Sl Bool}(ol:o.xs.length=V) (hV:V<=60000) {a b:Int}{X:Sl Int} :
    ∃G S' v,lpO PL0 ((k:Int),a,b,o.len,0,s,x,m,S,o,X,l)=B (a,b,s,x,G,S',o,X,v)/\Wq n V M S' v G/\(∀z∈l.xs,z∈v.xs)/\Came S S' v/\∃r,S'.xs[k]?=B r/\r.nn=D/\∀y,On r y->On o y:=by
 obtain⟨⟨G,S',v⟩,e,h1,h2,u,r,p,i,Q⟩:=go (f:=PL0) (n:=V) (A:=MpQ×RBo×Sl Int) (st:=λy z=>((k:Int),a,b,o.len,(y:Int),s,x,z.1,z.2.1,o,X,z.2.2)) (fin:=λz=>(a,b,s,x,z.1,z.2.1,o,X,z.2.2))
  (J:=λy z=>Wq n V M z.2.1 z.2.2 z.1/\(∀q∈l.xs,q∈z.2.2.xs)/\Came S z.2.1 z.2.2/\∃r,z.2.1.xs[k]?=B r/\r.nn=D/\∀g,g < y->On r g->On o g)
  (λy H z P=>by
    obtain⟨m,S1,R⟩:=z;obtain⟨h1,h2,u,r,p,i,Q⟩:=P;simp only at h1 h2 u p;have N:=zu (Zd:y < 1000000000);obtain⟨d,rfl⟩:=U5.1 p;have rl:=h1.w.r _ (gc d) i;have t:y < S1.xs[k].xs.length:=Zd
    have I:y < o.xs.length:=Zd
    show∃a',q41 _ _ _ _ _=_/\_
    unfold q41;simp only[jl];rw[jv jA];simp only[ze d,ze t,ze I,jj];cases c1:S1.xs[k].xs[y]
    · simp only[jk,jp,jj,N];refine⟨(m,S1,R),rfl,h1,h2,u,_,p,i,λg j C=>?_⟩;by_cases c:g=y
      ·subst c;unfold On at C;grind
      grind
    simp only[jq,jj];cases c2:o.xs[y]
    · have hw:wt V (S1.xs[k].set (y:Int) E) < wt V S1.xs[k]:=by
        have:=zuw _ y t c1;unfold wt;simp only[Sl.set,O,i,jq];omega
      obtain⟨Y,l2,e,T,g2,g3⟩:=h1.put hM d (r:=S1.xs[k].set (y:Int) E) i (by simp[Sl.set,rl]) hw (λ_ g j=>(zme j).1) (s:=s);simp only[Dy,jq,jj,ze d,ze t,e,N];refine⟨(Y,_,l2),rfl,T,λq L=>g2 q (h2 q L),u.trans g3 g2,S1.xs[k].set (y:Int) E,jE,i,λg j C=>?_⟩;obtain⟨C,hne⟩:=zme C;grind
    · simp only[Dg,jk,jp,jj,N];refine⟨(m,S1,R),rfl,h1,h2,u,_,p,i,λg j C=>?_⟩;by_cases c:g=y
      ·subst c;unfold On;grind
      grind)
  (λz P=>by
    show q41 _ _ _ _ _=_;unfold q41;simp only[jl]
    rw[jx jA])
  (a:=(m,S,l)) ⟨h,λq L=>L,.refl,_,UC hk,hn,λy H=>Zd⟩
 refine⟨G,S',v,e,h1,h2,u,r,p,i,λy H=>Q y ?_ H⟩;obtain⟨d,rfl⟩:=U5.1 p;have:=h1.w.r _ (gc d) i;have:=zAB H;omega
def RlO(S:RBo)(o:Sl Bool)(ks:List Int):Prop:=∀k∈ks,∃(j:Nat) (r:Sl Bool),k=(j:Int)/\S.xs[j]?=B r/\r.nn=D/\∀y,On r y->On o y
theorem RlO.came{S S':RBo}{o:Sl Bool}{ks:List Int}(h:RlO S o ks)(g:Came S S' l):RlO S' o ks:=λk a=>by
 obtain⟨j,r,rfl,h1,h2,d⟩:=h k a;obtain⟨e,b,_,c⟩:=g.g j r h1;grind
theorem zxG {x:MF}(H:FuncG x) {i:Nat}(hi:i < x.c_.L_.xs.length) (hM:M < 1000000000000) {S:RBo}{m:MpQ}(h:Wq x.c_.L_.xs.length x.F_.V_.xs.length M S l m) (Y:S.xs[i]?=B r) (hn:r.nn=D)  :
    ∃T S' I o X,q2j ((i:Int),s,x,l,m,S)=B (s,x,T,S',I)/\Wq x.c_.L_.xs.length x.F_.V_.xs.length M S' I T/\(∀z∈l.xs,z∈I.xs)/\Came S S' I/\(∀y,On o y->Bh x i r y)/\q1o (x,(i:Int))=B X/\RlO S' o X.xs:=by
 have hV:=H.v;obtain⟨L,rfl⟩:=U5.1 Y;obtain⟨o,eo,on,ol,oB⟩:=zuv H hi hn (h.w.r _ (gc L) hn);obtain⟨X,eX,X1,X2⟩:=zsc H hi;unfold q2j q83;simp only[ze L,jj,eo,eX]
 obtain⟨⟨T,S',I⟩,e,h1,h2,P,N⟩:=go (f:=PL1) (n:=X.xs.length) (A:=MpQ×RBo×Sl Int) (st:=λp z=>(X.len,(p:Int),s,x,z.1,z.2.1,o,X,z.2.2)) (fin:=λz=>(s,x,z.1,z.2.1,z.2.2))
  (J:=λp z=>Wq x.c_.L_.xs.length x.F_.V_.xs.length M z.2.1 z.2.2 z.1/\(∀q∈l.xs,q∈z.2.2.xs)/\Came S z.2.1 z.2.2/\RlO z.2.1 o (X.xs.take p))
  (λp hp z V=>by
    obtain⟨m,S1,l1⟩:=z;obtain⟨h1,h2,P,N⟩:=V;simp only at h1 h2 P N;have wk:=zu (Zd:p < 1000000000);obtain⟨j,ej,hj⟩:=X2 _ (gc hp);have t:j < S1.xs.length:=by rw[h1.w.l];exact hj
    have d:∀{S2:RBo} {l2:Sl Int},Came S1 S2 l2->(∃r,S2.xs[j]?=B r/\r.nn=D/\∀y,On r y->On o y)->RlO S2 o (X.xs.take (p+1)):=λg Y k u=>by
     rw[<- D7 hp] at u;rcases Ux.1 u with u | u
     ·exact N.came g k u
     grind
    show∃a',q3a _ _ _ _ _=_/\_
    unfold q3a;simp only[jl];rw[jv jA,ze hp];simp only[jj,ej,ze t];cases c:S1.xs[j].nn
    · have hw:wt x.F_.V_.xs.length ⟨o.xs,D⟩ < wt x.F_.V_.xs.length S1.xs[j]:=by
        have:=@qx Bool _ D o.xs;unfold wt;grind
      obtain⟨R,l2,e,Q,g2,G⟩:=h1.put hM t (r:=⟨o.xs,D⟩) rfl ol hw (λh=>jE) (s:=s);simp only[Dy,jq,znM on (Zd:o.xs.length<=60000),jj,e,wk];exact⟨(R,_,l2),rfl,Q,λq C=>g2 q (h2 q C),P.trans G g2,d G ⟨⟨o.xs,D⟩,jE,rfl,λy hy=>hy⟩⟩
    · obtain⟨R,S2,l2,e,Q,g2,G,g4⟩:=zzi hM (x:=x) h1 t c ol hV (s:=s) (a:=X.len) (b:=(p:Int)) (X:=X);simp only[Dg,jk,jp];rw[e];simp only[jj,wk]
      exact⟨(R,S2,l2),rfl,Q,λq C=>g2 q (h2 q C),P.trans G g2,d G g4⟩)
  (λz V=>by
    show q3a _ _ _ _ _=_;unfold q3a;simp only[jl]
    rw[jx jA])
  (a:=(m,S,l)) ⟨h,λq C=>C,.refl,λk u=>by simp at u⟩
 rw[Dl] at N;rw[show lpO (q3a q42 q1o q1t q2h) (X.len,0,s,x,m,S,o,X,l)=_ from e];grind
def ClO(x:MF)(S:RBo)(i:Nat)(r:Sl Bool):Prop:=∃X,q1o (x,(i:Int))=B X/\∀k∈X.xs,∃(j:Nat) (q:Sl Bool),k=(j:Int)/\S.xs[j]?=B q/\q.nn=D/\∀y,On q y->Bh x i r y
theorem ClO.came{x:MF}{S S':RBo}{i:Nat}(h:ClO x S i r)(g:Came S S' l):ClO x S' i r:=by
 obtain⟨X,e,h⟩:=h;refine⟨X,e,λk a=>?_⟩;obtain⟨j,q,rfl,h1,h2,c⟩:=h k a;obtain⟨q',d,_,b⟩:=g.g j q h1;grind
def Iv(x:MF)(S:RBo)(l:List Int):Prop:=∀(i:Nat) r,S.xs[i]?=B r->r.nn=D->(i:Int)∈l\/ClO x S i r
def Dec(S S':RBo):Prop:=∀(j:Nat) r0,S.xs[j]?=B r0->r0.nn=D->∃r,S'.xs[j]?=B r/\r.nn=D/\∀y,On r y->On r0 y
theorem Came.dec{S S':RBo}(h:Came S S' l):Dec S S':=λj r0 h0 b=>by
 obtain⟨r,h1,_,a⟩:=h.g j r0 h0;grind
theorem Dec.trans{a b c:RBo}(h:Dec a b)(g:Dec b c):Dec a c:=λj r0 h0 d=>by
 obtain⟨r,h1,h2,f⟩:=h j r0 h0 d;obtain⟨q,i,g2,e⟩:=g j r h1 h2;grind
noncomputable abbrev zA7:=q4r q2h q2g q36 q2j
noncomputable abbrev zA8:=q3i q2h q2g q36 q2j
theorem zux {x:MF}(H:FuncG x) (hM:M < 1000000000000) :∀(d:Nat) (S:RBo) (l:Sl Int) (m:MpQ),d<=M->Wq x.c_.L_.xs.length x.F_.V_.xs.length d S l m->Iv x S l.xs->
    ∃S',lpO zA8 (x,S,s,l,m)=B (x,S')/\SG x.c_.L_.xs.length x.F_.V_.xs.length S'/\Iv x S' []/\Dec S S':=by
 intro d
 induction d with
 |zero=>
  intro S l m hd h R;have h0:l.xs=[]:=UJ (by have:=h.wm;omega);refine⟨S,zw ?_,h.w,jE,λj r h p=>⟨r,h,p,λy I=>I⟩⟩;show q3i _ _ _ _ _=_;unfold q3i q2g q5s;simp only[jj,jl,zh];grind
 |succ d ih=>
  intro S l m hd h R;have hm:=h.wm;by_cases c:0 < l.xs.length
  rotate_left
  ·have h0:l.xs=[]:=UJ Zd;refine⟨S,zw ?_,h.w,jE,λj r h p=>⟨r,h,p,λy I=>I⟩⟩;show q3i _ _ _ _ _=_;unfold q3i q2g q5s;simp only[jj,jl,zh];grind
  obtain⟨k,T,e1,h1,h2,h3,h4⟩:=zAA (s:=s) (m:=m) c Zd;obtain⟨i,r,rfl,t,p⟩:=h.wl k h1;obtain⟨L,_⟩:=U5.1 t;have hi:i < x.c_.L_.xs.length:=by rw[<- h.w.l];exact L
  have G:InQ (m.1,⟨yN (i:Int) m.2.xs,D⟩) T:=⟨h.q.1.sublist ((zmd _ _).map _),λk N=>by
   obtain⟨C,g2⟩:=zsd h.q.1 N
   exact(h4 k (h.q.2 k C)).resolve_left g2⟩
  obtain⟨Y,S2,l2,o,X,e2,C,g2,v,g4,g5,g6⟩:=zxG H hi (M:=d) Zd (s:=s) (m:=(m.1,⟨yN (i:Int) m.2.xs,D⟩)) (l:=T) (S:=S) ⟨h.w,G,λz V=>h.wl z (h3 z V),Zd⟩ t p;have A:Iv x S2 l2.xs:=λj q G P=>by
   have f:j < S.xs.length:=by rw[<- v.n];grind
   obtain⟨q',u,e,_⟩:=v.g j _ (UC f);rw[G] at u;cases u;rcases e with e | e
   rotate_left
   ·exact .inl e
   subst e;by_cases cj:j=i
   · subst cj;rw[UC f] at t;cases t
     exact .inr ⟨X,g5,λk N=>by
      obtain⟨a,b,b1,b2,b3,b4⟩:=g6 k N
      grind⟩
   · rcases R j _ (UC f) P with Q | Q
     ·grind
     ·exact .inr (Q.came v)
  obtain⟨S3,e3,u,e,f3⟩:=ih S2 l2 Y Zd C A;refine⟨S3,?_,u,e,v.dec.trans f3⟩;rw[<- e3];refine zB ?_;show q3i _ _ _ _ _=_;unfold q3i q2g q5s;simp only[jj,jl,zh];grind
theorem zAC{n:Nat}{S:RBo}(h:SG n V S):Mz V S<=n * (V+1):=by
 have:∀l:List (Sl Bool),(∀r∈l,r.nn=D->r.xs.length=V)->(l.map (wt V)).sum<=l.length * (V+1):=by
  intro l
  induction l with
  |nil=>intro _;simp
  |cons r l a=>
   intro h;have h1:=a λr b=>h r (by simp[b])
   have h2:wt V r<=V+1:=by
    unfold wt;split
    ·grind
    ·omega
   simp only[U8,List.sum_cons,jz,UL];omega
 have:=this S.xs h.r;rw[h.l] at this;exact this
theorem zsh{b n:Nat}{z:α}(hb:b<=1000)(h:n<=100000):xM b (n:Int) z=B ⟨W n z,D⟩:=by
 have:b * n<=1000 * 100000:=Z hb h;unfold xM;grind
structure SuG(x:MF)(S:RBo):Prop where
 w:SG x.c_.L_.xs.length x.F_.V_.xs.length S
 i:∀(i:Nat) r,S.xs[i]?=B r->r.nn=D->ClO x S i r
 z:∃r,S.xs[0]?=B r/\r.nn=D/\∀y,On r y->(y:Int) < x.F_.P_
theorem zzj{x:MF}(H:FuncG x):∃S,q3m x=B S/\SuG x S:=by
 have hN:=H.l;have hV:=H.v;obtain⟨p0,p1⟩:=H.pr;obtain⟨l0,e,Q,_,_⟩:=H.c;have hn0:0 < x.c_.L_.xs.length:=by rw[Q];simp
 obtain⟨P,hP⟩:∃P:Nat,x.F_.P_=(P:Int):=⟨_,(D6 p0).symm⟩
 unfold q3m qcf;simp only[zh (s:=x.c_.L_),zh (s:=x.F_.V_),zsh (Zd:24<=1000) (Zd:x.c_.L_.xs.length<=100000),zsh (Zd:1<=1000) (Zd:x.F_.V_.xs.length<=100000),jj,jl];rw[jx (by simp only[zh,List.length_replicate];omega),show(0:Int)=((0:Nat):Int) from rfl,ze jE];simp only[jj]
 obtain⟨S0,e0,w1,r,I,w,w4,w5,T⟩:=go (f:=q7r q68) (n:=P) (A:=RBo) (st:=λk S=>(x.F_.P_,(k:Int),x,S)) (fin:=λS=>(x,S))
  (J:=λk S=>S.xs.length=x.c_.L_.xs.length/\∃r,S.xs[0]?=B r/\r.nn=D/\r.xs.length=x.F_.V_.xs.length/\(∀y,On r y->y < k)/\∀(j:Nat) q,0 < j->S.xs[j]?=B q->q.nn=E)
  (λk L S u=>by
   obtain⟨h1,r,h2,h3,h4,h5,h6⟩:=u;have wk:=zu (Zd:k < 1000000000);obtain⟨h0,rfl⟩:=U5.1 h2;have g0:=ze (s:=S) h0;unfold q7r;simp only[jl];rw[jv Zd,show(0:Int)=((0:Nat):Int) from rfl];simp only[g0,jj,ze (s:=S.xs[0]) (Zd:k < _),wk];refine⟨_,rfl,by simp[Sl.set,h1],S.xs[0].set (k:Int) D,by simp only[Sl.set,O];grind,h3,by simp[Sl.set,h4],λy g=>?_,λj q t b=>?_⟩
   ·rcases znL g with h | rfl
    all_goals grind
   ·simp only[Sl.set,O] at b
    grind)
  (λS u=>by
   unfold q7r
   grind)
  (a:=Sl.set ⟨W x.c_.L_.xs.length (F [] E),D⟩ ((0:Nat):Int) ⟨W x.F_.V_.xs.length E,D⟩)
  ⟨by simp[Sl.set],⟨W x.F_.V_.xs.length E,D⟩,by simp only[Sl.set,O];grind,rfl,je,λy g=>by unfold On at g;grind,λj q t b=>by
   simp only[Sl.set,O] at b
   grind⟩
 have e0:lpO (q7r q68) (x.F_.P_,((0:Nat):Int),x,Sl.set ⟨W x.c_.L_.xs.length (F [] E),D⟩ ((0:Nat):Int) ⟨W x.F_.V_.xs.length E,D⟩)=_:=e0;rw[e0];simp only[jj]
 have hw:SG x.c_.L_.xs.length x.F_.V_.xs.length S0:=⟨w1,λq b d=>by
  obtain⟨j,t,rfl⟩:=qo b;by_cases c:j=0
  ·grind
  ·rw[T j _ Zd (UC t)] at d;cases d⟩
 have hM:Mz x.F_.V_.xs.length S0+1 < 1000000000000:=by
  have h1:=zAC hw;have h2:x.c_.L_.xs.length * (x.F_.V_.xs.length+1)<=40000 * 60001:=Z hN Zd;omega
 obtain⟨m,q,X,p1,N,_,R⟩:=zsf (s:=1) (n:=0) (l:=F [] E) (m:=(lit [],F [] D)) je;obtain⟨q1,q2⟩:=R ⟨je,λk L=>by simp[zX,yl] at L⟩;have b:∀z∈q.xs,z=0:=λz o=>(N z o).resolve_right je
 obtain⟨S',e',Y,V,f3⟩:=zux H hM (s:=1) (Mz x.F_.V_.xs.length S0+1) S0 q m (UD _) ⟨hw,q1,λz o=>⟨0,r,b z o,I,w⟩,jE⟩ (λi G C d=>by
  grind)
 unfold q68 qbs;simp only[jk,jp,jj];have p:lpO zA7 (⟨[0],D⟩,Sl.len (⟨[0],D⟩:Sl Int),0,x,S0,1,F [] E,lit [],F [] D)=B (x,S0,1,q,m):=by
  rw[zB (y:=(⟨[0],D⟩,Sl.len (⟨[0],D⟩:Sl Int),1,x,S0,1,q,m))]
  ·refine zw ?_;show q4r _ _ _ _ _=_;unfold q4r;simp (decide:=true) only [zh,jp]
  ·show q4r _ _ _ _ _=_;unfold q4r;simp only[jl];rw[jv (by simp[zh]),show za (⟨[0],D⟩:Sl Int) 0=B 0 from rfl];simp only[jj,X];rfl
 rw[show lpO (q4r q2h q2g q36 q2j) (⟨[((0:Nat):Int)],D⟩,Sl.len (⟨[((0:Nat):Int)],D⟩:Sl Int),0,x,S0,1,F [] E,lit [],F [] D)=_ from p];simp only[jj];rw[show lpO (q3i q2h q2g q36 q2j) (x,S0,1,q,m)=_ from e'];obtain⟨G,M,g2,g3⟩:=f3 0 r I w;exact⟨S',rfl,Y,λi r C d=>(V i r C d).resolve_left je,G,M,g2,λy g=>jE⟩
noncomputable abbrev CL0:=q4s q3m q1g q16
noncomputable abbrev CL1:=q4t q3m q1g q16
noncomputable abbrev CL2:=q3j q3m q1g q16
abbrev MI:=Ut×Sl (Int×Int)
def Ck1(x:MF)(i:Nat)(r:Sl Bool):Prop:=∃R T,q1g (x,(i:Int))=B R/\q16 (x,(i:Int))=B T/\(∀v:Nat,(v:Int)∈R.xs->On r v)/\∀y∈T.xs,R.xs.count y<=1
def zg2{β:Type}(r:Int×Int⊕β):Prop:=∃a,r = .inl (a,52)
section
variable {x:MF}(H:FuncG x){i:Nat}(hi:i < x.c_.L_.xs.length){S:RBo}(hw:SG x.c_.L_.xs.length x.F_.V_.xs.length S)
include H hi hw
theorem zAD (s:S.xs[i]?=B r) (C:r.nn=D) {R:Sl Int}(H:R.xs.length<=60000) (t:Nl x.F_.V_.xs.length R.xs) {n:Int} :
    (∃m:MI,lpO CL0 ((i:Int),(i:Int),n,(i:Int),R.len,0,x,S,(lit [],F [] D),R)=B (.inr ((i:Int),n,(i:Int),x,m,S))/\(∀y,zX y 0 m.2.xs=(R.xs.count y:Int))/\∀v:Nat,(v:Int)∈R.xs->On r v)\/
    ∃q,lpO CL0 ((i:Int),(i:Int),n,(i:Int),R.len,0,x,S,(lit [],F [] D),R)=B q/\zg2 q:=by
 obtain⟨g,rfl⟩:=U5.1 s;have G:=hw.r _ (gc g) C
 rcases goE (f:=CL0) (n:=R.xs.length) (A:=MI) (st:=λk m=>((i:Int),(i:Int),n,(i:Int),R.len,(k:Int),x,S,m,R)) (fin:=λm =>.inr ((i:Int),n,(i:Int),x,m,S)) (J:=λk m=>(∀y,zX y 0 m.2.xs=((R.xs.take k).count y:Int))/\∀v:Nat,(v:Int)∈R.xs.take k->On S.xs[i] v) (bad:=zg2)
  (λk j m p=>by
    obtain⟨h1,h2⟩:=p;have z:=zu (Zd:k < 1000000000);obtain⟨v,o,I⟩:=t _ (gc j);have l:v < S.xs[i].xs.length:=Zd
    have b:=h1 (v:Int);have b2:(R.xs.take k).count (v:Int)<=k:=UF qx ji;have u:Uw (zX (v:Int) 0 m.2.xs+1)=zX (v:Int) 0 m.2.xs+1:=zF Zd Zd;show(∃a',q4s _ _ _ _=_/\_)\/∃q,q4s _ _ _ _=_/\_
    unfold q4s;simp only[jl];rw[jv jA,ze j];simp only[jj,o,ze g,ze l];cases c:S.xs[i].xs[v]
    ·simp only[Dy,jq,ze hi,jj];exact .inr ⟨_,rfl,_,rfl⟩
    · simp only[Dg,jk,jp,u,z];refine .inl ⟨_,rfl,λy=>?_,λw d=>?_⟩
      · rw[<- D7 j,qy,o];simp only[vJ];by_cases e:(v:Int)=y
        ·grind
        grind
      · rw[<- D7 j] at d;rcases Ux.1 d with d | d
        ·exact h2 w d
        · rw[Dr,o] at d;obtain rfl:w=v:=Zd
          unfold On;grind)
  (λm p=>by
    show q4s _ _ _ _=_;unfold q4s;simp only[jl]
    rw[jx jA])
  (a:=(lit [],F [] D)) ⟨λy=>by simp[zX,yl],je⟩ with⟨m,e,h1,h2⟩ | h
 all_goals grind
omit H hw in
theorem zAE {m:MI}{T:Sl Int}(hl:T.xs.length<=50000) {n:Int} :
    (lpO CL1 ((i:Int),n,(i:Int),T.len,0,x,m,S,T)=B (.inr (n,(i:Int),x,S))/\∀y∈T.xs,zX y 0 m.2.xs<=1)\/
    ∃q,lpO CL1 ((i:Int),n,(i:Int),T.len,0,x,m,S,T)=B q/\zg2 q:=by
 rcases goE (f:=CL1) (n:=T.xs.length) (A:=Unit) (st:=λk _=>((i:Int),n,(i:Int),T.len,(k:Int),x,m,S,T)) (fin:=λ_ =>.inr (n,(i:Int),x,S)) (J:=λk _=>∀y∈T.xs.take k,zX y 0 m.2.xs<=1) (bad:=zg2)
  (λk hk _ hm=>by
    have wk:=zu (show k < 1000000000 by omega);show(∃a',q4t _ _ _ _=_/\_)\/∃q,q4t _ _ _ _=_/\_
    unfold q4t;simp only[jl];rw[jv (by simp only[zh];omega),ze hk];simp only[jj];by_cases c:1 < zX T.xs[k] 0 m.2.xs
    ·rw[jv c,ze hi];exact .inr ⟨_,rfl,_,rfl⟩
    · rw[jx c,wk];refine .inl ⟨(),by grind,λy hy=>?_⟩;rw[<- D7 hk] at hy
      grind)
  (λ_ _=>by
    show q4t _ _ _ _=_;unfold q4t;simp only[jl]
    rw[jx (by simp only[zh];omega)])
  (a:=()) (by simp) with⟨_,e,h⟩ | h
 all_goals grind
end
theorem zxH{x:MF}(H:FuncG x):∃S a e,q29 x=B (a,e)/\SuG x S/\(e=0->∀(i:Nat) r,S.xs[i]?=B r->r.nn=D->Ck1 x i r):=by
 obtain⟨S,eS,hS⟩:=zzj H;have hN:=H.l;have hl:=hS.w.l;unfold q29 qbt;simp only[eS,jj]
 rcases goE (f:=CL2) (n:=S.xs.length) (A:=Unit) (st:=λi _=>(S.len,(i:Int),x,S)) (fin:=λ_ =>.inr ()) (J:=λi _=>∀(j:Nat) r,j < i->S.xs[j]?=B r->r.nn=D->Ck1 x j r) (bad:=zg2)
  (λi hi _ hJ=>by
   have wk:=zu (show i < 1000000000 by omega);have hic:i < x.c_.L_.xs.length:=by omega
   have next:(S.xs[i].nn=D->Ck1 x i S.xs[i])->∀(j:Nat) r,j < i+1->S.xs[j]?=B r->r.nn=D->Ck1 x j r:=λh j r hj hr hn=>by
    by_cases c:j=i
    all_goals grind
   show(∃a',q3j _ _ _ _=_/\_)\/∃q,q3j _ _ _ _=_/\_
   unfold q3j;simp only[jl];rw[jv (by simp only[zh];omega)];simp only[ze hi,jj];cases c:S.xs[i].nn
   ·simp only[Dy,jq,jj,jo,wk];exact .inl ⟨(),by grind,next λh=>by grind⟩
   simp only[Dg,jk,jp];obtain⟨R,eR,R0,R1,R2⟩:=zh9 H hic;obtain⟨T,eT,T1,_⟩:=znN H hic;rw[eR,jj];rcases zAD H hic hS.w (UC hi) c R1 R2 (n:=S.len) with⟨m,e,m1,m2⟩ | ⟨q,e,a,rfl⟩
   rotate_left
   ·rw[e];simp only[jj,jo,jm];exact .inr ⟨_,rfl,a,rfl⟩
   rw[e];simp only[jj,jm,eT];rcases zAE hic (S:=S) (m:=m) T1 (n:=S.len) with⟨e,t1⟩ | ⟨q,e,a,rfl⟩
   rotate_left
   ·rw[e];simp only[jj,jo,jm];exact .inr ⟨_,rfl,a,rfl⟩
   rw[e];simp only[jj,jo,jm,wk]
   exact .inl ⟨(),by grind,next λ_=>⟨R,T,eR,eT,m2,λy hy=>by grind⟩⟩)
  (λ_ _=>by
   show q3j _ _ _ _=_;unfold q3j;simp only[jl]
   rw[jx (by simp only[zh];omega)])
  (a:=()) (λj r hj=>by omega) with⟨_,e,h⟩ | ⟨q,e,a,rfl⟩
 ·rw[show lpO (q3j q3m q1g q16) (S.len,0,x,S)=_ from e];exact⟨S,0,0,rfl,hS,λ_ j r hr hn=>h j r (U5.1 hr).1 hr hn⟩
 ·rw[show lpO (q3j q3m q1g q16) (S.len,0,x,S)=_ from e];grind
theorem zzk{x:MF}(H:FuncG x){i:Nat}(hi:i < x.c_.L_.xs.length)(h:Ck1 x i r):∃R T,q1g (x,(i:Int))=B R/\q16 (x,(i:Int))=B T/\R.xs.length<=60000/\T.xs.length<=50000/\(∀y∈R.xs,∃v:Nat,y=(v:Int)/\On r v)/\(∀y∈T.xs,y∈R.xs)/\∀k (c:k < T.xs.length),T.xs[k] ∉ T.xs.take k:=by
 obtain⟨R,T,d,e,h1,h2⟩:=h;obtain⟨o,a,g,l,n⟩:=zh9 H hi;obtain⟨T',b,j,t2⟩:=znK H hi;rw[d] at a;cases a;rw[e] at b;cases b;rw[<- g] at t2;refine⟨R,T,d,e,l,j,λy f=>?_,λy f=>t2.subset f,λk c m=>?_⟩
 ·grind
 ·have c1:=h2 _ (gc c);have c2:=t2.count_le T.xs[k];have c3:T.xs.count T.xs[k]=(T.xs.take k).count T.xs[k]+(T.xs.drop k).count T.xs[k]:=by rw[<- qy,qb]
  have c4:0 < (T.xs.take k).count T.xs[k]:=qv.2 m;have c5:0 < (T.xs.drop k).count T.xs[k]:=qv.2 (by rw[Di c];grind);omega
noncomputable abbrev WL0:=q4c q1s q22 q29 q1g q16 q1l q1o
noncomputable abbrev WL1:=q4d q1s q22 q29 q1g q16 q1l q1o
noncomputable abbrev WL2:=q4e q1s q22 q29 q1g q16 q1l q1o
noncomputable abbrev WL3:=q2v q1s q22 q29 q1g q16 q1l q1o
noncomputable abbrev WL4:=q3k q1s q22 q29 q1g q16 q1l q1o
def HdG(m:MI)(r:Sl Bool):Prop:=∀y:Nat,On r y->¬ zX (y:Int) 0 m.2.xs=0
theorem zuy{x:MF}{P:Nat}(g:P<=60000){t:Sl Bool}{fs:Sl MF}:∃m:MI,lpO WL0 (t,p,q,(P:Int),0,x,(lit [],F [] D),fs)=B (t,p,q,x,m,fs)/\∀y:Nat,y < P->¬ zX (y:Int) 0 m.2.xs=0:=by
 obtain⟨m,e,h⟩:=go (f:=WL0) (n:=P) (A:=MI) (st:=λk m=>(t,p,q,(P:Int),(k:Int),x,m,fs)) (fin:=λm=>(t,p,q,x,m,fs)) (J:=λk m=>∀y:Nat,y < k->¬ zX (y:Int) 0 m.2.xs=0)
  (λk i m c=>by
   have d:=zu (Zd:k < 1000000000);show∃a',q4c _ _ _ _ _ _ _ _=_/\_
   unfold q4c;simp only[jl];rw[jv Zd,d];refine⟨_,rfl,λy b=>?_⟩;simp only[vJ]
   grind)
  (λm c=>by
   show q4c _ _ _ _ _ _ _ _=_;unfold q4c
   grind)
  (a:=(lit [],F [] D)) (λy b=>Zd)
 grind
theorem zuz {x:MF}{R:Sl Int}(hR:R.xs.length<=60000) {m:MI}(h:∀y∈R.xs,¬ zX y 0 m.2.xs=0) {t:Sl Bool}{i:Int}{fs:Sl MF} :
    lpO WL1 (t,i,s,p,q,R.len,0,x,m,fs,R)=B (.inr (t,i,s,p,q,x,m,fs)):=by
 obtain⟨_,e,_⟩:=go (f:=WL1) (n:=R.xs.length) (A:=Unit) (st:=λk _=>(t,i,s,p,q,R.len,(k:Int),x,m,fs,R)) (fin:=λ_ =>.inr (t,i,s,p,q,x,m,fs)) (J:=λ_ _=>True)
  (λk hk _ _=>by
    have wk:=zu (show k < 1000000000 by omega);show∃a',q4d _ _ _ _ _ _ _ _=_/\_
    unfold q4d;simp only[jl];rw[jv (by simp only[zh];omega),ze hk];simp only[jj];rw[jx (h _ (gc hk)),wk]
    exact⟨(),by grind,trivial⟩)
  (λ_ _=>by
    show q4d _ _ _ _ _ _ _ _=_;unfold q4d;simp only[jl]
    rw[jx (by simp only[zh];omega)])
  (a:=()) trivial
 exact e
theorem zuA {x:MF}{T:Sl Int}(o:T.xs.length<=50000) {m:MI}(h:∀y∈T.xs,¬ zX y 0 m.2.xs=0) (l:∀k (c:k < T.xs.length),T.xs[k] ∉ T.xs.take k) {t:Sl Bool}{i:Int}{fs:Sl MF} :
    ∃b:MI,lpO WL2 (t,i,s,p,q,T.len,0,x,m,fs,T)=B (.inr (t,i,s,p,q,x,b,fs))/\∀y,y ∉ T.xs->zX y 0 b.2.xs=zX y 0 m.2.xs:=by
 obtain⟨b,e,r⟩:=go (f:=WL2) (n:=T.xs.length) (A:=MI) (st:=λk m=>(t,i,s,p,q,T.len,(k:Int),x,m,fs,T)) (fin:=λm =>.inr (t,i,s,p,q,x,m,fs)) (J:=λk b=>∀y,y ∉ T.xs.take k->zX y 0 b.2.xs=zX y 0 m.2.xs)
  (λk c b d=>by
    have j:=zu (Zd:k < 1000000000);have h0:=d _ (l k c);show∃a',q4e _ _ _ _ _ _ _ _=_/\_
    unfold q4e;simp only[jl];rw[jv jA,ze c];simp only[jj];rw[jx jE,j];refine⟨_,rfl,λy g=>?_⟩;rw[<- D7 c,Ux,not_or] at g;simp only[vJ]
    grind)
  (λb d=>by
    show q4e _ _ _ _ _ _ _ _=_;unfold q4e;simp only[jl]
    rw[jx jA])
  (a:=m) (λy _=>rfl)
 grind
theorem zxI {x:MF}(H:FuncG x) {S:RBo}(I:SuG x S) (hC:∀(i:Nat) r,S.xs[i]?=B r->r.nn=D->Ck1 x i r) {t:Sl Bool}{fs:Sl MF}:∀(d s i:Nat) (m:MI) (r:Sl Bool),s+d=400->S.xs[i]?=B r->r.nn=D->HdG m r->
    lpO WL3 (t,(i:Int),(s:Int),p,q,x,m,fs)=B (.inr (t,p,q,fs)):=by
 intro d
 induction d with
 |zero=>
  intro s i m r hs z G A;refine zw ?_;show q2v _ _ _ _ _ _ _ _=_;unfold q2v;grind
 |succ d ih=>
  intro s i m r hs z G A;have hi:i < x.c_.L_.xs.length:=by rw[<- I.w.l];grind
  obtain⟨R,T,eR,L,R1,T1,N,hT,C⟩:=zzk H hi (hC i r z G);obtain⟨g,eG,hG⟩:=znI H hi;obtain⟨X,M,Q⟩:=I.i i r z G;obtain⟨X',b,X1,_⟩:=zsc H hi;rw[M] at b;cases b;have h:∀y∈R.xs,¬ zX y 0 m.2.xs=0:=λy a=>by
   obtain⟨v,rfl,V⟩:=N y a;exact A v V
  obtain⟨n,e1,h1⟩:=zuA (x:=x) T1 (m:=m) (λy a=>h y (hT y a)) C (t:=t) (i:=(i:Int)) (s:=(s:Int)) (p:=p) (q:=q) (fs:=fs);obtain⟨f,Y,h2⟩:∃f:MI,(if 0<=g then B (t,(i:Int),(s:Int),p,q,x,(n.1,(F (Z8 g 1 n.2.xs) true:Sl (Int×Int))),fs) else B (t,(i:Int),(s:Int),p,q,x,n,fs))=B (t,(i:Int),(s:Int),p,q,x,f,fs)/\∀y:Nat,Bh x i r y->¬ zX (y:Int) 0 f.2.xs=0:=by
   have old:∀y:Nat,(On r y/\∀T,q16 (x,(i:Int))=B T->(y:Int) ∉ T.xs)->¬ zX (y:Int) 0 n.2.xs=0:=λy a=>by
    rw[h1 _ (a.2 T L)];exact A y a.1
   by_cases c:0<=g
   · rw[jv c];refine⟨_,rfl,λy a=>?_⟩;simp only[vJ];by_cases e:g=(y:Int)
     ·grind
     · rw[jx e];rcases a with a | a
       all_goals grind
   · rw[jx c];refine⟨n,rfl,λy a=>?_⟩;rcases a with a | a
     all_goals grind
  have o:=zu (Zd:s < 1000000000);have key:WL3 (t,(i:Int),(s:Int),p,q,x,m,fs)=B (.done (.inr (t,p,q,fs)))\/∃k∈X.xs,WL3 (t,(i:Int),(s:Int),p,q,x,m,fs)=B (.next (t,k,((s+1:Nat):Int),p,q,x,f,fs)):=by
   show q2v _ _ _ _ _ _ _ _=_\/∃k∈X.xs,q2v _ _ _ _ _ _ _ _=_
   unfold q2v;simp only[jl];rw[jv Zd,eR,jj,zuz R1 h];simp only[jj,jm,L];rw[e1];simp only[jj,jm,eG];rw[Y];simp only[jj,M];by_cases c0:X.xs.length=0
   ·rw[jv (by rw[zh,c0];rfl)];grind
   refine .inr ?_;have g0:za X 0=B (X.xs[0]' Zd):=ze (Zd:0 < X.xs.length);rw[jx (by rw[zh];omega),g0];simp only[jj];by_cases c1:1 < X.xs.length
   · have u:za X 1=B (X.xs[1]'c1):=ze c1;rw[jv (by rw[zh];omega)];by_cases c2:s < t.xs.length
     · rw[jv (by rw[zh];omega),ze c2];simp only[jj];cases t.xs[s]
       ·simp only[jk,jp,jj,jm,o];grind
       ·simp only[jq,u,jj,jm,o];exact⟨_,gc _,rfl⟩
     ·rw[jx (by rw[zh];omega)];simp only[jk,jp,jj,jm,o];exact⟨_,gc _,rfl⟩
   ·rw[jx (by rw[zh];omega)];simp only[jk,jp,jj,jm,o];exact⟨_,gc _,rfl⟩
  rcases key with e | ⟨k,hk,e⟩
  ·exact zw e
  ·obtain⟨j,P,rfl,u,g2,g3⟩:=Q k hk;rw[zB e];exact ih (s+1) j f P Zd u g2 λy a=>h2 y (g3 y a)
theorem zuB(hw:q22 ()=B D)(x:Ut×Ut×Sl Bool):qb6 x=B true:=by
 obtain⟨a,b,t⟩:=x;obtain⟨ok,fs,rs,h,hb⟩:=zur (a,b);unfold qb6 qap;simp only[h,jj,hw,Dg,jk,jp];cases ok with
 |false=>grind
 |true=>
 obtain⟨hl,hG⟩:=hb rfl
 obtain⟨_,e,_⟩:=go (f:=WL4) (n:=fs.xs.length) (A:=Unit) (st:=λi _=>(t,fs.len,(i:Int),fs)) (fin:=λ_ =>.inr ()) (J:=λ_ _=>True)
  (λi hi _ _=>by
   have wk:=zu (show i < 1000000000 by omega);have H:=hG _ (gc hi);obtain⟨S,u,v,ec,hS,hC⟩:=zxH H;obtain⟨p0,p1⟩:=H.pr;have hV:=H.v;obtain⟨P,hP⟩:∃P:Nat,(fs.xs[i]).F_.P_=(P:Int):=⟨_,(D6 p0).symm⟩
   show∃a',q3k _ _ _ _ _ _ _ _=_/\_
   unfold q3k;simp only[jl];rw[jv (by simp only[zh];omega),ze hi];simp only[jj,ec];by_cases c:v=0
   rotate_left
   ·rw[jv c];simp only[jj,jo,wk];exact⟨(),by grind,trivial⟩
   rw[jx (λh=>h c),hP];obtain⟨m,em,hm⟩:=zuy (x:=fs.xs[i]) (P:=P) (by omega) (t:=t) (p:=fs.len) (q:=(i:Int)) (fs:=fs);obtain⟨r,z1,z2,z3⟩:=hS.z;rw[em];simp only[jj];rw[show lpO (q2v q1s q22 q29 q1g q16 q1l q1o) (t,0,0,fs.len,(i:Int),fs.xs[i],m,fs)=_ from zxI H hS (hC c) (t:=t) (p:=fs.len) (q:=(i:Int)) (fs:=fs) 400 0 0 m r rfl z1 z2 λy hy=>hm y (by grind)];simp only[jj,jm,jo,wk]
   exact⟨(),by grind,trivial⟩)
  (λ_ _=>by
   show q3k _ _ _ _ _ _ _ _=_;unfold q3k;simp only[jl]
   rw[jx (by simp only[zh];omega)])
  (a:=()) trivial
 simp only[Dg,jk,jp];rw[show lpO (q3k q1s q22 q29 q1g q16 q1l q1o) (t,fs.len,0,fs)=_ from e];rfl
deriving instance DecidableEq for Sl
mutual
def zuC:q8->q8->Bool
 |⟨k,t,n,a,s⟩,⟨k',t',n',a',s'⟩=>(decide (k=k') && (decide (t=t') && (decide (n=n') && decide (a=a')))) && zuD s s'
def zuD:Sl q8->Sl q8->Bool
 |⟨l,b⟩,⟨l',b'⟩=>(b == b') && zfS l l'
def zfS:List q8->List q8->Bool
 |[],[]=>D
 |x::l,y::r=>zuC x y && zfS l r
 |_,_=>E
end
mutual
theorem zmf:∀a b:q8,zuC a b=D↔a=b
 |⟨k,t,n,a,s⟩,⟨k',t',n',a',s'⟩=>by
  unfold zuC;have:=zuE s s';simp only[gf,jl,this,q8.mk.injEq];constructor
  ·rintro⟨⟨h1,h2,d,c⟩,e⟩;exact⟨h1,h2,d,c,e⟩
  ·rintro⟨h1,h2,d,c,e⟩;exact⟨⟨h1,h2,d,c⟩,e⟩
theorem zuE:∀a b:Sl q8,zuD a b=D↔a=b
 |⟨l,b⟩,⟨l',b'⟩=>by
  unfold zuD;have:=zmg l l';simp only[gf,beq_iff_eq,this,F.injEq];constructor
  ·rintro⟨h1,h2⟩;exact⟨h2,h1⟩
  ·rintro⟨h1,h2⟩;exact⟨h2,h1⟩
theorem zmg:∀a b:List q8,zfS a b=D↔a=b
 |[],[]=>by unfold zfS;simp
 |x::l,y::r=>by
  unfold zfS;have h1:=zmf x y;have h2:=zmg l r;simp only[gf,h1,h2,List.cons.injEq]
 |[],_::_=>by unfold zfS;simp
 |_::_,[]=>by unfold zfS;simp
end
instance:DecidableEq q8:=λa b=>decidable_of_iff _ (zmf a b)
deriving instance DecidableEq for qr
deriving instance DecidableEq for q7
deriving instance DecidableEq for qt
deriving instance DecidableEq for qw
deriving instance DecidableEq for qa
deriving instance DecidableEq for qh
deriving instance DecidableEq for qf
deriving instance DecidableEq for qe
deriving instance DecidableEq for qz
deriving instance DecidableEq for qm
deriving instance DecidableEq for q1m
deriving instance DecidableEq for ql
end Go.Px
