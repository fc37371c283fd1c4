/- Part Li. -/
import Derived.Test.YtnkjgenigoecjaaGreatDoorB2
set_option linter.unusedVariables false
set_option linter.unusedSimpArgs false
namespace Go.Px
open Bool renaming true->D,false->F
open _root_.Option renaming some->B
open Sl renaming mk->E
variable{c p q r:Int}{l:List Nd}{n:Nd}{t:List PT}
theorem zpV(h:zbs l = .ok t):t.length<=l.length:=by
 have:=V3 (I:=λi (a:List PT)=>a.length<=i) l 0 [] (by simp) (λi hi a a' ha e=>by
  split at e
  ·cases hx:xg a l[i] with
   |error x=>rw[hx] at e;cases e
   |ok x=>rw[hx] at e;cases e;simp;omega
  grind) t h
 omega
theorem zs5{s:List PSg}(h:zcC t l = .ok s):s.length<=l.length:=by
 have:=V3 (I:=λi (a:List PSg)=>a.length<=i) l 0 [] (by simp) (λi hi a a' ha e=>by
  split at e
  ·cases hx:xa t l[i] with
   |error x=>rw[hx] at e;cases e
   |ok x=>rw[hx] at e;cases e;simp;omega
  grind) s h
 omega
theorem zn5{p:PP}(hg:vj n\/zdY n)(h:X8 t n=B p):OkO t p:=λhm=>(za3 hg h).resolve_right (by omega)
def zd2(t:List PT)(s:PSg):Prop:=OkO t s.R_/\∀p∈s.P_.xs,OkO t p
theorem zAi{s:PSg}(hg:FnG n)(h:xa t n = .ok s):zd2 t s:=by
 obtain⟨_,ps,r,b,hk,hp,hr,_,_⟩:=hg;have e:zd0 n (n.K_.xs.length - 2)=r:=by unfold zd0;rw[hk];simp
 have eps:n.K_.xs.take (n.K_.xs.length - 2)=ps:=by rw[hk];simp
 unfold xa at h;simp only[e,eps] at h;split at h
 ·cases h
 cases hx:ps.foldlM (Z8 t) [] with
 |error x=>rw[hx] at h;cases h
 |ok q=>
  rw[hx] at h;simp only[Except.bind] at h;split at h
  ·cases h
  ·rename_i p hp';cases h;refine⟨zn5 (.inr hr) hp',V3 (I:=λ_ (a:List PP)=>∀p∈a,OkO t p) ps 0 [] (by simp) (λi hi a a' ha e=>?_) q hx⟩;obtain⟨_,m,hm,hmg⟩:=hp _ (gc hi);have k0:zV ps[i]=m:=by unfold zV;rw[hm];rfl
   unfold Z8 at e;rw[k0] at e;split at e
   ·cases e
   split at e
   ·cases e
   rename_i p hpp;split at e
   ·cases e
   cases e;have ho:=zn5 (.inl hmg) hpp;exact zeu ha λhm=>ho hm
theorem zyH{s:List PSg}(hl:∀k∈l,k.k_=6->FnG k)(h:zcC t l = .ok s):∀g∈s,zd2 t g:=
 V3 (I:=λ_ (a:List PSg)=>∀g∈a,zd2 t g) l 0 [] (by simp) (λi hi a a' ha e=>by
  split at e
  ·rename_i h6;cases hx:xa t l[i] with
   |error x=>rw[hx] at e;cases e
   |ok x=>
    rw[hx] at e;cases e;intro g hg;rcases U9.1 hg with hg | hg
    ·exact ha g hg
    ·obtain rfl:=D2.1 hg;exact zAi (hl _ (gc hi) h6) hx
  grind) s h
def zAj(L:q13):Prop:=∃t:List PT,L.I_=mkS t/\L.j_=mkS (t.map rT)/\t.length<=20000/\L.s_.xs.length<=50000/\L.q_.xs.length<=50000/\∀g∈L.s_.xs,zd2 t g
theorem UnitG.kids(h:UnitG n):n.K_.xs.length<=4096:=by have:=h.size;have:=@Zl n;omega
theorem UnitG.ty(h:UnitG n):∀k∈n.K_.xs,k.k_=1->wD k/\k.K_.xs.length<=20000:=by
 intro k hk h1;have:=ZX hk;have:=@Zl k;have:=h.size;rcases h.kid k hk with h | h
 ·grind
 ·rw[h.1] at h1;grind
theorem UnitG.fn(h:UnitG n):∀k∈n.K_.xs,k.k_=6->FnG k/\k.K_.xs.length<=20000:=by
 intro k hk h1;have:=ZX hk;have:=@Zl k;have:=h.size;rcases h.kid k hk with h | h
 ·rw[h.1] at h1;grind
 grind
theorem zAk(h:UnitG n):∃(a b c d a' b' c' d':Int) (t:List PT) (s:Sl PSg) (rs:Sl RSg),q6n n=B (a,b,mkS t)/\q77 (n,mkS t)=B (c,d,s)/\q34 (rN n)=B (a',b',mkS (t.map rT))/\q2t (rN n,mkS (t.map rT))=B (c',d',rs)/\t.length<=20000/\s.xs.length<=50000/\rs.xs.length<=50000/\∀g∈s.xs,zd2 t g:=by
 have hk:=h.kids;have h1:=zu7 h.ty (by omega);have h2:=zsY h.ty (by omega);have sg:∀t:List PT,t.length<=20000->∃(c d c' d':Int) (s:Sl PSg) (rs:Sl RSg),q77 (n,mkS t)=B (c,d,s)/\q2t (rN n,mkS (t.map rT))=B (c',d',rs)/\s.xs.length<=50000/\rs.xs.length<=50000/\∀g∈s.xs,zd2 t g:=by
  intro t ht;have h3:=zyq (t:=mkS t) h.fn ht (by omega);have h4:=zvb (t:=t) h.fn ht (by omega);rw[show(mkS t).xs=t from rfl] at h3;cases e:zcC t n.K_.xs with
  |error x=>grind
  |ok s=>
   have:=zs5 e;rw[e] at h3 h4;exact⟨_,_,_,_,_,_,h3,h4,by show s.length<=_;omega,by show(s.map rG).length<=_;grind,zyH (λk hk h6=>(h.fn k hk h6).1) e⟩
 cases e:zbs n.K_.xs with
 |error x=>
  rw[e] at h1 h2;obtain⟨c,d,c',d',s,rs,q1,q2,q3,q4,q5⟩:=sg [] (by simp);exact⟨_,_,c,d,_,_,c',d',[],s,rs,h1,q1,h2,q2,by simp,q3,q4,q5⟩
 |ok t=>
  have ht:=zpV e;grind
theorem zpW(libs:U5):∃L b,q3a libs=B (L,b)/\(b=D->zAj L):=by
 unfold q3a q7e;rw[zfM,jj];simp only[jl,zm];by_cases hp:(Xc libs).2.2=0
 rotate_left
 ·rw[jv hp];grind
 have hg:=zmq hp;rw[jx (by simp[hp])];generalize hn:(Xc libs).1=n at hg;obtain⟨a,b,c,d,a',b',c',d',t,s,rs,h1,h2,h3,h4,ht,hs,hrs,hsg⟩:=zAk hg;have hk:=hg.kids;simp only[h1,jj,h2,zdW,hn,zi,h3,h4];have ek:(rN n).K_.xs=n.K_.xs.map rN:=by rw[zF]
 have ekl:(rN n).K_.xs.length=n.K_.xs.length:=by rw[ek];simp
 obtain⟨⟨fs,rfs⟩,e,_⟩:=go (f:=q4j q5v q6n q77 q2o q34 q2t) (n:=n.K_.xs.length) (A:=Sl Nd×Sl RNd)
  (st:=λi x=>(b,d,n.K_,n.K_.len,(i:Int),s,rN n,rs,(mkS t,mkS (t.map rT)),x.1,x.2)) (fin:=λx=>(b,d,s,rs,(mkS t,mkS (t.map rT)),x.1,x.2)) (J:=λi x=>x.1.xs.length<=i/\x.2.xs.length<=i)
  (λi hi x hx=>by
   obtain⟨fs,rfs⟩:=x;obtain⟨x1,x2⟩:=hx;simp only at x1 x2;unfold q4j;simp only[jl,zm,zi];rw[jv (by simp only[zj];omega),zg hi,jj,Zz (by omega) (by omega)];have wk:=zw (show i < 1000000000 by omega);split
   ·simp only[jj];rw[zg (by omega),jj,Zz (by omega) (by omega)];simp only[jj,wk];exact⟨(_,_),rfl,by simp;omega,by simp;omega⟩
   ·simp only[jj,wk]
    exact⟨(fs,rfs),rfl,by grind,by grind⟩)
  (λx hx=>by
   unfold q4j;simp only[jl]
   rw[jx (by simp only[zj];omega)])
  (a:=(E [] F,E [] F)) ⟨by simp,by simp⟩
 have e:lpO (q4j q5v q6n q77 q2o q34 q2t) (b,d,n.K_,n.K_.len,0,s,rN n,rs,(mkS t,mkS (t.map rT)),E [] F,E [] F)=_:=e;rw[e];simp only[jj];have G:∀f rf,zAj ⟨f,mkS t,s,rf,mkS (t.map rT),rs⟩:=λf rf=>⟨t,rfl,rfl,ht,hs,hrs,hsg⟩
 by_cases c1:b=0<;>by_cases c2:d=0<;>by_cases c3:Sl.len s=Sl.len fs<;>
 ·simp only[c1,c2,c3,jq,jp,jj];exact⟨_,_,rfl,λ_=>G _ _⟩
def QVm(sg:Sl PSg)(fs:Sl PNf)(f:PNf):QK->Prop
 | .y=>False
 | .n n=>n=lit []\/0<=idP n f.V_.xs
 | .x n=>0<=idP n f.V_.xs
 | .c y l=>zpR sg.xs y l
 | .f y l=>zfT fs.xs y l
structure CliG(L:q13)(ks:List Nd)(C:q1r):Prop where
 k:ks.length<=40000
 f:xJ 5000 ks C.J_.xs
 c:C.w_.xs.length=ks.length
 rc:C.g_.xs.length=ks.length
 rf:C.r_.xs.length=ks.length
 g:∀(i:Nat) (c:q1j) (f:PNf),C.w_.xs[i]?=B c->C.J_.xs[i]?=B f->c.L_.xs.length<=40000/\zjq (QVm L.s_ C.J_ f) c.L_.xs
 o:OkS L.I_ C.J_
 s:∀g∈L.s_.xs,zd2 L.I_.xs g
 sl:L.s_.xs.length<=50000
theorem zs6(x:U5×U5):∃L C b,q3n x=B (L,C,b)/\(b=D->∃ks,CliG L ks C):=by
 obtain⟨libs,text⟩:=x;obtain⟨L,ok,hl,hL⟩:=zpW libs;unfold q3n q7u;simp only[hl,jj,zfM,zm,zdW,zi,jl];cases ok with
 |false=>simp only[D8,jq,jj];grind
 |true=>
 obtain⟨t,ty,rty,ht,hs,hrs,hsg⟩:=hL rfl;simp only[Dr,jk,jp,jj,jl];by_cases hp:(Xc text).2.2=0
 rotate_left
 ·rw[jv hp];grind
 have hg:=zmq hp;rw[jx (by simp[hp])];generalize (Xc text).1=n at hg;obtain⟨a,e,fns,h1,hf⟩:=zve hg L.s_ (mkS t) (λs hs=>(hsg s hs).1) hs (by show t.length<=_;omega);obtain⟨S,h2,hrf⟩:=zs4 hg L.q_ t hrs (by omega);rw[ty,rty,h1,jj,h2,jj];have hk:=hg.kids;have hsz:=hg.size;have ek:(rN n).K_.xs=n.K_.xs.map rN:=by rw[zF]
 have ekl:(rN n).K_.xs.length=n.K_.xs.length:=by rw[ek];simp
 obtain⟨⟨cs,rcs⟩,q,j1,j2,j4⟩:=go (f:=q4q q3a q5v q2o q7m q3v q4x q2d) (n:=n.K_.xs.length) (A:=Sl q1j×Sl q1k)
  (st:=λi x=>(e,n.K_,n.K_.len,(i:Int),L,rN n,fns,S.1,S.2,x.1,x.2)) (fin:=λx=>(e,L,fns,S.1,S.2,x.1,x.2)) (J:=λi x=>x.1.xs.length<=i/\x.2.xs.length=x.1.xs.length/\((∀k∈n.K_.xs,FnG k)->x.1.xs.length=i/\∀(j:Nat) (hj:j < n.K_.xs.length) c,x.1.xs[j]?=B c->q4x n.K_.xs[j]=B c))
  (λi hi x hx=>by
   obtain⟨cs,rcs⟩:=x;obtain⟨x1,x2,x4⟩:=hx;simp only at x1 x2 x4;unfold q4q;simp only[jl,zm,zi];rw[jv (by simp only[zj];omega),zg hi,jj];have wk:=zw (show i < 1000000000 by omega);have hx:za (rN n).K_ (i:Int)=B (rN n.K_.xs[i]):=by rw[zg (by omega)];grind
   have hki:=ZX (gc hi);by_cases h6:n.K_.xs[i].k_=6
   ·have hf:=(hg.fn _ (gc hi) h6).1;obtain⟨c,l1,l4,l5⟩:=zpP (Q:=λ_=>True) hf (by omega) trivial λ_ _ _=>zmt (λ_=>⟨λ_=>trivial,λ_=>trivial,λ_=>trivial,λ_=>trivial,λ_=>trivial⟩) _
    obtain⟨rc,l2⟩:=zn1 hf (by omega);simp only[h6,jq,l1,jj,hx,l2];rw[Zz (by omega) (by omega),jj,Zz (by omega) (by omega)];simp only[jj,wk]
    exact⟨(_,_),rfl,by simp;omega,by simp;omega,λh=>⟨by grind,λj hj c' hc=>by
     have hxl:=(x4 h).1;by_cases c0:j < i
     ·grind
     by_cases c1:j=i
     ·grind
     grind⟩⟩
   ·simp only[h6,jp,jj,wk]
    exact⟨(cs,rcs),rfl,by grind,by grind,λh=>absurd (h _ (gc hi)).1 h6⟩)
  (λx hx=>by
   unfold q4q;simp only[jl]
   rw[jx (by simp only[zj];omega)])
  (a:=(E [] F,E [] F)) ⟨by simp,by simp,λ_=>⟨rfl,λj _ c hc=>by cases hc⟩⟩
 have q:lpO (q4q q3a q5v q2o q7m q3v q4x q2d) (e,n.K_,n.K_.len,0,L,rN n,fns,S.1,S.2,E [] F,E [] F)=_:=q;rw[q];simp only[jj];have G:e=0->Sl.len fns=Sl.len cs->Sl.len S.2=Sl.len fns->CliG L n.K_.xs ⟨fns,cs,S.2,rcs⟩:=by
  intro he h1 h2;rcases hf with⟨h,_⟩ | ⟨_,hF,hO,hD⟩
  ·grind
  have kg:∀k∈n.K_.xs,FnG k:=λk hk=>by
   obtain⟨i,hi,rfl⟩:=List.getElem_of_mem hk;exact(hF.2 i hi).g
  obtain⟨j5,j6⟩:=j4 kg;have hF1:=hF.1;simp only[zj] at h1 h2 j2;refine⟨by omega,hF,j5,by grind,by grind,λi c f hc hf=>?_,by grind,by rw[ty];exact hsg,hs⟩;obtain⟨hi',_⟩:=UG.1 hf;have hi:i < n.K_.xs.length:=by grind
  have hz:=ZX (gc hi);have kx:∀m,KnX ((L.s_,mkS t,0,(i:Int)),fns) m->0<=idP m f.V_.xs:=λm hm=>by
   obtain⟨f',⟨j,hj,hf'⟩,h⟩:=hm;obtain rfl:i=j:=by grind
   grind
  obtain⟨c',e1,e2,e3⟩:=zpP (Q:=QVm L.s_ fns f) (kg _ (gc hi)) (by omega) (.inl rfl) λb hb h9=>(hD i hi b hb h9).mono λm hm=>⟨λc=>(hm.q c).imp id (kx _),hm.y,λc=>kx _ (hm.s c),hm.c,hm.f⟩
  grind
 by_cases c1:e=0<;>by_cases c2:S.1.2.2.2=0<;>by_cases c3:Sl.len fns=Sl.len cs<;>
 ·simp only[c1,c2,c3,jq,jp,jj];exact⟨_,_,_,rfl,λh=>by first | exact⟨_,G c1 c3 (by grind)⟩ | cases h⟩
structure FuncG(x:ql):Prop where
 c:zjq (QVm x.G_ x.f_ x.F_) x.c_.L_.xs
 o:OkS x.W_ x.f_
 f:x.F_∈x.f_.xs
 s:∀g∈x.G_.xs,zd2 x.W_.xs g
 sl:x.G_.xs.length<=50000
 fl:x.f_.xs.length<=50000
 l:x.c_.L_.xs.length<=40000
 v:x.F_.V_.xs.length<=60000
theorem zvg(x:U5×U5):∃b fs rs,q1x x=B (b,fs,rs)/\(b=D->fs.xs.length<=40000/\∀x∈fs.xs,FuncG x):=by
 obtain⟨L,C,b,h,hb⟩:=zs6 x;unfold q1x q8e;rw[h,jj];cases b with
 |false=>exact⟨_,_,_,rfl,λh=>by cases h⟩
 |true=>
 obtain⟨ks,hk,hF,hl,hrl,hrf,hG,hO,hS,hSl⟩:=hb rfl;simp only[Dr,jk,jp];have f1:=hF.1
 obtain⟨⟨fs,rs⟩,q,j1,_,j2⟩:=go (f:=q56 q3n) (n:=ks.length) (A:=Sl ql×Sl q15)
  (st:=λi x=>(C.J_.len,(i:Int),L,C,x.1,x.2)) (fin:=λx=>(x.1,x.2)) (J:=λi x=>x.1.xs.length=i/\x.2.xs.length=i/\∀y∈x.1.xs,FuncG y)
  (λi hi x hx=>by
   obtain⟨fs,rs⟩:=x;obtain⟨x1,x2,x3⟩:=hx;simp only at x1 x2 x3;unfold q56;simp only[jl];rw[jv (by simp only[zj];omega),zg (by omega),jj,zg (by omega),jj,Zz (by omega) (by omega),jj,zg (by omega),jj,zg (by omega),jj,Zz (by omega) (by omega),jj,zw (by omega)];refine⟨(_,_),rfl,by simp[x1],by simp[x2],λy hy=>?_⟩;rcases U9.1 hy with hy | hy
   ·exact x3 y hy
   rw[D2] at hy;subst hy;obtain⟨g1,g2⟩:=hG i _ _ (UM (by omega)) (UM (by omega));refine⟨g2,hO,gc _,hS,hSl,by grind,g1,?_⟩;have hv:=(hF.2 i hi).v;have h8:=(hF.2 i hi).l
   grind)
  (λx hx=>by
   unfold q56;simp only[jl]
   rw[jx (by simp only[zj];omega)])
  (a:=(E [] F,E [] F)) ⟨by simp,by simp,by simp⟩
 have q:lpO (q56 q3n) (C.J_.len,0,L,C,E [] F,E [] F)=_:=q;rw[q];exact⟨_,_,_,rfl,λ_=>⟨by omega,j2⟩⟩
theorem ziY{α β:Type}[DecidableEq α](k k':α)(z v:β)(l:List (α×β)):yj k z (Yd k' v l)=if k'=k then v else yj k z l:=by
 unfold yj
 induction l with
 |nil=>by_cases h:k'=k<;>simp[Yd,YO,h]
 |cons a l ih=>
  obtain⟨a,u⟩:=a;unfold Yd;by_cases h:a=k'<;>by_cases h2:a=k<;>grind[YO]
abbrev MF:=ql
theorem zbw{x:MF}{i:Nat}(hi:i < x.c_.L_.xs.length):q1q (x,(i:Int))=B (x.c_.L_.xs[i],D):=by
 unfold q1q qax;simp only[jl];rw[jx (by omega)];simp only[jj,zj];rw[jx (by simp;omega),zg hi];rfl
section
variable {x:MF}(H:FuncG x){i:Nat}(hi:i < x.c_.L_.xs.length)
include H hi
theorem zAl:∃l,q2n (x,(i:Int))=B l/\l.xs.length<=2/\∀k∈l.xs,∃j:Nat,k=(j:Int)/\j < x.c_.L_.xs.length:=by
 have hI:=zbw hi;obtain⟨⟨l0,e,he,hop,hg⟩,_,_,_,_,_,hl,hv⟩:=H;have hN:x.c_.L_.xs.length=l0.length+1:=by rw[he];simp
 have g:=(hg _ (gc hi)).t;have h14:i=l0.length->x.c_.L_.xs[i].O_=14:=λh=>by
  grind
 generalize x.c_.L_.xs[i]=n at *
 unfold q2n qbo;simp only[hI,jj,Dr,jk,jp,jl];by_cases c:n.O_=14
 ·simp only[c,jq,jj,jo];grind
 have hi1:i < l0.length:=by
  grind
 have w:U8 ((i:Int)+1)=((i+1:Nat):Int):=zw (by omega);have two:∀k:Int,k=n.H_\/k=((i+1:Nat):Int)->∃j:Nat,k=(j:Int)/\j < x.c_.L_.xs.length:=by
  rintro k (rfl | rfl)
  ·exact⟨n.H_.toNat,by omega,by omega⟩
  ·exact⟨i+1,rfl,by omega⟩
 rw[jx c];simp only[jj];by_cases c2:n.O_=15
 ·simp only[c2,js,jq,jj,jo];grind
 simp only[c2,jr,jp,jk,w];by_cases c3:n.O_=11
 ·simp only[c3,jq,jj,jo];exact⟨_,rfl,by simp,λk hk=>two k (.inl (D2.1 hk))⟩
 rw[jx c3];by_cases c4:n.O_=10
 ·rw[jv c4];simp only[jj];by_cases c5:n.H_≠((i+1:Nat):Int)
  ·simp only[gm c5,jq,jj,jo];exact⟨_,rfl,by simp,λk hk=>two k (by grind)⟩
  ·simp only[decide_eq_false c5,jk,jp,jj,jm,w];grind
 ·rw[jx c4];simp only[jj,jk,jp,jm,w];grind
theorem zyI:∃y,q24 (x,(i:Int))=B y/\(0<=y->∃v:Nat,y=(v:Int)/\v < x.F_.V_.xs.length):=by
 have hI:=zbw hi;have hv:=H.v;generalize x.c_.L_.xs[i]=n at *
 unfold q24 qay;simp only[hI,jj,jq,jl];have fin':∀b:Bool,∃y,((B (b,x,n)).bind λy1:Bool×MF×CIx=>if y1.1=D then(q1o (y1.2.1.F_,y1.2.2.X_)).bind λy2=>B y2 else B (-1))=B y/\(0<=y->∃v:Nat,y=(v:Int)/\v < x.F_.V_.xs.length):=by
  intro b;cases b
  ·exact⟨-1,rfl,λh=>by omega⟩
  ·refine⟨idP n.X_ x.F_.V_.xs,?_,λh=>⟨_,(DH h).symm,?_⟩⟩
   ·simp only[jj,jq];rw[wW _ _ (by omega)];rfl
   ·have:idP n.X_ x.F_.V_.xs < x.F_.V_.xs.length:=yz.2.1;omega
 split
 ·exact fin' D
 split
 ·exact fin' _
 ·exact fin' F
def tmO(n:CIx):List qz:=n.A_::n.B_::n.Q_.xs
theorem zyJ:∃l,q8v x.c_.L_.xs[i]=B l/\l.xs.length<=60000/\(∀y∈l.xs,0<=idP y x.F_.V_.xs)/\∀t∈tmO x.c_.L_.xs[i],t.N_≠lit []->t.N_∈l.xs:=by
 unfold tmO;obtain⟨⟨l0,e,he,hop,hg⟩,_,_,_,_,_,hl,hv⟩:=H;have g:=hg _ (gc hi);generalize x.c_.L_.xs[i]=n at *
 have g5:¬ (5<=n.O_/\n.O_<=9):=λh=>g.y h.1 h.2
 have gl:=g.l.1;generalize hT:n.A_::n.B_::n.Q_.xs=T;have hTl:T.length=n.Q_.xs.length+2:=by grind
 have hTg:∀t∈T,t.N_=lit []\/0<=idP t.N_ x.F_.V_.xs:=by
  intro t ht;rw[<- hT] at ht;rcases De.1 ht with rfl | ht
  ·exact g.a
  rcases De.1 ht with rfl | ht
  ·exact g.b
  ·exact g.l.2 t ht
 obtain⟨l,e,l1,l2,l3⟩:=go (f:=qbe) (n:=T.length) (A:=Sl U5) (st:=λj a=>((T.length:Int),(j:Int),a,(⟨T,D⟩:Sl qz))) (fin:=λa=>a)
  (J:=λm l=>l.xs.length<=m/\(∀y∈l.xs,0<=idP y x.F_.V_.xs)/\∀t∈T.take m,t.N_≠lit []->t.N_∈l.xs)
  (λj hj l hl=>by
   obtain⟨hl1,hl2,hl3⟩:=hl;have ht:∀t∈T.take (j+1),t∈T.take j\/t=T[j]:=λt ht=>by
    rw[<- DI hj] at ht;grind
   have wk:=zw (show j < 1000000000 by omega);unfold qbe;simp only[jl];rw[jv (by omega),zg (s:=⟨T,D⟩) hj,jj,jj];by_cases c:T[j].N_=lit []
   ·simp only[c,Dm,jt,jp,jj,wk];grind
   ·simp only[c,Dm,ju,jq];rw[Zz (by omega) (by omega)];simp only[jj,wk];refine⟨_,rfl,by simp;omega,λy hy=>?_,λt h hn=>(ht t h).elim (λh=>DC _ (hl3 t h hn)) λh=>DE _ (by grind)⟩;rcases U9.1 hy with hy | hy
    all_goals grind)
  (λl hl=>by
   unfold qbe
   grind)
  (a:=E [] F) ⟨by simp,by simp,by simp⟩
 rw[Dw] at l3;refine⟨l,?_,by omega,l2,λt h=>l3 t h⟩;unfold q8v qff;have f5:∀k:Int,5<=k->k<=9->¬ n.O_=k:=λk h1 h2 h=>g5 (by omega)
 simp only[f5 5 (by omega) (by omega),f5 6 (by omega) (by omega),f5 7 (by omega) (by omega),f5 8 (by omega) (by omega),f5 9 (by omega) (by omega),jr,jk,jp,jj];have ga:zo 24 (E [n.A_,n.B_] D) n.Q_.xs=B ⟨T,D⟩:=by
  have hm:(2+n.Q_.xs.length) * 24<=60000 * 24:=Nat.mul_le_mul (by omega) (UN _);rw[yQ (by simp;omega) (by simp;omega),<- hT];simp
 have e:lpO qbe ((T.length:Int),0,E [] F,(⟨T,D⟩:Sl qz))=_:=e;simp only[ga,jj,zj,e]
theorem zyK:∃l,q2e (x,(i:Int))=B l/\l.xs.length<=60000/\(∀y∈l.xs,∃v:Nat,y=(v:Int)/\v < x.F_.V_.xs.length)/\∀t∈tmO x.c_.L_.xs[i],t.N_≠lit []->idP t.N_ x.F_.V_.xs∈l.xs:=by
 obtain⟨N,hN,n1,n2,n3⟩:=zyJ H hi;have hI:=zbw hi;have hv:=H.v;generalize x.c_.L_.xs[i]=n at *
 obtain⟨l,e,l1,l2,l3⟩:=go (f:=q6d q1q q8v q1o) (n:=N.xs.length) (A:=Sl Int) (st:=λj a=>(N.len,(j:Int),x,a,N)) (fin:=λa=>a)
  (J:=λm l=>l.xs.length<=m/\(∀y∈l.xs,∃v:Nat,y=(v:Int)/\v < x.F_.V_.xs.length)/\∀y∈N.xs.take m,idP y x.F_.V_.xs∈l.xs)
  (λj hj l hl=>by
   obtain⟨hl1,hl2,hl3⟩:=hl;have wk:=zw (show j < 1000000000 by omega);unfold q6d;simp only[jl];rw[jv (by simp only[zj];omega),zg hj,jj,jj,wW _ _ (by omega),jj,Zz (by omega) (by omega),jj,wk];refine⟨_,rfl,by simp;omega,λy hy=>?_,λy hy=>?_⟩
   rotate_left
   ·rw[<- DI hj] at hy;rcases U9.1 hy with hy | hy
    ·grind
    grind
   rcases U9.1 hy with hy | hy
   ·exact hl2 y hy
   ·rw[D2] at hy;subst hy;have h1:=n2 _ (gc hj);have h2:idP N.xs[j] x.F_.V_.xs < x.F_.V_.xs.length:=yz.2.1
    exact⟨_,(DH h1).symm,by omega⟩)
  (λl hl=>by
   unfold q6d;simp only[jl]
   rw[jx (by simp only[zj];omega)])
  (a:=E [] F) ⟨by simp,by simp,by simp⟩
 rw[Dw] at l3;refine⟨l,?_,by omega,l2,λt h hn=>l3 _ (n3 t h hn)⟩;unfold q2e qaz;simp only[hI,hN,jj,jq];rw[show lpO (q6d q1q q8v q1o) (N.len,0,x,E [] F,N)=_ from e];rfl
end
theorem zn6{x:MF}{p:PP}(h:OkO x.W_.xs p):∃b,q48 (x,p)=B b/\(b=D->p.M_=2):=by
 unfold q48 qb0;simp only[jl];by_cases c:p.M_=2
 ·obtain⟨h0,h1⟩:=h c;obtain⟨k,hk⟩:∃k:Nat,p.t_=(k:Int):=⟨_,(DH h0).symm⟩
  rw[hk] at h1;rw[jv c,hk,zg (by omega)];exact⟨_,rfl,λ_=>c⟩
 ·rw[jx c];exact⟨_,rfl,λh=>by cases h⟩
theorem zAm(sg:Sl PSg)(n:CIx)(h:sg.xs.length<=50000):q73 (sg,n)=B (idx (λx=>decide (x.N_=n.Y_)) sg.xs,n):=by
 have:=wm (f:=q6e q5n) (xs:=sg.xs) (p:=λx=>decide (x.N_=n.Y_)) (st:=λi=>(sg,sg.len,(i:Int),n)) (yes:=λi =>.inl ((i:Int),n)) (no :=.inr n)
  (λi hi=>by
   unfold q6e;simp only[jl];rw[jv (by simp only[zj];omega),zg hi,jj];show((B (decide (sg.xs[i].N_=n.Y_),n)).bind _)=_;simp only[jj,zw (show i < 1000000000 by omega)]
   grind)
  (by unfold q6e;simp only[jl];rw[jx (by simp only[zj];omega)])
 unfold q73 qb1;have this:lpO (q6e q5n) (sg,sg.len,0,n)=_:=this;rw[this];unfold idx;cases sg.xs.findIdx? _<;>rfl
theorem zBC(sg:Sl PNf)(n:CIx)(h:sg.xs.length<=50000):q74 (sg,n)=B (idx (λx=>decide (x.N_=n.Y_)) sg.xs,n):=by
 have:=wm (f:=q6f q5o) (xs:=sg.xs) (p:=λx=>decide (x.N_=n.Y_)) (st:=λi=>(sg,sg.len,(i:Int),n)) (yes:=λi =>.inl ((i:Int),n)) (no :=.inr n)
  (λi hi=>by
   unfold q6f;simp only[jl];rw[jv (by simp only[zj];omega),zg hi,jj];show((B (decide (sg.xs[i].N_=n.Y_),n)).bind _)=_;simp only[jj,zw (show i < 1000000000 by omega)]
   grind)
  (by unfold q6f;simp only[jl];rw[jx (by simp only[zj];omega)])
 unfold q74 qb2;have this:lpO (q6f q5o) (sg,sg.len,0,n)=_:=this;rw[this];unfold idx;cases sg.xs.findIdx? _<;>rfl
section
variable {x:MF}(H:FuncG x){i:Nat}(hi:i < x.c_.L_.xs.length)
include H hi
def TkO(x:MF)(n:CIx)(y:Int):Prop:=∃t∈tmO n,t.N_≠lit []/\y=idP t.N_ x.F_.V_.xs
theorem zmB:∃a b c d,q31 (x,(i:Int))=B (a,b,c,d)/\(d=D->TkO x x.c_.L_.xs[i] c/\∃v:Nat,c=(v:Int)/\x.F_.V_.xs[v]?=B b):=by
 have hI:=zbw hi;have hv:=H.v;obtain⟨l0,e,he,hop,hg⟩:=H.c;have g:=hg _ (gc hi);generalize x.c_.L_.xs[i]=n at *
 have at_:∀s,0<=idP s x.F_.V_.xs->∃(v:Nat) (h:v < x.F_.V_.xs.length),idP s x.F_.V_.xs=(v:Int):=λs hs=>by
  have h2:idP s x.F_.V_.xs < x.F_.V_.xs.length:=yz.2.1;exact⟨(idP s x.F_.V_.xs).toNat,by omega,by omega⟩
 unfold q31 qb3;simp only[hI,jj,Dr,jk,jp,jl];by_cases c0:n.O_=0
 rotate_left
 ·rw[jv c0];exact⟨_,_,_,_,rfl,λh=>by cases h⟩
 rw[jx (by simp[c0])];by_cases c1:n.A_.N_=lit []
 ·rw[jv c1];exact⟨_,_,_,_,rfl,λh=>by cases h⟩
 rw[jx c1];by_cases c2:n.A_.n_≠0
 ·simp only[gm c2,jj,jq];grind
 have ha:0<=idP n.A_.N_ x.F_.V_.xs:=(show _\/_ from g.a).resolve_left c1;obtain⟨v,hv1,ev⟩:=at_ _ ha;obtain⟨w,hw1,ew⟩:=at_ _ (show 0<=idP n.X_ x.F_.V_.xs from g.x c0);simp only[decide_eq_false c2,jj,jk,jp];rw[wW _ _ (by omega),jj,ev,zg hv1,jj,wW _ _ (by omega),jj,ew,zg hw1];exact⟨_,_,_,_,rfl,λ_=>⟨⟨n.A_,by simp[tmO],c1,ev.symm⟩,v,rfl,UM hv1⟩⟩
theorem zvh:∃ps,q38 (x,x.c_.L_.xs[i])=B ps/\ps.xs.length<=50000/\∀(k:Nat) (p:PP),ps.xs[k]?=B p->OkO x.W_.xs p/\∃t,x.c_.L_.xs[i].Q_.xs[k]?=B t/\(p.M_=2->t.N_≠lit []):=by
 obtain⟨l0,e,he,hop,hg⟩:=H.c;have g:=hg _ (gc hi);generalize x.c_.L_.xs[i]=n at *
 have key:∀{l:List PP},(∀p∈l,OkO x.W_.xs p)->l.length=(n.Q_.xs.map qz.N_).length->Fit (n.Q_.xs.map qz.N_) l->∀(k:Nat) (p:PP),l[k]?=B p->OkO x.W_.xs p/\∃t,n.Q_.xs[k]?=B t/\(p.M_=2->t.N_≠lit []):=by
  intro l ho hl hf k p hp;obtain⟨hk,e⟩:=UG.1 hp;have hk2:k < n.Q_.xs.length:=by grind
  exact⟨ho p (UW hp),_,UM hk2,hf k _ p (by grind) hp⟩
 have none:∀(k:Nat) (p:PP),([]:List PP)[k]?=B p->OkO x.W_.xs p/\∃t,n.Q_.xs[k]?=B t/\(p.M_=2->t.N_≠lit []):=λk p h=>by simp at h
 have gl:=g.l.1;unfold q38 qaf;simp only[jl];by_cases c0:n.O_=12
 ·obtain⟨k,s,h1,h2,h3,h4⟩:zpR x.G_.xs n.Y_ (n.Q_.xs.map qz.N_):=g.c c0;obtain⟨hk,rfl⟩:=UG.1 h2;rw[jv c0,zAm _ _ H.sl];simp only[jj,h1];rw[jv (by omega),zg hk];exact⟨_,rfl,by grind,key (H.s _ (gc hk)).2 h3.symm h4⟩
 rw[jx c0];by_cases c1:n.O_=13
 ·obtain⟨k,f,h1,h2,h3,h4,h5⟩:zfT x.f_.xs n.Y_ (n.Q_.xs.map qz.N_):=g.f c1;obtain⟨hk,rfl⟩:=UG.1 h2;rw[jv c1,zBC _ _ H.fl];simp only[jj,h1];rw[jv (by omega),zg hk,jj,jj,YV (by omega) (by omega) h4];have e3:(x.f_.xs[k].P_).toNat=(n.Q_.xs.map qz.N_).length:=by omega
  simp only[jj,jo,e3];have h6:(n.Q_.xs.map qz.N_).length<=x.f_.xs[k].V_.xs.length:=by omega
  refine⟨_,rfl,?_,key (λp hp=>H.o _ (gc hk) p (List.mem_of_mem_take (by simpa using hp))) ?_ ?_⟩
  all_goals grind
 ·rw[jx c1];exact⟨_,rfl,by simp,none⟩
theorem zn7:∃l,q1l (x,(i:Int))=B l/\l.xs.length<=50000/\(∀y∈l.xs,TkO x x.c_.L_.xs[i] y)/\∀a b c,q31 (x,(i:Int))=B (a,b,c,D)->a.M_≠b.M_->l.xs=[]:=by
 obtain⟨a,b,c,d,ep,hp⟩:=zmB H hi;obtain⟨ps,es,pl,hps⟩:=zvh H hi;have hI:=zbw hi;have hv:=H.v;have hfo:∀p∈x.F_.V_.xs,OkO x.W_.xs p:=H.o _ H.f
 generalize x.c_.L_.xs[i]=n at *
 unfold q1l qb4;simp only[ep,jj,jl];cases d with
 |true=>
  obtain⟨ht,v,rfl,hvb⟩:=hp rfl;obtain⟨m,em,_⟩:=zn6 (x:=x) (hfo b (UW hvb));simp only[jq,em,jj];by_cases c1:a.M_=b.M_
  ·rw[jv c1];have fin':∀q:Bool,∃l,(((B ((v:Int),q)).bind λy2:Int×Bool=>if y2.2=D then B (Sum.inl (E [y2.1] D)) else B (Sum.inl (E [] F)):U7 (Sl Int⊕Int×MF)).bind λy3=>Sum.elim (λy4:Sl Int=>B y4) (λy5:Int×MF=>(q1q (y5.2,y5.1)).bind λy6:CIx×Bool=>(q38 (y5.2,y6.1)).bind λy7:Sl PP=>(lpO (q5d q31 q48 q1q q38 q1o) (y7,y7.len,0,y5.2,y6.1,E [] F)).bind λy15:Sl Int=>B y15) y3)=B l/\l.xs.length<=50000/\(∀y∈l.xs,TkO x n y)/\∀a' b' c',B (a,b,(v:Int),D)=B (a',b',c',D)->a'.M_≠b'.M_->l.xs=[]:=by
    intro q;cases q
    ·exact⟨_,rfl,by simp,by simp,λ_ _ _ _ _=>rfl⟩
    ·exact⟨_,rfl,by simp,by simpa using ht,λa' b' c' h h2=>by grind⟩
   cases m
   ·exact fin' _
   ·exact fin' D
  ·rw[jx c1];exact⟨_,rfl,by simp,by simp,λ_ _ _ _ _=>rfl⟩
 |false=>
  simp only[jk,jp,jj,jm,hI,es]
  obtain⟨l,e,l1,l2⟩:=go (f:=q5d q31 q48 q1q q38 q1o) (n:=ps.xs.length) (A:=Sl Int) (st:=λk a=>(ps,ps.len,(k:Int),x,n,a)) (fin:=λa=>a) (J:=λk a=>a.xs.length<=k/\∀y∈a.xs,TkO x n y)
   (λk hk l hl=>by
    obtain⟨hl1,hl2⟩:=hl;have wk:=zw (show k < 1000000000 by omega);obtain⟨ho,t,ht,hm⟩:=hps k _ (UM hk);obtain⟨m,em,hm2⟩:=zn6 (x:=x) ho;obtain⟨hka,rfl⟩:=UG.1 ht;unfold q5d;simp only[jl];rw[jv (by simp only[zj];omega),zg hk];simp only[jj,em];cases m
    ·grind
    ·simp only[jq,zg hka,jj];rw[wW _ _ (by omega),jj,Zz (by omega) (by omega)];simp only[jj,wk];refine⟨_,rfl,by simp;omega,λy hy=>?_⟩;rcases U9.1 hy with hy | hy
     ·exact hl2 y hy
     ·rw[D2] at hy
      exact⟨_,by simp[tmO],hm (hm2 rfl),hy⟩)
   (λl hl=>by
    unfold q5d;simp only[jl]
    rw[jx (by simp only[zj];omega)])
   (a:=E [] F) ⟨by simp,by simp⟩
  rw[show lpO (q5d q31 q48 q1q q38 q1o) (ps,ps.len,0,x,n,E [] F)=_ from e];grind
theorem zyL:∃y b,q3o (x,(i:Int))=B (y,b)/\(0<=y->TkO x x.c_.L_.xs[i] y/\(∃(v:Nat) (p:PP),y=(v:Int)/\x.F_.V_.xs[v]?=B p/\p.M_=2)/\∃l,q1l (x,(i:Int))=B l/\l.xs=[]):=by
 obtain⟨a,b,c,d,ep,hp⟩:=zmB H hi;obtain⟨l,el,_,_,hl⟩:=zn7 H hi;unfold q3o qdq;simp only[ep,jj,jl];cases d with
 |false=>grind
 |true=>
  obtain⟨ht,v,rfl,hvb⟩:=hp rfl;simp only[Dr,jk,jp];by_cases c1:b.M_=2
  rotate_left
  ·grind
  rw[jx (by simp[c1])];have fin':a.M_=3\/a.M_=4->TkO x x.c_.L_.xs[i] (v:Int)/\(∃(w:Nat) (p:PP),(v:Int)=(w:Int)/\x.F_.V_.xs[w]?=B p/\p.M_=2)/\∃l,q1l (x,(i:Int))=B l/\l.xs=[]:=λh=>
   ⟨ht,⟨v,b,rfl,hvb,c1⟩,l,el,hl a b v ep (by omega)⟩
  by_cases c2:a.M_=3
  ·grind
  rw[jv c2];by_cases c3:a.M_=4
  ·grind
  grind
end
noncomputable abbrev ML0:=q3z q1x q22 q2e q1l q2n q3o q24
noncomputable abbrev ML1:=q40 q1x q22 q2e q1l q2n q3o q24
noncomputable abbrev zAn:=q41 q1x q22 q2e q1l q2n q3o q24
noncomputable abbrev ML3:=q42 q1x q22 q2e q1l q2n q3o q24
noncomputable abbrev ML4:=q39 q1x q22 q2e q1l q2n q3o q24
abbrev MI:=U5×Sl (Int×Int)
theorem zyM {x:MF}{R:Sl Int}(hR:R.xs.length<=60000) (h:∀y∈R.xs,∃v:Nat,y=(v:Int)/\v < x.F_.V_.xs.length) {i:Int}{fs:Sl MF} :
    ∃m:MI,lpO ML0 (i,p,q,r,c,R.len,0,x,(lit [],E [] D),fs,R)=B (.inr (i,p,q,r,c,x,m,fs))/\∀y∈R.xs,¬ yj y 0 m.2.xs=0:=by
 obtain⟨m,e,h1,h2⟩:=go (f:=ML0) (n:=R.xs.length) (A:=MI) (st:=λk m=>(i,p,q,r,c,R.len,(k:Int),x,m,fs,R)) (fin:=λm =>.inr (i,p,q,r,c,x,m,fs)) (J:=λk m=>(∀y,0<=yj y 0 m.2.xs/\yj y 0 m.2.xs<=k)/\∀y∈R.xs.take k,¬ yj y 0 m.2.xs=0)
  (λk hk m hm=>by
    obtain⟨h1,h2⟩:=hm;have wk:=zw (show k < 1000000000 by omega);obtain⟨v,ev,hv⟩:=h _ (gc hk);have b:=h1 R.xs[k];have wi:U8 (yj R.xs[k] 0 m.2.xs+1)=yj R.xs[k] 0 m.2.xs+1:=zK (by omega) (by omega);show∃a',q3z _ _ _ _ _ _ _ _=_/\_
    unfold q3z;simp only[jl];rw[jv (by simp only[zj];omega),zg hk];simp only[jj,wi];have hd:decide (x.F_.V_.len<=R.xs[k])=false:=decide_eq_false (by rw[zj];omega);rw[jx (by omega)];simp only[jj,hd,jk,jp,wk];refine⟨_,rfl,λy=>?_,λy hy=>?_⟩
    ·simp only[ziY];grind
    · simp only[ziY];split
      ·omega
      · rename_i hne;rw[<- DI hk] at hy
        grind)
  (λm hm=>by
    show q3z _ _ _ _ _ _ _ _=_;unfold q3z;simp only[jl]
    rw[jx (by simp only[zj];omega)])
  (a:=(lit [],E [] D)) ⟨λy=>by simp[yj,YO],by simp⟩
 grind
theorem zyN {x:MF}{T:Sl Int}{m:MI}(hT:T.xs.length<=50000) (h:∀y∈T.xs,¬ yj y 0 m.2.xs=0) {i:Int}{fs:Sl MF} :
    lpO ML1 (i,p,q,r,c,T.len,0,x,m,fs,T)=B (.inr (i,p,q,r,c,x,m,fs)):=by
 obtain⟨_,e,_⟩:=go (f:=ML1) (n:=T.xs.length) (A:=Unit) (st:=λk _=>(i,p,q,r,c,T.len,(k:Int),x,m,fs,T)) (fin:=λ_ =>.inr (i,p,q,r,c,x,m,fs)) (J:=λ_ _=>True)
  (λk hk _ _=>by
    have wk:=zw (show k < 1000000000 by omega);show∃a',q40 _ _ _ _ _ _ _ _=_/\_
    unfold q40;simp only[jl];rw[jv (by simp only[zj];omega),zg hk];simp only[jj];rw[jx (h _ (gc hk)),wk]
    exact⟨(),by grind,trivial⟩)
  (λ_ _=>by
    show q40 _ _ _ _ _ _ _ _=_;unfold q40;simp only[jl]
    rw[jx (by simp only[zj];omega)])
  (a:=()) trivial
 exact e
theorem zAo {x:MF}{T:Sl Int}{m:MI}(hT:T.xs.length<=2) (h:∀k∈T.xs,∃j:Nat,k=(j:Int)/\j < x.c_.L_.xs.length) {i:Int}{fs:Sl MF} :
    lpO zAn (i,p,q,r,c,T.len,0,x,m,fs,T)=B (.inr (i,p,q,r,c,x,m,fs)):=by
 obtain⟨_,e,_⟩:=go (f:=zAn) (n:=T.xs.length) (A:=Unit) (st:=λk _=>(i,p,q,r,c,T.len,(k:Int),x,m,fs,T)) (fin:=λ_ =>.inr (i,p,q,r,c,x,m,fs)) (J:=λ_ _=>True)
  (λk hk _ _=>by
    have wk:=zw (show k < 1000000000 by omega);obtain⟨v,ev,hv⟩:=h _ (gc hk);show∃a',q41 _ _ _ _ _ _ _ _=_/\_
    unfold q41;simp only[jl];rw[jv (by simp only[zj];omega),zg hk];simp only[jj];have hd:decide (x.c_.L_.len<=T.xs[k])=false:=decide_eq_false (by rw[zj];omega);rw[jx (by omega)];simp only[jj,hd,jk,jp,wk]
    exact⟨(),by grind,trivial⟩)
  (λ_ _=>by
    show q41 _ _ _ _ _ _ _ _=_;unfold q41;simp only[jl]
    rw[jx (by simp only[zj];omega)])
  (a:=()) trivial
 exact e
theorem zAp{x:MF}(H:FuncG x){fs:Sl MF}:lpO ML3 (p,q,x.c_.L_.len,0,x,fs)=B (.inr (p,q,fs)):=by
 have hN:=H.l;have hV:=H.v
 obtain⟨_,e,_⟩:=go (f:=ML3) (n:=x.c_.L_.xs.length) (A:=Unit) (st:=λi _=>(p,q,x.c_.L_.len,(i:Int),x,fs)) (fin:=λ_ =>.inr (p,q,fs)) (J:=λ_ _=>True)
  (λi hi _ _=>by
   have wk:=zw (show i < 1000000000 by omega);obtain⟨R,eR,R1,R2,R3⟩:=zyK H hi;obtain⟨T,eT,T1,T2,_⟩:=zn7 H hi;obtain⟨X,eX,X1,X2⟩:=zAl H hi;obtain⟨y,b,eL,hL⟩:=zyL H hi;obtain⟨g,eG,hG⟩:=zyI H hi;obtain⟨m,e0,hm⟩:=zyM R1 R2 (p:=p) (q:=q) (r:=x.c_.L_.len) (i:=(i:Int)) (c:=(i:Int)) (fs:=fs);have tk:∀z,TkO x x.c_.L_.xs[i] z->¬ yj z 0 m.2.xs=0:=λz hz=>by
    obtain⟨t,h1,h2,rfl⟩:=hz;grind
   have e1:=zyN (x:=x) (m:=m) T1 (λz hz=>tk z (T2 z hz)) (p:=p) (q:=q) (r:=x.c_.L_.len) (i:=(i:Int)) (c:=(i:Int)) (fs:=fs);have e2:=zAo (m:=m) X1 X2 (p:=p) (q:=q) (r:=x.c_.L_.len) (i:=(i:Int)) (c:=(i:Int)) (fs:=fs);show∃a',q42 _ _ _ _ _ _ _ _=_/\_
   unfold q42;simp only[jl];rw[jv (by simp only[zj];omega),eR,jj,e0];simp only[jj,jm,eT];rw[e1];simp only[jj,jm,eX];rw[e2];simp only[jj,jm,eL];have hg:¬ x.F_.V_.len<=g:=by
    rw[zj];grind
   by_cases c:0<=y
   ·obtain⟨h1,⟨v,pp,rfl,h3,h4⟩,l,h5,h6⟩:=hL c;rw[eT] at h5;cases h5;obtain⟨hv,rfl⟩:=UG.1 h3;rw[jv c,jx (tk _ h1),zg hv];simp only[jj];rw[jx (λh=>h h4)];simp only[eT,jj,zj (s:=T),h6,List.length_nil];rw[jx (by decide),eG];simp only[jj];rw[jx hg];simp only[jj,jm,wk];exact⟨(),by grind,trivial⟩
   ·rw[jx c];simp only[jj,jk,jp,eG];rw[jx hg];simp only[jj,jm,wk]
    exact⟨(),by grind,trivial⟩)
  (λ_ _=>by
   show q42 _ _ _ _ _ _ _ _=_;unfold q42;simp only[jl]
   rw[jx (by simp only[zj];omega)])
  (a:=()) trivial
 exact e
theorem zvi(hw:q22 ()=B D)(x:U5×U5):qag x=B true:=by
 obtain⟨b,fs,rs,h,hb⟩:=zvg x;unfold qag qa1;simp only[h,jj,hw,Dr,jk,jp];cases b with
 |false=>grind
 |true=>
 obtain⟨hl,hG⟩:=hb rfl
 obtain⟨_,e,_⟩:=go (f:=ML4) (n:=fs.xs.length) (A:=Unit) (st:=λi _=>(fs.len,(i:Int),fs)) (fin:=λ_ =>.inr ()) (J:=λ_ _=>True)
  (λi hi _ _=>by
   have wk:=zw (show i < 1000000000 by omega);show∃a',q39 _ _ _ _ _ _ _ _=_/\_
   unfold q39;simp only[jl];rw[jv (by simp only[zj];omega),zg hi];simp only[jj];rw[zAp (hG _ (gc hi))];simp only[jj,jm,wk]
   exact⟨(),by grind,trivial⟩)
  (λ_ _=>by
   show q39 _ _ _ _ _ _ _ _=_;unfold q39;simp only[jl]
   rw[jx (by simp only[zj];omega)])
  (a:=()) trivial
 simp only[Dr,jk,jp];rw[show lpO (q39 q1x q22 q2e q1l q2n q3o q24) (fs.len,0,fs)=_ from e];rfl
deriving instance DecidableEq for Sl
mutual
def zvj:q8->q8->Bool
 |⟨k,t,n,a,s⟩,⟨k',t',n',a',s'⟩=>(decide (k=k') && (decide (t=t') && (decide (n=n') && decide (a=a')))) && zvk s s'
def zvk:Sl q8->Sl q8->Bool
 |⟨l,b⟩,⟨l',b'⟩=>(b == b') && zfU l l'
def zfU:List q8->List q8->Bool
 |[],[]=>D
 |x::l,y::r=>zvj x y && zfU l r
 |_,_=>F
end
mutual
theorem zmC:∀a b:q8,zvj a b=D↔a=b
 |⟨k,t,n,a,s⟩,⟨k',t',n',a',s'⟩=>by
  unfold zvj;have:=zvl s s';simp only[gf,jl,this,q8.mk.injEq];constructor
  ·rintro⟨⟨h1,h2,h3,h4⟩,h5⟩;exact⟨h1,h2,h3,h4,h5⟩
  ·rintro⟨h1,h2,h3,h4,h5⟩;exact⟨⟨h1,h2,h3,h4⟩,h5⟩
theorem zvl:∀a b:Sl q8,zvk a b=D↔a=b
 |⟨l,b⟩,⟨l',b'⟩=>by
  unfold zvk;have:=zmD l l';simp only[gf,beq_iff_eq,this,E.injEq];constructor
  ·rintro⟨h1,h2⟩;exact⟨h2,h1⟩
  ·rintro⟨h1,h2⟩;exact⟨h2,h1⟩
theorem zmD:∀a b:List q8,zfU a b=D↔a=b
 |[],[]=>by unfold zfU;simp
 |x::l,y::r=>by
  unfold zfU;have h1:=zmC x y;have h2:=zmD l r;simp only[gf,h1,h2,List.cons.injEq]
 |[],_::_=>by unfold zfU;simp
 |_::_,[]=>by unfold zfU;simp
end
instance:DecidableEq q8:=λa b=>decidable_of_iff _ (zmC a b)
deriving instance DecidableEq for qr
deriving instance DecidableEq for q7
deriving instance DecidableEq for qt
deriving instance DecidableEq for qw
deriving instance DecidableEq for qa
deriving instance DecidableEq for qh
deriving instance DecidableEq for qf
deriving instance DecidableEq for qe
deriving instance DecidableEq for qz
deriving instance DecidableEq for qm
deriving instance DecidableEq for q1j
deriving instance DecidableEq for ql
end Go.Px
