/- Part Lc. -/
import Derived.Test.YthnflpoohleiaaaGreatDoorLb
set_option linter.unusedVariables false
set_option linter.unusedSimpArgs false
namespace Go.Px
open Bool renaming true->A,false->B
open List renaming map_nil->H,cons_append->I
open _root_.Option renaming some->o,bind_fun_some->G
open Prod renaming mk->D,snd->E
open Sl renaming mk->C
variable{n':Nat}{one:List Tk->PR Nd}{t:List Tk}{α β γ δ:Type}{f:α->List Tk->PR β}{m:Uv β}{r:PR α}
section
theorem D5:∀{α : Type _} {l : List α},0 < l.length↔l≠[]:=@List.length_pos_iff
theorem wU(s:Sl α)(i:Nat):za s (i:Int)=s.xs[i]?:=by
 unfold za;grind
theorem zB{s:Type}{f:s->Uv (Step s β)}{x y:s}(h:f x=o (.next y)):lpO f x=lpO f y:=by rw[Zu,h];rfl
theorem zw{s:Type}{f:s->Uv (Step s β)}{x:s}{y:β}(h:f x=o (.done y)):lpO f x=o y:=by rw[Zu,h];rfl
abbrev RTk:=q9
abbrev RNd:=q6
abbrev PS:=(Int×Int×Int×Int)×Sl RTk
mutual
def rN:Nd->RNd
 |⟨k,t,n,a,s⟩=>⟨k,t,n,a,rS s⟩
def rS:Sl Nd->Sl RNd
 |⟨l,b⟩=>⟨rL l,b⟩
def rL:List Nd->List RNd
 |[]=>[]
 |n::l=>rN n::rL l
end
theorem zrN:∀l:List Nd,rL l=l.map rN
 |[]=>by simp[rL]
 |n::l=>by simp[rL,zrN l]
theorem yt(s:Sl Nd):rS s=⟨s.xs.map rN,s.nn⟩:=by cases s;unfold rS;rw[zrN]
theorem yo(n:Nd):rN n=⟨n.k_,n.T_,n.n_,n.a_,rS n.K_⟩:=by cases n;unfold rN;rfl
theorem yu:rS nilS=⟨[],B⟩:=by rw[yt];rfl
theorem zj(a:RNd):kr a=a:=by cases a;rfl
structure GK(T:Sl RTk)(k:Nat)(ts:List Tk):Prop where
 dr:T.xs.drop k=ts.map toR
 g:TGood ts
 b:k+ts.length<=30000
 sg:∀t∈ts,t.k_=4->∀c∈bs t.T_,isL c=B
def RS(T:Sl RTk)(d:Int)(n:Nat)(r:PR α)(m:Uv β)(mk:α->PS->β)(pk:β->PS):Prop:=match r with
 | .error e=>∃(b:β) (k:Nat),m=o b/\pk b=(((k:Int),d,e.2,e.1),T)/\k < T.xs.length/\e.2≠0
 | .ok (a,ts)=>∃k:Nat,m=o (mk a (((k:Int),d,0,0),T))/\GK T k ts/\ts.length<=n
section
variable {T:Sl RTk}{d e a:Int}{k n:Nat}{ts:List Tk}
theorem GK.lt(h:GK T k ts):k < T.xs.length:=by
 have:=congrArg List.length h.dr;have h2:=D5.2 h.g.ne;grind
theorem GK.idx(h:GK T k ts):za T (k:Int)=o (toR (hd ts)):=by
 have h1:=congrArg (λl=>l[0]?) h.dr;simp only[Db,UY,U3] at h1;rw[show za T (k:Int)=T.xs[k]? from wU T k,h1]
 match ts,h.g with
 |[],g=>exact absurd rfl g.ne
 |t::r,_=>rfl
theorem GK.tail(h:GK T k ts)(c:(hd ts).k_≠0):GK T (k+1) ts.tail/\ts.tail.length+1=ts.length:=by
 have h1:=h.g.tail c;have h2:=h.g.tail_len;refine⟨⟨?_,h1,?_,λt a=>h.sg t (List.mem_of_mem_tail a)⟩,h2⟩
 ·rw[<- List.drop_drop,h.dr]
  match ts with
  |[]=>rfl
  |t::r=>rfl
 ·have:=h.b;omega
theorem zcB(a:k < T.xs.length):∃t,za T (k:Int)=o t:=⟨T.xs[k],by rw[wU];grind⟩
theorem zu(a:k < 1000000000):Uw ((k:Int)+1)=((k+1:Nat):Int):=by rw[zF Zd Zd];rfl
theorem zlH(b:k < T.xs.length)(f:e≠0)(s:Ut):q1u (s,((k:Int),d,e,a),T)=o (B,((k:Int),d,e,a),T):=by
 obtain⟨t,c⟩:=zcB b;unfold q1u qbh;grind
theorem yv(c:k < T.xs.length)(b:e≠0)(s:Ut):q10 (s,((k:Int),d,e,a),T)=o (B,((k:Int),d,e,a),T):=by
 unfold q10 qau;simp only[zlH c b,jj,jk,jp]
theorem zdV(b:e≠0)(c:Int):q1a (c,((k:Int),d,e,a),T)=o (((k:Int),d,e,a),T):=by
 unfold q1a q9p;grind
theorem Zr(c:k < T.xs.length)(b:e≠0)(s:Ut):q12 (s,((k:Int),d,e,a),T)=o (((k:Int),d,e,a),T):=by
 unfold q12 q9q;simp only[yv c b,zdV b,jj,Dy,jq]
theorem zgP(f:k < T.xs.length)(b:e≠0):q17 (((k:Int),d,e,a),T)=o ((0,lit [],0,0),((k:Int),d,e,a),T):=by
 obtain⟨t,c⟩:=zcB f;unfold q17 q9r;simp only[c,zdV b,jj,Dc,b,ju,js,jq]
theorem xX(f:k < T.xs.length)(b:e≠0):q2n (((k:Int),d,e,a),T)=o (0,((k:Int),d,e,a),T):=by
 obtain⟨t,c⟩:=zcB f;unfold q2n q8e;simp only[c,zdV b,jj,Dc,b,ju,js,jq]
theorem zgQ(c:k < T.xs.length)(b:e≠0)(x:RNd):q2c (x,((k:Int),d,e,a),T)=o (x,((k:Int),d,e,a),T):=by
 unfold q2c q9s;simp only[yv c b,jj,jk,jp,zj]
theorem zbs(b:k < T.xs.length)(c:e≠0):∃v,q1z (((k:Int),d,e,a),T)=o (v,((k:Int),d,e,a),T):=by
 obtain⟨t,f⟩:=zcB b;unfold q1z q9t;simp only[f,yv b c,xX b c,zgP b c,zgQ b c,jj,jk,jp];split<;>exact⟨_,rfl⟩
theorem zAn(c:k < T.xs.length)(b:e≠0):q6s (((k:Int),d,e,a),T)=o (lit [],((k:Int),d,e,a),T):=by
 unfold q6s qav;have h0:∀i:Int,∀s,za (⟨[lit [60],lit [60,61],lit [61,61]],A⟩:Sl Ut) i=o s->0<=i->i < 3->q7z q10 q1a (i,((k:Int),d,e,a),T,C [lit [60],lit [60,61],lit [61,61]] A)=o (.next (i+1,((k:Int),d,e,a),T,C [lit [60],lit [60,61],lit [61,61]] A)):=by
  intro i s hs h0 f;unfold q7z;simp only[hs,yv c b,jj,jk,jp];rw[jv (by simp[Sl.len];omega),zF Zd Zd]
 rw[zB (h0 0 _ rfl Zd Zd),zB (h0 (0+1) _ rfl Zd Zd),zB (h0 (0+1+1) _ rfl Zd Zd),zw (y :=.inr (((k:Int),d,e,a),T)) rfl];simp only[jj,jm,zdV b]
theorem zyL(c:k < T.xs.length)(b:e≠0):∃w,q3n (((k:Int),d,e,a),T)=o (((k:Int),d,e,a),T,w):=by
 unfold q3n q9u;simp only[Zr c b,yv c b,jj,jk,jp,Dc,b,ju,js,jq];grind
theorem zlI(b:k < T.xs.length)(c:e≠0):∃v,q3o (((k:Int),d,e,a),T)=o (v,((k:Int),d,e,a),T):=by
 obtain⟨t,f⟩:=zcB b;unfold q3o q9v;simp only[f,Zr b c,yv b c,zgP b c,jj,jk,jp,Dy,jq];grind
theorem zrO(b:k < T.xs.length)(c:e≠0):∃v,q6e (((k:Int),d,e,a),T)=o (v,((k:Int),d,e,a),T):=by
 obtain⟨t,f⟩:=zcB b;obtain⟨v,g⟩:=zbs (d:=d) (a:=a) b c;unfold q6e q9w;simp only[f,g,Zr b c,yv b c,zlH b c,zgP b c,zgQ b c,jj,jk,jp];grind
theorem znt(c:k < T.xs.length)(b:e≠0)(hd : -1000<=d/\d<=1000)(j:Nat):∃v w,q4m (j+1) (((k:Int),d,e,a),T)=o (v,((k:Int),d,e,a),T,w):=by
 obtain⟨t,f⟩:=zcB c;show∃v w,q2o _ _ _ _ _ _=_
 unfold q2o;simp only[f,Zr c b,zlH c b,jj,jk,jp];rw[Zu];simp only[q4n,b,jr,jk,jp,jj];rw[zF (n:=d+1) Zd Zd,zF Zd Zd,(Zd:d+1 - 1=d)];grind
theorem zyM(c:k < T.xs.length)(b:e≠0):∃v,q4g (((k:Int),d,e,a),T)=o (v,((k:Int),d,e,a),T):=by
 obtain⟨t,f⟩:=zcB c;unfold q4g q9x;simp only[f,yv c b,jj,jk,jp];generalize ((0,lit [],0,0):Int×Ut×Int×Int)=z;have h0:∀(i:Int) (s) (q:Int×Ut×Int×Int),za (⟨[lit [99,111,117,110,116,101,100],lit [108,111,99,107],lit [103,117,97,114,100]],A⟩:Sl Ut) i=o s->0<=i->i < 3->q45 q10 q17 q1a (i,((k:Int),d,e,a),T,z,q,C [lit [99,111,117,110,116,101,100],lit [108,111,99,107],lit [103,117,97,114,100]] A)=o (.next (i+1,((k:Int),d,e,a),T,z,q,C [lit [99,111,117,110,116,101,100],lit [108,111,99,107],lit [103,117,97,114,100]] A)):=by
  intro i s q hs h0 g;unfold q45;simp only[hs,yv c b,jj,jk,jp];rw[jv (by simp[Sl.len];omega),zF Zd Zd]
 rw[zB (h0 0 _ _ rfl Zd Zd),zB (h0 (0+1) _ _ rfl Zd Zd),zB (h0 (0+1+1) _ _ rfl Zd Zd),zw (y :=.inr (((k:Int),d,e,a),T,z,_)) rfl];simp only[jj,jm,zdV b];grind
end
end
section
section
variable {T:Sl RTk}{d e a:Int}{k n:Nat}{ts:List Tk}
theorem RS.bd {f:α->List Tk->PR γ}{K:β->Uv δ}{mk:α->PS->β}{pk:β->PS}{j:γ->PS->δ}{i:δ->PS}(h:RS T d n r m mk pk)
    (hb:∀(b:β) (k:Nat) (e a:Int),pk b=(((k:Int),d,e,a),T)->k < T.xs.length->e≠0->∃c,K b=o c/\i c=(((k:Int),d,e,a),T))
    (t:∀a ts (k:Nat),r = .ok (a,ts)->GK T k ts->ts.length<=n->RS T d n' (f a ts) (K (mk a (((k:Int),d,0,0),T))) j i):RS T d n' (r.bd f) (m.bind K) j i:=by
 cases r with
 |error e=>
  obtain⟨b,k,rfl,h1,h2,q⟩:=h;obtain⟨c,u,s⟩:=hb b k _ _ h1 h2 q;exact⟨c,k,u,s,h2,q⟩
 |ok p=>
  obtain⟨a,ts⟩:=p;obtain⟨k,rfl,g,l⟩:=h;exact t a ts k rfl g l
theorem RS.ok{x:α}{mk:α->PS->β}{pk:β->PS}(g:GK T k ts)(l:ts.length<=n)(h:m=o (mk x (((k:Int),d,0,0),T))):RS T d n (.ok (x,ts)) m mk pk:=⟨k,h,g,l⟩
theorem RS.mono{mk:α->PS->β}{pk:β->PS}(h:RS T d n r m mk pk)(l:n<=n'):RS T d n' r m mk pk:=by
 cases r with
 |error e=>exact h
 |ok p=>obtain⟨k,h1,h2,a⟩:=h;exact⟨k,h1,h2,UF a l⟩
theorem PR.bd_assoc{g:β->List Tk->PR γ}:(r.bd f).bd g=r.bd λa t=>(f a t).bd g:=by
 cases r<;>rfl
theorem PR.bd_ok{x:α}:PR.bd (.ok (x,t)) f=f x t:=rfl
theorem GK.is(g:GK T k ts){s:List UInt8}(h:isP s ts=A):GK T (k+1) ts.tail/\ts.tail.length+1=ts.length:=g.tail (zfH h)
theorem zdW(g:GK T k ts)(s:List UInt8):q1u (lit s,((k:Int),d,0,0),T)=o (isP s ts,((k:Int),d,0,0),T):=by
 unfold q1u qbh isP;simp only[g.idx,jj,js,jq,jl,toR];grind
theorem xg(g:GK T k ts)(s:List UInt8):q10 (lit s,((k:Int),d,0,0),T)=o (isP s ts,(((if isP s ts=A then k+1 else k:Nat):Int),d,0,0),T):=by
 unfold q10 qau;simp only[zdW g,jj];have:=g.b;cases h:isP s ts with
 |true=>simp only[jq,jj];rw[zu Zd]
 |false=>rfl
theorem V5(g:GK T k ts)(c:Int):q1a (c,((k:Int),d,0,0),T)=o (((k:Int),d,c,(hd ts).a_),T):=by
 unfold q1a q9p;simp only[g.idx,jj,js,jq,toR]
theorem Yj (g:GK T k ts) {s:List UInt8}{K:Bool×PS->Uv β}{p q:PR α}{mk:α->PS->β}{pk:β->PS}(h1:isP s ts=A->GK T (k+1) ts.tail->ts.tail.length+1=ts.length->RS T d n p (K (A,(((k+1:Nat):Int),d,0,0),T)) mk pk)
    (h0:isP s ts=B->RS T d n q (K (B,((k:Int),d,0,0),T)) mk pk):RS T d n (if isP s ts=A then p else q) ((q10 (lit s,((k:Int),d,0,0),T)).bind K) mk pk:=by
 rw[xg g,jj];cases h:isP s ts with
 |true=>simp only[jq];exact h1 h (g.is h).1 (g.is h).2
 |false=>grind
theorem yj(g:GK T k ts)(s:List UInt8):RS T d (ts.length - 1) (zY s ts) (q12 (lit s,((k:Int),d,0,0),T)) (λ_ st=>st) id:=by
 unfold q12 q9q zY;refine Yj g (λh a l =>.ok a Zd rfl) λh=>?_
 simp only[Dy,jq,V5 g,jj];exact⟨_,k,rfl,rfl,g.lt,by simp[xV]⟩
theorem yk(g:GK T k ts):RS T d (ts.length - 1) (Zc ts) (q17 (((k:Int),d,0,0),T)) (λn st=>(ndT n,st)) E:=by
 unfold q17 q9r Zc wD;simp only[g.idx,jj,Dc,jt,jr,jk,jp,toR,jl];have:=g.b;by_cases h:(hd ts).k_=1
 ·obtain⟨a,c⟩:=g.tail Zd;simp only[h,jt,jq,jp];rw[zu Zd];exact .ok a Zd rfl
 ·simp only[h,ju,jq,jp];rw[V5 g];exact⟨_,k,rfl,rfl,g.lt,je⟩
theorem wN(g:GK T k ts):RS T d (ts.length - 1) (wD 3 ts) (q2n (((k:Int),d,0,0),T)) (λt st=>(t.n_,st)) E:=by
 unfold q2n q8e wD;simp only[g.idx,jj,Dc,jt,jr,jk,jp,toR,jl];have:=g.b;by_cases h:(hd ts).k_=3
 ·obtain⟨a,c⟩:=g.tail Zd;simp only[h,jt,jq,jp];rw[zu Zd];exact .ok a Zd rfl
 ·simp only[h,ju,jq,jp];rw[V5 g];exact⟨_,k,rfl,rfl,g.lt,by simp[xV]⟩
theorem wO(x:Int):1 * x=x:=Zd
theorem znu{a:List Tk}{t:Tk}(g:TGood ts)(h:wD 3 ts = .ok (t,a)):Uw (0 - t.n_) = -1 * t.n_:=by
 have:=ziK g h;rw[zF Zd Zd];omega
theorem zrP(m:Nd)(v:Int):rN (Nd.num m v)=⟨(rN m).k_,(rN m).T_,v,(rN m).a_,(rN m).K_⟩:=by cases m;simp[Nd.num,rN]
theorem zrQ(g:GK T k ts)(m:Nd):RS T d ts.length (xW m ts) (q2c (rN m,((k:Int),d,0,0),T)) (λn st=>(rN n,st)) E:=by
 unfold q2c q9s xW Yt;refine Yj g (λh a l=>?_) λh=>?_
 ·simp only[jq,PR.bd_assoc,PR.bd_ok];refine(wN a).bd ?_ λt e c b g2 l2 =>.ok g2 Zd (by rw[zrP,wO])
  grind
 ·simp only[jk,jp];refine Yj g (λh a l=>?_) λh=>?_
  ·simp only[jq,PR.bd_assoc,PR.bd_ok,gh,jj];refine(wN a).bd ?_ λt e c b g2 l2 =>.ok g2 Zd (by rw[zrP,znu a.g b])
   grind
  ·exact .ok g Zd (by simp only[jk,jp,jj,zj])
theorem X4(n:Nd)(h:n.K_=nilS):q6.mk (ndT n).1 (ndT n).2.1 (ndT n).2.2.1 (ndT n).2.2.2 (C [] B)=rN n:=by rw[yo,h,yu];rfl
theorem Wv(g:GK T k ts):RS T d (ts.length - 1) (Z4 ts) (q1z (((k:Int),d,0,0),T)) (λn st=>(rN n,st)) E:=by
 unfold q1z q9t Z4 Yt;simp only[g.idx,jj,toR,jl];by_cases f:(hd ts).k_=3
 ·rw[jv f,jv f];simp only[PR.bd_assoc,PR.bd_ok];refine(wN g).bd ?_ λt i c p g2 l2 =>.ok g2 Zd (by rw[wO,yo,yu])
  grind
 ·rw[jx f,jx f];refine Yj g (λh b l=>?_) λh=>?_
  ·simp only[jq,PR.bd_assoc,PR.bd_ok];refine(wN b).bd ?_ λt i c p g2 l2 =>.ok g2 Zd (by rw[znu b.g p,yo,yu])
   grind
  ·simp only[jk,jp];refine(yk g).bd ?_ λm i c s b u=>?_
   ·rintro⟨v,_⟩ k e a rfl q r;simp only[zgQ q r,jj];grind
   ·rw[X4 m (zP s)];simp only[zj];refine RS.mono (n:=i.length) ?_ Zd;rw[show((q2c (rN m,((c:Int),d,0,0),T)).bind λj=>o (j.1,j.2))=q2c (rN m,((c:Int),d,0,0),T) from G _];exact zrQ b m
theorem zAo(g:GK T k ts):RS T d (ts.length - 1) (zcv ts) (q6s (((k:Int),d,0,0),T)) (λs st=>(s,st)) E:=by
 unfold q6s qav
 have h0:∀(i:Int) (s:List UInt8),za (⟨[lit [60],lit [60,61],lit [61,61]],A⟩:Sl Ut) i=o (lit s)->0<=i->i < 3->q7z q10 q1a (i,((k:Int),d,0,0),T,C [lit [60],lit [60,61],lit [61,61]] A) =
     if isP s ts=A then o (.done (.inl (lit s,(((k+1:Nat):Int),d,0,0),T))) else o (.next (i+1,((k:Int),d,0,0),T,C [lit [60],lit [60,61],lit [61,61]] A)):=by
  intro i s hs h0 c;unfold q7z;simp only[hs,xg g,jj];rw[jv (by simp[Sl.len];omega)];cases h:isP s ts with
  |true=>grind
  |false=>simp only[jk,jp];rw[zF Zd Zd]
 unfold zcv;have e0:=h0 0 [60] rfl Zd Zd;have a:=h0 (0+1) [60,61] rfl Zd Zd;have b:=h0 (0+1+1) [61,61] rfl Zd Zd;cases c0:isP [60] ts with
 |true=>rw[c0] at e0;rw[zw e0];exact .ok (g.is c0).1 jE rfl
 |false=>
  rw[c0] at e0;rw[zB e0];cases c1:isP [60,61] ts with
  |true=>rw[c1] at a;rw[zw a];exact .ok (g.is c1).1 jE rfl
  |false=>
   rw[c1] at a;rw[zB a];cases c2:isP [61,61] ts with
   |true=>rw[c2] at b;rw[zw b];exact .ok (g.is c2).1 jE rfl
   |false=>
    rw[c2] at b;rw[zB b,zw (y :=.inr (((k:Int),d,0,0),T)) rfl];simp only[jj,jm,V5 g,jk,jp];exact⟨_,k,rfl,rfl,g.lt,je⟩
def ndR(n:Nd)(st:PS):(Int×Ut×Int×Int)×(Int×Int×Int×Int)×Sl RTk×Sl RNd:=(ndT n,st.1,st.2,rS n.K_)
def pkR(b:(Int×Ut×Int×Int)×(Int×Int×Int×Int)×Sl RTk×Sl RNd):PS:=(b.2.1,b.2.2.1)
theorem zrR(g:GK T k ts):RS T d (ts.length - 1) (YI ts) (q20 (((k:Int),d,0,0),T)) ndR pkR:=by
 unfold q20 q7b YI;refine(Wv g).bd ?_ λa n p m i q=>?_
 ·rintro⟨v,_⟩ k e a rfl c f;obtain⟨w,h⟩:=zbs (d:=d) (a:=a) c f;simp only[zAn c f,h,jj];exact⟨_,rfl,rfl⟩
 refine(zAo i).bd ?_ λop t2 s _ g2 l2=>?_
 ·rintro⟨v,_⟩ k e a rfl c f;obtain⟨w,h⟩:=zbs (d:=d) (a:=a) c f;simp only[h,jj];exact⟨_,rfl,rfl⟩
 refine(Wv g2).bd ?_ λb t3 l r j t =>.ok j Zd ?_
 ·rintro⟨v,_⟩ k e a rfl c f;exact⟨_,rfl,rfl⟩
 simp only[zj,ndR,ndT,yt,U8,H];rw[show(rN a).a_=a.a_ by rw[yo]]
theorem Yu{acc:List RNd}{x:RNd}(h:acc.length<=60000)(b:Bool):zo 64 (⟨acc,b⟩:Sl RNd) [x]=o ⟨acc++[x],A⟩:=by
 rw[yy ji ji];simp
noncomputable abbrev wV:=q5w q12 q10 q1z
theorem ziP(c:k < T.xs.length)(b:e≠0)(x:RNd)(acc:Sl RNd):lpO wV (((k:Int),d,e,a),T,x,acc)=o (((k:Int),d,e,a),T,acc):=
 zw (by unfold wV q5w;simp only[yv c b,jj,Dy,jq])
theorem ziQ:∀(j:Nat) (ts:List Tk) (k:Nat) (x:RNd) (acc:List Nd),GK T k ts->ts.length<=j->acc.length+ts.length<=30000->
    RS T d ts.length (Zt Z4 j acc ts) (lpO wV (((k:Int),d,0,0),T,x,⟨acc.map rN,A⟩)) (λl st=>(st.1,st.2,⟨l.map rN,A⟩)) (λb=>(b.1,b.2.1))
 |0,ts,k,x,acc,g,hj,ha=>absurd (UJ Zd) g.g.ne
 |j+1,ts,k,x,acc,g,hj,ha=>by
  unfold Zt;cases h:isP [44] ts with
  |false=>
   rw[zw (y:=(((k:Int),d,0,0),T,⟨acc.map rN,A⟩)) (by unfold wV q5w;simp only[xg g,h,jj,Dy,jq,jk,jp])];exact .ok g (UD _) rfl
  |true=>
   obtain⟨n,r⟩:=g.is h;simp only[jq];have c:=Wv (d:=d) n;cases e:Z4 ts.tail with
   |error er=>
    rw[e] at c;obtain⟨⟨v,_⟩,a,f,rfl,h2,m⟩:=c;have i:wV (((k:Int),d,0,0),T,x,⟨acc.map rN,A⟩)=o (.next (((a:Int),d,er.2,er.1),T,v,⟨acc.map rN++[v],A⟩)):=by
     unfold wV q5w;simp only[xg g,h,jj,Dg,jq,jk,jp,f,zj];rw[Yu ji];rfl
    rw[zB i,ziP h2 m];exact⟨_,a,rfl,rfl,h2,m⟩
   |ok p=>
    obtain⟨y,q⟩:=p;rw[e] at c;obtain⟨a,f,g2,l2⟩:=c;have i:wV (((k:Int),d,0,0),T,x,⟨acc.map rN,A⟩)=o (.next (((a:Int),d,0,0),T,rN y,⟨(acc++[y]).map rN,A⟩)):=by
     unfold wV q5w;simp only[xg g,h,jj,Dg,jq,jk,jp,f,zj];rw[Yu ji];simp
    rw[zB i];exact(ziQ j q a (rN y) (acc++[y]) g2 Zd ji).mono Zd
theorem zlJ(g:GK T k ts):RS T d (ts.length - 1) (zav ts) (q3n (((k:Int),d,0,0),T)) (λks st=>(st.1,st.2,rS ks)) (λb=>(b.1,b.2.1)):=by
 unfold q3n q9u zav;refine(yj g [40]).bd ?_ λ_ m t _ i u=>?_
 ·rintro _ k e a rfl f c;simp only[yv f c,jj,jk,jp,Dc,c,ju,js,jq,id];grind
 refine Yj i (λh g2 l2=>?_) λh=>?_
 ·simp only[jq,jj];exact .ok g2 Zd (by rw[yu])
 simp only[jk,jp,jj,Dc,jt,jr];unfold yc;rw[PR.bd_assoc];have hb:=i.b;refine(Wv i).bd ?_ λx t2 n K g2 l2=>?_
 ·rintro⟨v,_⟩ k e a rfl f c;simp only[zj];rw[ziP f c];simp only[jj,Zr f c];grind
 simp only[zj];refine(ziQ (d:=d) m.length t2 n (rN x) [x] g2 Zd ji).bd ?_ λl t3 s _ r y=>?_
 ·rintro⟨p,q,w⟩ k e a hp f c;simp only[D.injEq] at hp;obtain⟨rfl,rfl⟩:=hp;simp only[Zr f c,jj];grind
 refine(yj r [41]).bd ?_ λ_ t4 z _ j F =>.ok j Zd (by rw[yt])
 grind
end
end
section
section
variable {T:Sl RTk}{d e a:Int}{k n:Nat}{ts:List Tk}
theorem Ww(n:Nd):rS ⟨[n],A⟩=⟨[rN n],A⟩:=by rw[yt];rfl
theorem Xq(k:Int)(t:Ut)(n a:Int)(s:Sl Nd):rN ⟨k,t,n,a,s⟩=⟨k,t,n,a,rS s⟩:=by unfold rN;rfl
theorem zrS(g:GK T k ts):RS T d (ts.length - 1) (Wu ts) (q3o (((k:Int),d,0,0),T)) (λn st=>(rN n,st)) E:=by
 unfold q3o q9v Wu;simp only[g.idx,jj,toR];refine Yj g (λh b i=>?_) λh=>?_
 ·simp only[jq];exact .ok b Zd (by rw[yo,yu])
 simp only[jk,jp];refine Yj g (λh b i=>?_) λh=>?_
 ·simp only[Dg,jk,jp,jj];refine(yk b).bd ?_ λm p q c g2 l2 =>.ok g2 Zd ?_
  ·grind
  ·rw[X4 m (zP c),Xq,Ww]
 simp only[Dy,jq,gh];refine(yj g [38]).bd ?_ λ_ p q _ b i=>?_
 ·rintro _ k e a rfl j l;simp only[yv j l,zgP j l,jj,jk,jp,id];grind
 refine Yj b (λh g2 l2=>?_) λh=>?_
 ·simp only[jq,jj];refine(yk g2).bd ?_ λm t2 s c f r =>.ok f Zd ?_
  ·grind
  ·rw[X4 m (zP c),Xq,Ww]
 ·simp only[jk,jp,jj];refine(yk b).bd ?_ λm t2 s c f r =>.ok f Zd ?_
  ·grind
  ·rw[X4 m (zP c),Xq,Ww]
theorem GK.idx1(g:GK T (k+1) ts)(a:k < 30000):za T (Uw ((k:Int)+1))=o (toR (hd ts)):=by
 rw[zu Zd,g.idx]
theorem zyN(g:GK T k ts):RS T d (ts.length - 1) (v8 ts) (q6e (((k:Int),d,0,0),T)) (λn st=>(rN n,st)) E:=by
 unfold q6e q9w v8;simp only[g.idx,jj,toR];have hb:=g.b;refine Yj g (λh c z=>?_) λh=>?_
 · simp only[jq];unfold Yt;rw[PR.bd_assoc];refine(wN c).bd ?_ λt f i R g2 l2 =>.ok g2 Zd (by rw[wO,yo,yu])
   grind
 simp only[jk,jp];refine Yj g (λh c z=>?_) λh=>?_
 · simp only[jq];refine(yk c).bd ?_ λm f i s g2 l2 =>.ok g2 Zd (by rw[yo,yu];rfl)
   grind
 simp only[jk,jp];refine Yj g (λh c z=>?_) λh=>?_
 · simp only[jq];refine Yj c (λh g2 l2=>?_) λh=>?_
   · simp only[jq,jj];refine(yk g2).bd ?_ λm f i s l u =>.ok l Zd (by rw[yo,yu];rfl)
     grind
   · simp only[jk,jp,jj];refine(yk c).bd ?_ λm f i s l u =>.ok l Zd (by rw[yo,yu];rfl)
     grind
 simp only[jk,jp,g.idx,jj,toR,jl,zj];by_cases j:(hd ts).k_=1
 case neg=>
   simp only[Dc,j,ju,jq,G];rw[show((q1z (((k:Int),d,0,0),T)).bind λy=>o (y.1,y.2))=q1z (((k:Int),d,0,0),T) from G _];exact Wv g
 simp only[Dc,j,jt,jp];refine(yk g).bd ?_ λm f i s c z=>?_
 ·rintro⟨v,_⟩ k e a rfl j r;simp only[zlH j r,yv j r,zgQ j r,jj,jk,jp];grind
 simp only[zdW c,jj];cases Q:isP [40] f with
 |true=>
  simp only[jq];refine RS.mono (n:=f.length - 1) ?_ Zd;refine(zlJ c).bd ?_ λks t2 F _ g2 l2 =>.ok g2 Zd (by rw[yo];rfl)
  rintro⟨p,q,w⟩ k e a hp j r;grind
 |false=>
 simp only[jk,jp];refine Yj c (λh g2 l2=>?_) λh=>?_
 · simp only[jq];refine(Wv g2).bd ?_ λx t2 F _ l u=>?_
   ·rintro⟨v,_⟩ k e a rfl j r;simp only[Zr j r,jj];grind
   refine(yj l [93]).bd ?_ λ_ t4 P _ N S =>.ok N Zd (by rw[Xq,Ww];rfl)
   grind
 simp only[jk,jp,zdW c,jj];have K:=c.b
 have two:∀{g2:GK T (i+1) f.tail} (q:Int),RS T d (ts.length - 1) ((Zc f.tail).bd λb t2 =>.ok ((⟨q,lit [],0,m.a_,⟨[m,b],A⟩⟩:Nd),t2))
     ((q17 ((Uw ((i:Int)+1),d,0,0),T)).bind λy=>o (q6.mk q (lit []) 0 (ndT m).2.2.2 (C [q6.mk (ndT m).1 (ndT m).2.1 (ndT m).2.2.1 (ndT m).2.2.2 (C [] B),q6.mk y.1.1 y.1.2.1 y.1.2.2.1 y.1.2.2.2 (C [] B)] A),y.2)) (λn st=>(rN n,st)) E:=by
  intro g2 q;rw[zu Zd];have:=g2.b;have h0:=D5.2 c.g.ne;refine(yk g2).bd ?_ λb t2 F M l u =>.ok l jE ?_
  ·grind
  ·rw[X4 m (zP s),X4 b (zP M),yo ⟨q,_,_,_,_⟩,yt];rfl
 have fin:RS T d (ts.length - 1) (xW m f) ((q2c (q6.mk (ndT m).1 (ndT m).2.1 (ndT m).2.2.1 (ndT m).2.2.2 (C [] B),((i:Int),d,0,0),T)).bind λy=>o (y.1,y.2)) (λn st=>(rN n,st)) E:=by
  rw[X4 m (zP s)];rw[show((q2c (rN m,((i:Int),d,0,0),T)).bind λy=>o (y.1,y.2))=q2c (rN m,((i:Int),d,0,0),T) from G _];exact(zrQ c m).mono Zd
 cases hp:isP [43] f with
 |true=>
  have O:=zhZ hp;obtain⟨g2,l2⟩:=c.is hp;simp only[O,jq,U9,jk,false_and,jp,jj,g2.idx1 Zd,toR,jl];by_cases h1:(hd f.tail).k_=1
  ·simp only[h1,jq,gh,jj];exact two (g2:=g2) 21
  grind
 |false=>
  cases L:isP [45] f with
  |true=>
   obtain⟨g2,l2⟩:=c.is L;simp only[jq,U9,jk,false_and,jp,jj,g2.idx1 Zd,toR,jl];by_cases h1:(hd f.tail).k_=1
   ·simp only[h1,jq,gh,jj];exact two (g2:=g2) 22
   grind
  |false=>
   grind
theorem zw7(g:GK T k ts):RS T d (ts.length - 1) ((Zc ts).bd vG) (q7c (((k:Int),d,0,0),T)) ndR pkR:=by
 unfold q7c qcn;refine(yk g).bd ?_ λm r R Q i S=>?_
 ·rintro⟨v,_⟩ k e a rfl c b;obtain⟨w,f⟩:=zrO (d:=d) (a:=a) c b;simp only[zlH c b,yv c b,Zr c b,f,jj,jk,jp];exact⟨_,rfl,rfl⟩
 refine RS.mono (n:=r.length - 1) ?_ Zd;have h0:=D5.2 i.g.ne;unfold vG;simp only[zdW i,jj];cases O:isP [40] r with
 |true=>
  simp only[jq];refine(zlJ i).bd ?_ λks t2 u _ g2 l2 =>.ok g2 Zd ?_
  ·rintro⟨p,q,w⟩ k e a hp c b;simp only[D.injEq] at hp;obtain⟨rfl,rfl⟩:=hp;exact⟨_,rfl,rfl⟩
  ·simp only[ndR,Ww,yo];rfl
 |false=>
 simp only[jk,jp];refine Yj i (λh g2 l2=>?_) λh=>?_
 ·simp only[jq];refine(Wv g2).bd ?_ λx t2 u _ z P=>?_
  ·rintro⟨v,_⟩ k e a rfl c b;obtain⟨w,f⟩:=zbs (d:=d) (a:=a) c b;simp only[Zr c b,f,jj];exact⟨_,rfl,rfl⟩
  refine(yj z [93]).bd ?_ λ_ t4 N _ L U=>?_
  ·rintro _ k e a rfl c b;obtain⟨w,f⟩:=zbs (d:=d) (a:=a) c b;simp only[Zr c b,f,jj,id];exact⟨_,rfl,rfl⟩
  refine(yj L [61]).bd ?_ λ_ t5 F _ l t=>?_
  ·rintro _ k e a rfl c b;obtain⟨w,f⟩:=zbs (d:=d) (a:=a) c b;simp only[f,jj,id];exact⟨_,rfl,rfl⟩
  refine(Wv l).bd ?_ λy s M _ j K =>.ok j Zd ?_
  ·rintro⟨v,_⟩ k e a rfl c b;exact⟨_,rfl,rfl⟩
  ·simp only[ndR,yt,zj];rfl
 simp only[jk,jp];refine(yj i [61]).bd ?_ λ_ t5 F _ l t=>?_
 ·rintro _ k e a rfl c b;obtain⟨w,f⟩:=zrO (d:=d) (a:=a) c b;simp only[f,jj,id];exact⟨_,rfl,rfl⟩
 refine(zyN l).bd ?_ λy s M _ j K =>.ok j Zd ?_
 ·rintro⟨v,_⟩ k e a rfl c b;exact⟨_,rfl,rfl⟩
 ·simp only[ndR,yt,zj];rfl
end
end
section
section
variable {T:Sl RTk}{d e a:Int}{k n:Nat}{ts:List Tk}
abbrev zlK:=PS->Uv ((Int×Ut×Int×Int)×(Int×Int×Int×Int)×Sl RTk×Sl RNd)
structure BlkR(T:Sl RTk)(d:Int)(h:zlK)(blk:List Tk->PR Nd):Prop where
 g:∀{ts k},GK T k ts->RS T d (ts.length - 1) (blk ts) (h (((k:Int),d,0,0),T)) ndR pkR
 b:∀{k:Nat} {e a:Int},k < T.xs.length->e≠0->∃v w,h (((k:Int),d,e,a),T)=o (v,((k:Int),d,e,a),T,w)
variable {h:zlK}{blk:List Tk->PR Nd}
theorem zt7{sz:Nat}{s s':Sl RNd}{l:List RNd}(h:zo sz s l=o s'):s'.xs=s.xs++l:=by
 unfold zo at h;grind
theorem RS.bdq {f:α->List Tk->PR γ}{K:β->Uv δ}{mk:α->PS->β}{pk:β->PS}{j:γ->PS->δ}{i:δ->PS}(h:RS T d n r m mk pk)
    (hb:∀(b:β) (k:Nat) (e a:Int),m=o b->pk b=(((k:Int),d,e,a),T)->k < T.xs.length->e≠0->∃c,K b=o c/\i c=(((k:Int),d,e,a),T))
    (t:∀a ts (k:Nat),r = .ok (a,ts)->GK T k ts->ts.length<=n->RS T d n' (f a ts) (K (mk a (((k:Int),d,0,0),T))) j i):RS T d n' (r.bd f) (m.bind K) j i:=by
 cases r with
 |error e=>
  obtain⟨b,k,rfl,h1,h2,q⟩:=h;obtain⟨c,u,s⟩:=hb b k _ _ rfl h1 h2 q;exact⟨c,k,u,s,h2,q⟩
 |ok p=>
  obtain⟨a,ts⟩:=p;obtain⟨k,rfl,g,l⟩:=h;exact t a ts k rfl g l
theorem zlL{st:PS}{b}(hb:q20 st=o b):b.2.2.2.xs.length=2:=by
 unfold q20 q7b at hb;obtain⟨x,_,hb⟩:=gd hb;obtain⟨y,_,hb⟩:=gd hb;obtain⟨z,_,hb⟩:=gd hb;cases hb;rfl
theorem zlM{x}{b}(hb:q21 h x=o b):b.2.2.2.xs.length=3:=by
 unfold q21 q53 at hb;obtain⟨x,a,hb⟩:=gd hb;obtain⟨y,_,hb⟩:=gd hb;obtain⟨z,c,hb⟩:=gd hb;cases hb;have:=zt7 c;have h2:=zlL a;grind
theorem zlN(hb:BlkR T d h blk)(g:GK T k ts)(q c:Int):RS T d (ts.length - 1) (wS blk q c ts) (q21 h (q,c,((k:Int),d,0,0),T)) ndR pkR:=by
 unfold q21 q53 wS;refine(zrR g).bdq ?_ λm z F s j K=>?_
 ·rintro⟨v,p,q,w⟩ k e a l hp f i;have h2:=zlL l;simp only[pkR,D.injEq] at hp;obtain⟨rfl,rfl⟩:=hp;obtain⟨v2,t,n⟩:=hb.b (a:=a) f i;obtain⟨u,N⟩:=w;simp only[n,jj];rw[Yu jE];exact⟨_,rfl,rfl⟩
 obtain⟨x,y,f⟩:=zcx s;refine(hb.g j).bd ?_ λb t2 M L g2 l2 =>.ok g2 Zd ?_
 ·rintro⟨v,p,q,w⟩ k e a hp r i;simp only[pkR,D.injEq] at hp;obtain⟨rfl,rfl⟩:=hp;simp only[ndR,f,yt];rw[Yu je];exact⟨_,rfl,rfl⟩
 ·simp only[ndR,f,yt,ndT];rw[Yu je];simp only[jj,U8,H,D2,I,Dh];rw[yo b,yt]
theorem Z9(x y:List UInt8):(lit x=lit y)=(x=y):=propext ⟨λh=>by have:=congrArg bs h;simpa[wy] using this,λh=>by rw[h]⟩
theorem zt8(g:GK T k ts){w:List UInt8}(i:∃c∈w,isL c=A):isP w ts=decide ((if(hd ts).k_=2 then(hd ts).T_ else lit [])=lit w):=by
 obtain⟨c,f,j⟩:=i;unfold isP;by_cases h2:(hd ts).k_=2
 ·simp[h2]
 ·simp only[h2,jr,D4,jp,Z9];have h:decide ([]=w)=false:=by
   grind
  rw[h];by_cases b:(hd ts).k_=4
  ·have d:hd ts∈ts:=by
    match ts,g.g with
    |[],g=>exact absurd rfl g.ne
    |t::r,_=>simp[hd]
   have a:¬ (hd ts).T_=lit w:=by
    intro e;have:=g.sg _ d b c (by rw[e,wy];exact f);grind
   simp[a]
  ·simp[b]
theorem zax(g:GK T k ts)(m:Nd):RS T d (ts.length - 1) (W8 m ts) ((q12 (lit [59],((k:Int),d,0,0),T)).bind λy=>o (ndT m,y.1,y.2,rS m.K_)) ndR pkR:=by
 unfold W8;refine(yj g [59]).bd ?_ λ_ i f _ b c =>.ok b Zd rfl
 rintro _ k e a rfl h j;exact⟨_,rfl,rfl⟩
end
end
section
section
variable {T:Sl RTk}{d e a:Int}{k n:Nat}{ts:List Tk}
variable {h:zlK}{blk:List Tk->PR Nd}
set_option maxHeartbeats 2000000 in
theorem zyO(hb:BlkR T d h blk)(g:GK T k ts):RS T d (ts.length - 1) (YZ blk ts) (q3b h (((k:Int),d,0,0),T)) ndR pkR:=by
 unfold q3b q7d;simp only[g.idx,jj,toR,jl];have hgb:=g.b;obtain⟨F,hF⟩:∃F,F=(if(hd ts).k_=2 then(hd ts).T_ else lit []):=⟨_,rfl⟩
 have e1:(if(hd ts).k_=2 then o ((hd ts).a_,(hd ts).T_,((k:Int),d,(0:Int),(0:Int)),T,(0:Int),lit [],(0:Int),(0:Int)) else o ((hd ts).a_,lit [],((k:Int),d,0,0),T,0,lit [],0,0))=o ((hd ts).a_,F,((k:Int),d,0,0),T,0,lit [],0,0):=by
  grind
 have is:∀w:List UInt8,(∃c∈w,isL c=A)->isP w ts=decide (F=lit w):=λw R=>by rw[hF];exact zt8 g R
 rw[e1];simp only[jj];clear e1 hF;unfold YZ;rw[is [102,114,101,101] ⟨102,je,rfl⟩,is [108,111,99,107] ⟨108,je,rfl⟩,is [117,110,108,111,99,107] ⟨117,je,rfl⟩,is [105,102] ⟨105,je,rfl⟩,is [119,104,105,108,101] ⟨119,je,rfl⟩,is [114,101,116,117,114,110] ⟨114,je,rfl⟩,is [97,98,111,114,116] ⟨97,je,rfl⟩,is [102,111,114,107] ⟨102,je,rfl⟩];have K:∀w:List UInt8,(∃c∈w,isL c=A)->F=lit w->GK T (k+1) ts.tail/\ts.tail.length+1=ts.length:=λw R e=>g.is (s:=w) jE
 have l:=zu (k:=k) Zd;by_cases h1:F=lit [102,114,101,101]
 ·obtain⟨j,L⟩:=K _ ⟨102,je,rfl⟩ h1;subst h1;simp (decide:=true) only [Z9,l,gh,jj,jo,jm,js,jq,jp,jk,jr];refine(yk j).bd ?_ λm M P u g2 l2=>?_
  ·rintro⟨v,_⟩ k e a rfl f i;simp only[Zr f i,jj];exact⟨_,rfl,rfl⟩
  refine RS.mono (n:=M.length - 1) ?_ Zd;obtain⟨t,t',_,e3⟩:=bd_ok u;have:=zax (d:=d) g2 ⟨12,m.T_,m.n_,(hd ts).a_,nilS⟩;rw[yu] at this;cases e3;exact this
 by_cases h2:F=lit [108,111,99,107]
 ·obtain⟨j,L⟩:=K _ ⟨108,je,rfl⟩ h2;subst h2;simp (decide:=true) only [Z9,l,gh,jj,jo,jm,js,jq,jp,jk,jr];unfold atP Yt;simp only[PR.bd_assoc,PR.bd_ok];refine(yk j).bd ?_ λm M P u g2 l2=>?_
  ·rintro⟨v,_⟩ k e a rfl f i;simp only[Zr f i,xX f i,jj];exact⟨_,rfl,rfl⟩
  refine(yj g2 [91]).bd ?_ λ_ t2 S _ r U=>?_
  ·rintro _ k e a rfl f i;simp only[Zr f i,xX f i,jj,id];exact⟨_,rfl,rfl⟩
  refine(wN r).bd ?_ λt t3 k3 _ O l4=>?_
  ·rintro⟨v,_⟩ k e a rfl f i;simp only[Zr f i,xX f i,jj,id];exact⟨_,rfl,rfl⟩
  refine(yj O [93]).bd ?_ λ_ t5 k5 _ Z l5=>?_
  ·rintro _ k e a rfl f i;simp only[Zr f i,xX f i,jj,id];exact⟨_,rfl,rfl⟩
  refine RS.mono (n:=t5.length - 1) ?_ Zd;have:=zax (d:=d) Z ⟨13,m.T_,1 * t.n_,(hd ts).a_,nilS⟩;rw[yu,wO] at this;rw[wO];exact this
 by_cases V:F=lit [117,110,108,111,99,107]
 ·obtain⟨j,L⟩:=K _ ⟨117,je,rfl⟩ V;subst V;simp (decide:=true) only [Z9,l,gh,jj,jo,jm,js,jq,jp,jk,jr];unfold atP Yt;simp only[PR.bd_assoc,PR.bd_ok];refine(yk j).bd ?_ λm M P u g2 l2=>?_
  ·rintro⟨v,_⟩ k e a rfl f i;simp only[Zr f i,xX f i,jj];exact⟨_,rfl,rfl⟩
  refine(yj g2 [91]).bd ?_ λ_ t2 S _ r U=>?_
  ·rintro _ k e a rfl f i;simp only[Zr f i,xX f i,jj,id];exact⟨_,rfl,rfl⟩
  refine(wN r).bd ?_ λt t3 k3 _ O l4=>?_
  ·rintro⟨v,_⟩ k e a rfl f i;simp only[Zr f i,xX f i,jj,id];exact⟨_,rfl,rfl⟩
  refine(yj O [93]).bd ?_ λ_ t5 k5 _ Z l5=>?_
  ·rintro _ k e a rfl f i;simp only[Zr f i,xX f i,jj,id];exact⟨_,rfl,rfl⟩
  refine RS.mono (n:=t5.length - 1) ?_ Zd;have:=zax (d:=d) Z ⟨14,m.T_,1 * t.n_,(hd ts).a_,nilS⟩;rw[yu,wO] at this;rw[wO];exact this
 by_cases Y:F=lit [105,102]
 ·obtain⟨j,L⟩:=K _ ⟨105,je,rfl⟩ Y;subst Y;simp (decide:=true) only [Z9,l,gh,jj,jo,jm,js,jq,jp,jk,jr];refine(zlN hb j 15 (hd ts).a_).bdq ?_ λm M P u g2 l2=>?_
  ·rintro⟨v,p,q,w⟩ k e a hm hp f i;have V:=zlM hm;simp only[pkR,D.injEq] at hp;obtain⟨rfl,rfl⟩:=hp;obtain⟨wl,wb⟩:=w;simp only[yv f i,jj,jk,jp];rw[Yu jE];exact⟨_,rfl,rfl⟩
  obtain⟨x,y,z,f⟩:=zdS u;simp only[ndR,f,yt];refine Yj g2 (λN r U=>?_) λN=>?_
  ·simp only[jq,gh,jj];refine(hb.g r).bd ?_ λb t2 S eb O l4 =>.ok O Zd ?_
   ·rintro⟨v,p,q,w⟩ k e a hp hk2 i;simp only[pkR,D.injEq] at hp;obtain⟨rfl,rfl⟩:=hp;rw[Yu je];exact⟨_,rfl,rfl⟩
   ·simp only[ndR,f,yt,ndT];rw[Yu je];simp only[jj,jo,U8,H,D2,I,Dh];rw[yo b,yt]
  ·simp only[jk,jp,jj];rw[Yu je];refine .ok g2 Zd ?_;simp only[ndR,f,yt,ndT,jj,jo,U8,H,D2,I,Dh,Xq]
 by_cases N:F=lit [119,104,105,108,101]
 ·obtain⟨j,L⟩:=K _ ⟨119,je,rfl⟩ N;subst N;simp (decide:=true) only [Z9,l,gh,jj,jo,jm,js,jq,jp,jk,jr];rw[show((q21 h (16,(hd ts).a_,(((k+1:Nat):Int),d,0,0),T)).bind λy=>o (y.1,y.2.1,y.2.2.1,y.2.2.2))=q21 h (16,(hd ts).a_,(((k+1:Nat):Int),d,0,0),T) from G _];exact(zlN hb j 16 (hd ts).a_).mono Zd
 by_cases W:F=lit [114,101,116,117,114,110]
 ·obtain⟨j,L⟩:=K _ ⟨114,je,rfl⟩ W;subst W;simp (decide:=true) only [Z9,l,gh,jj,jo,jm,js,jq,jp,jk,jr,zdW j];cases Q:isP [59] ts.tail with
  |true=>
   simp only[Dg,jk,jp,jq,jj,jm];have:=zax (d:=d) j ⟨17,lit [],0,(hd ts).a_,nilS⟩;rw[yu] at this;exact this.mono Zd
  |false=>
   simp only[Dy,jk,jp,jq,gh,jj,jm];refine(Wv j).bd ?_ λx t2 S _ r U=>?_
   ·rintro⟨v,_⟩ k e a rfl f i;simp only[Zr f i,jj];exact⟨_,rfl,rfl⟩
   have:=zax (d:=d) r ⟨17,lit [],0,(hd ts).a_,⟨[x],A⟩⟩;rw[Ww] at this;simp only[zj];exact this.mono Zd
 by_cases Q:F=lit [97,98,111,114,116]
 ·obtain⟨j,L⟩:=K _ ⟨97,je,rfl⟩ Q;subst Q;simp (decide:=true) only [Z9,l,gh,jj,jo,jm,js,jq,jp,jk,jr];have:=zax (d:=d) j ⟨18,lit [],0,(hd ts).a_,nilS⟩;rw[yu] at this;exact this.mono Zd
 by_cases X:F=lit [102,111,114,107]
 ·obtain⟨j,L⟩:=K _ ⟨102,je,rfl⟩ X;subst X;simp (decide:=true) only [Z9,l,gh,jj,jo,jm,js,jq,jp,jk,jr];refine(yk j).bd ?_ λm M P u g2 l2=>?_
  ·rintro⟨v,_⟩ k e a rfl f i;obtain⟨w,R⟩:=zyL (d:=d) (a:=a) f i;simp only[R,Zr f i,jj];exact⟨_,rfl,rfl⟩
  refine(zlJ g2).bd ?_ λks t2 S _ r U=>?_
  ·rintro⟨p,q,w⟩ k e a hp f i;simp only[D.injEq] at hp;obtain⟨rfl,rfl⟩:=hp;simp only[Zr f i,jj];exact⟨_,rfl,rfl⟩
  refine RS.mono (n:=t2.length - 1) ?_ Zd;obtain⟨t,t',_,e3⟩:=bd_ok u;have:=zax (d:=d) r ⟨19,m.T_,m.n_,(hd ts).a_,ks⟩;cases e3;exact this
 simp only[h1,h2,V,Y,N,W,Q,X,gh,jj,jr,jp,jk];rw[<- PR.bd_assoc];refine(zw7 g).bd ?_ λm M P u g2 l2=>?_
 ·rintro⟨v,p,q,w⟩ k e a hp f i;simp only[pkR,D.injEq] at hp;obtain⟨rfl,rfl⟩:=hp;simp only[Zr f i,jj,jm];exact⟨_,rfl,rfl⟩
 have:=zax (d:=d) g2 m;simp only[jm];exact this.mono Zd
end
end
section
section
variable {T:Sl RTk}{d e a:Int}{k n:Nat}{ts:List Tk}
variable {h:zlK}{blk:List Tk->PR Nd}
theorem xH{acc:List Nd}{x:RNd}(h:acc.length<=30000):zo 64 (rS (mkS acc)) [x]=o ⟨acc.map rN++[x],A⟩:=by
 rw[yt,yy (by simp[mkS];omega) (by simp[mkS];omega)];simp[mkS]
theorem zgR(acc:List Nd)(x:Nd):(⟨acc.map rN++[rN x],A⟩:Sl RNd)=rS (mkS (acc++[x])):=by
 rw[yt];simp[mkS]
noncomputable abbrev zdX(h:zlK):=q4n q1u q1a q12 q10 (q3b h)
theorem zay(b:e≠0)(p:Int)(u v:Int×Ut×Int×Int)(acc:Sl RNd):lpO (zdX h) ((p,d,e,a),T,u,v,acc)=o ((p,d,e,a),T,u,v,acc):=
 zw (by unfold zdX q4n;grind)
theorem zrT (hb:BlkR T d h blk) {u v:Int×Ut×Int×Int}:∀(j:Nat) (ts:List Tk) (k:Nat) (acc:List Nd),GK T k ts->ts.length<=j->acc.length+ts.length<=30000->
    RS T d (ts.length - 1) (xG (YZ blk) j acc ts) (lpO (zdX h) (((k:Int),d,0,0),T,u,v,rS (mkS acc))) (λl st=>(st.1,st.2,u,v,rS (mkS l))) (λb=>(b.1,b.2.1))
 |0,ts,k,acc,g,hj,ha=>absurd (UJ Zd) g.g.ne
 |j+1,ts,k,acc,g,hj,ha=>by
  unfold xG;cases h2:isP [125] ts with
  |true=>
   obtain⟨e,s⟩:=g.is h2;rw[zw (y:=((((k+1:Nat):Int),d,0,0),T,u,v,rS (mkS acc))) (by unfold zdX q4n;simp only[xg g,h2,jj,js,jq])];exact .ok e Zd rfl
  |false=>
   simp only[jk,jp];have hs:=zyO hb g;cases es:YZ blk ts with
   |error er=>
    rw[es] at hs;obtain⟨⟨w,p,q,ks⟩,a,f,hp,t,i⟩:=hs;simp only[pkR,D.injEq] at hp;obtain⟨rfl,n⟩:=hp;obtain rfl:T=q:=n.symm;have c:zdX h (((k:Int),d,0,0),T,u,v,rS (mkS acc))=o (.next (((a:Int),d,er.2,er.1),T,u,v,⟨acc.map rN++[⟨w.1,w.2.1,w.2.2.1,w.2.2.2,ks⟩],A⟩)):=by
     unfold zdX q4n;simp only[xg g,h2,jj,js,jq,jk,jp,f];rw[xH (acc:=acc) Zd];rfl
    rw[zB c,zay i];exact⟨_,a,rfl,rfl,t,i⟩
   |ok p=>
    obtain⟨x,r⟩:=p;rw[es] at hs;obtain⟨a,f,e,s⟩:=hs;have c:zdX h (((k:Int),d,0,0),T,u,v,rS (mkS acc))=o (.next (((a:Int),d,0,0),T,u,v,rS (mkS (acc++[x])))):=by
     unfold zdX q4n;simp only[xg g,h2,jj,js,jq,jk,jp,f,ndR,ndT];rw[xH (acc:=acc) jE,show q6.mk x.k_ x.T_ x.n_ x.a_ (rS x.K_)=rN x from(yo x).symm,zgR];rfl
    have m:=D5.2 g.g.ne;rw[zB c];exact(zrT hb j r a (acc++[x]) e Zd ji).mono Zd
theorem znv:∀(r:Nat) (j:Nat) (d:Int),d=8 - (r:Int)->0<=d->r+1<=j->BlkR T d (q4m j) (yi r)
 |r,0,d,_,_,t=>Zd
 |0,j+1,d,hd',h0,t=>by
  refine⟨λ{ts k} g=>?_,λ{k e a} h1 h2=>znt h1 h2 Zd j⟩;show RS T d _ _ (q2o _ _ _ _ _ _) _ _;unfold q2o yi;simp only[g.idx,zdW g,jj,toR];have f:Uw (d+1)=d+1:=zF Zd Zd;have c:Uw (d+1 - 1)=d:=by rw[zF Zd Zd];omega
  cases e:isP [123] ts with
  |true=>
   have:decide (8<=d)=true:=gm Zd;simp only[jq,jj,this,V5 g,Zr g.lt (jI:(21:Int)≠0)];rw[zay jI];simp only[jj,f,c];exact⟨_,k,rfl,rfl,g.lt,by simp[xV]⟩
  |false=>
   simp only[jk,jp,jj];have L:zY [123] ts = .error ((hd ts).a_,20):=by unfold zY;rw[e];rfl
   have:=yj (d:=d) g [123];rw[L] at this;obtain⟨b,s,x,rfl,y,i⟩:=this;rw[x];simp only[jj,id];rw[zay i];simp only[jj,f,c];exact⟨_,s,rfl,rfl,y,i⟩
 |r+1,j+1,d,hd',h0,t=>by
  refine⟨λ{ts k} g=>?_,λ{k e a} h1 h2=>znt h1 h2 Zd j⟩;show RS T d _ _ (q2o _ _ _ _ _ _) _ _;unfold q2o yi;simp only[g.idx,zdW g,jj,toR];have f:Uw (d+1)=d+1:=zF Zd Zd;have c:Uw (d+1 - 1)=d:=by rw[zF Zd Zd];omega
  have P:decide (8<=d)=false:=decide_eq_false Zd;have hb:=znv r j (d+1) Zd Zd Zd;have N:=g.b;have x:(if isP [123] ts=A then o (decide (8<=d),((k:Int),d,(0:Int),(0:Int)),T,((0,lit [],0,0):Int×Ut×Int×Int),((9,lit [],0,(hd ts).a_):Int×Ut×Int×Int)) else o (B,((k:Int),d,0,0),T,(0,lit [],0,0),(9,lit [],0,(hd ts).a_)))=o (B,((k:Int),d,0,0),T,(0,lit [],0,0),(9,lit [],0,(hd ts).a_)):=by
   grind
  rw[x];simp only[jj,jk,jp];refine(yj g [123]).bd ?_ λ_ m s _ K O=>?_
  ·rintro _ k e a rfl t M;simp only[id];rw[zay M];simp only[jj,f,c];exact⟨_,rfl,rfl⟩
  simp only[f];have h:=zrT hb (u:=(0,lit [],0,0)) (v:=(9,lit [],0,(hd ts).a_)) m.length m s [] K (UD _) jE;rw[show rS (mkS ([]:List Nd))=⟨[],B⟩ by rw[yt];rfl] at h;cases es:xG (YZ (yi r)) m.length [] m with
  |error er=>
   rw[es] at h;obtain⟨⟨p,q,w⟩,z,n,hp,y,i⟩:=h;simp only[D.injEq] at hp;obtain⟨rfl,F⟩:=hp;obtain rfl:T=q:=F.symm;rw[n];simp only[jj,c];exact⟨_,z,rfl,rfl,y,i⟩
  |ok p=>
   obtain⟨l,t2⟩:=p;rw[es] at h;obtain⟨z,n,g2,l2⟩:=h;rw[n];simp only[jj,c];exact .ok g2 Zd rfl
theorem zgS:BlkR T 0 q5x (yi 8):=znv 8 100000 0 Zd Zd Zd
end
end
section
section
variable {T:Sl RTk}{d e a:Int}{k n:Nat}{ts:List Tk}{z hdr:Int×Ut×Int×Int}
abbrev LSt:=(Int×Int×Int×Int)×Sl RTk×(Int×Ut×Int×Int)×(Int×Ut×Int×Int)×Sl RNd
def LQ(T:Sl RTk)(d:Int)(n:Nat)(r:PR (List Nd))(m:Uv LSt)(z hdr:Int×Ut×Int×Int):Prop:=match r with
 | .error e=>∃(k:Nat) (w:Sl RNd),m=o (((k:Int),d,e.2,e.1),T,z,hdr,w)/\k < T.xs.length/\e.2≠0/\w.xs.length<=30001
 | .ok (l,ts)=>∃k:Nat,m=o (((k:Int),d,0,0),T,z,hdr,rS (mkS l))/\GK T k ts/\ts.length<=n/\l.length+ts.length<=30001
theorem LQ.bd {r:PR (List Nd)}{f:List Nd->List Tk->PR γ}{m:Uv LSt}{K:LSt->Uv δ}{i:γ->PS->δ}{b:δ->PS}(h:LQ T d n r m z hdr)
    (hb:∀(k:Nat) (e a:Int) (w:Sl RNd),k < T.xs.length->e≠0->w.xs.length<=30001->∃c,K (((k:Int),d,e,a),T,z,hdr,w)=o c/\b c=(((k:Int),d,e,a),T))
    (s:∀l ts (k:Nat),r = .ok (l,ts)->GK T k ts->ts.length<=n->l.length+ts.length<=30001->RS T d n' (f l ts) (K (((k:Int),d,0,0),T,z,hdr,rS (mkS l))) i b):RS T d n' (r.bd f) (m.bind K) i b:=by
 cases r with
 |error e=>
  obtain⟨k,w,rfl,h1,h2,u⟩:=h;obtain⟨c,t,j⟩:=hb k _ _ w h1 h2 u;exact⟨c,k,t,j,h1,h2⟩
 |ok p=>
  obtain⟨l,ts⟩:=p;obtain⟨k,rfl,g,q,l2⟩:=h;exact s l ts k rfl g q l2
theorem LQ.mono{r:PR (List Nd)}{m:Uv LSt}(h:LQ T d n r m z hdr)(l:n<=n'):LQ T d n' r m z hdr:=by
 cases r with
 |error e=>exact h
 |ok p=>obtain⟨k,h1,h2,b,a⟩:=h;exact⟨k,h1,h2,UF b l,a⟩
def zpm(T:Sl RTk)(d:Int)(one:List Tk->PR Nd)(f:PS->Uv (RNd×PS)):Prop:=∀{ts k},GK T k ts->RS T d (ts.length - 1) (one ts) (f (((k:Int),d,0,0),T)) (λn st=>(rN n,st)) E
noncomputable def zgT(st:PS):Uv (RNd×PS):=(q17 st).bind λa=>(q12 (lit [58],a.2)).bind λc=>(q3o c).bind λb=>
 o (q6.mk 7 a.1.2.1 a.1.2.2.1 a.1.2.2.2 (C [b.1] A),b.2)
theorem zw8:zpm T d xF zgT:=by
 intro ts k g;unfold zgT xF;refine(yk g).bd ?_ λm l n s h p=>?_
 ·rintro⟨v,_⟩ k e a rfl b c;obtain⟨w,f⟩:=zlI (d:=d) (a:=a) b c;simp only[Zr b c,f,jj];grind
 refine(yj h [58]).bd ?_ λ_ t2 r _ g2 l2=>?_
 ·rintro _ k e a rfl b c;obtain⟨w,f⟩:=zlI (d:=d) (a:=a) b c;grind
 refine(zrS g2).bd ?_ λx t3 j _ i q =>.ok i Zd ?_
 ·grind
 ·rw[Xq,Ww];rfl
noncomputable abbrev V6:=qbi q17 q12 q10 q3o q1u q1a q5x
noncomputable def zes(f:PS->Uv (RNd×PS))(cl:Ut)(fl:Bool->Bool)(x:PS)(z hdr:Int×Ut×Int×Int)(w:Sl RNd):Uv (Step (Bool×LSt) LSt):=
 (f x).bind λy=>(zo 64 w [y.1]).bind λw'=>(q10 (lit [44],y.2)).bind λa=>
  (if(!a.1)=A then(q12 (cl,a.2)).bind λb=>o (fl a.1,b.1,b.2,z,hdr,w') else o (fl a.1,a.2.1,a.2.2,z,hdr,w')).bind λc=>o (Step.next c)
theorem zdY {f:PS->Uv (RNd×PS)}(L:zpm T d one f) {cl:List UInt8}{fl:Bool->Bool}{body:Bool×LSt->Uv (Step (Bool×LSt) LSt)}
    (h1:∀(k:Nat) w,body (fl A,((k:Int),d,0,0),T,z,hdr,w)=zes f (lit cl) fl (((k:Int),d,0,0),T) z hdr w)
    (h0:∀(p:Int×Int×Int×Int) w,body (fl B,p,T,z,hdr,w)=o (.done (p,T,z,hdr,w))):∀(j:Nat) (ts:List Tk) (k:Nat) (acc:List Nd),GK T k ts->ts.length<=j->acc.length+ts.length<=30000->
    LQ T d (ts.length - 1) ((one ts).bd λa i=>(Zt one j (acc++[a]) i).bd λl t2=>(zY cl t2).bd λ_ t3 =>.ok (l,t3)) (lpO body (fl A,((k:Int),d,0,0),T,z,hdr,rS (mkS acc))) z hdr
 |0,ts,k,acc,g,hj,ha=>absurd (UJ Zd) g.g.ne
 |j+1,ts,k,acc,g,hj,ha=>by
  have M:=D5.2 g.g.ne;have n:=L g;have hb:=h1 k (rS (mkS acc));unfold zes at hb;cases e:one ts with
  |error er=>
   rw[e] at n;obtain⟨⟨v,_⟩,y,F,rfl,m,h⟩:=n;rw[F] at hb;simp only[jj] at hb;rw[xH (acc:=acc) Zd] at hb;simp only[jj,yv m h,Dy,jq,Zr m h] at hb;rw[zB hb,zw (h0 _ _)];exact⟨y,_,rfl,m,h,ji⟩
  |ok p=>
   obtain⟨x,i⟩:=p;rw[e] at n;obtain⟨y,F,q,O⟩:=n;rw[F] at hb;simp only[jj] at hb;rw[xH (acc:=acc) Zd,zgR] at hb;simp only[jj,xg q] at hb;rw[PR.bd_ok];unfold Zt;have s:=D5.2 q.g.ne;cases c:isP [44] i with
   |true=>
    obtain⟨g2,l2⟩:=q.is c;rw[c] at hb;simp only[Dg,jk,jp,jq,jj] at hb;rw[zB hb];simp only[jq,PR.bd_assoc];exact(zdY L h1 h0 j i.tail (y+1) (acc++[x]) g2 Zd ji).mono Zd
   |false=>
    rw[c] at hb;simp only[Dy,jk,jp,jq,jj] at hb;simp only[jk,jp,PR.bd_ok];have r:=yj (d:=d) q cl;cases N:zY cl i with
    |error er=>
     rw[N] at r;obtain⟨b,K,t,hp,m,h⟩:=r;simp only[id] at hp;subst hp;rw[t] at hb;simp only[jj] at hb;rw[zB hb,zw (h0 _ _)];exact⟨K,_,rfl,m,h,by rw[yt];simp[mkS];omega⟩
    |ok p=>
     obtain⟨u,t2⟩:=p;rw[N] at r;obtain⟨K,t,g2,l2⟩:=r;rw[t] at hb;simp only[jj] at hb;rw[zB hb,zw (h0 _ _)];exact⟨K,rfl,g2,Zd,ji⟩
theorem zt9(k:Nat)(w:Sl RNd):V6 (B,((k:Int),d,0,0),T,z,hdr,w)=zes zgT (lit [41]) (λb=> !b) (((k:Int),d,0,0),T) z hdr w:=by
 unfold V6 qbi zes zgT;simp only[Dy,jq,js,jj,gh,zj];congr 1;funext y5;grind
theorem zlO(p:Int×Int×Int×Int)(w:Sl RNd):V6 (A,p,T,z,hdr,w)=o (.done (p,T,z,hdr,w)):=rfl
end
end
section
section
variable {T:Sl RTk}{d e a:Int}{k n:Nat}{ts:List Tk}{z hdr:Int×Ut×Int×Int}
theorem PR.bd_ite{c:Prop}[Decidable c]{p q:PR α}:PR.bd (if c then p else q) f=if c then p.bd f else q.bd f:=by split<;>rfl
theorem zlP:rS (mkS ([]:List Nd))=⟨[],B⟩:=by rw[yt];rfl
theorem zrU{w:Sl RNd}{x:RNd}(h:w.xs.length<=40000):∃w',zo 64 w [x]=o w'/\w'.xs.length=w.xs.length+1:=by
 rw[yy ji ji];grind
theorem znw(b:e≠0)(p:Int)(w:Sl RNd):lpO V6 (B,(p,d,e,a),T,z,hdr,w)=o ((p,d,e,a),T,z,hdr,w):=
 zw (by unfold V6 qbi;grind)
theorem zua (g:GK T k ts) (i:ts.length<=25000):LQ T d ts.length ((if isP [41] ts=A then .ok ([],ts) else yc xF ts:PR (List Nd)).bd λps t3=>(zY [41] t3).bd λ_ t4 =>.ok (ps,t4))
    ((q10 (lit [41],((k:Int),d,0,0),T)).bind λa=>lpO V6 (a.1,a.2.1,a.2.2,z,hdr,C [] B)) z hdr:=by
 rw[xg g,jj];cases h:isP [41] ts with
 |true=>
  obtain⟨c,f⟩:=g.is h;have e:zY [41] ts = .ok ((),ts.tail):=by unfold zY;rw[jv h]
  simp only[jq,PR.bd_ok,e];rw[zw (zlO _ _)];exact⟨k+1,by rw[zlP],c,Zd,ji⟩
 |false=>
  simp only[jk,jp];unfold yc;rw[PR.bd_assoc,<- zlP];exact(zdY (fl:=λb=> !b) (body:=V6) (z:=z) (hdr:=hdr) zw8 zt9 zlO ts.length ts k [] g (UD _) ji).mono Zd
def zlQ(t4:List Tk):PR Nd:=if isP [45,62] t4=A then(if isP [38] t4.tail=A then xV 20 t4.tail else Wu t4.tail) else .ok (⟨8,lit [],0,(hd t4).a_,nilS⟩,t4)
theorem zrV (a:Int) (ts:List Tk):fnP a ts=(Zc ts).bd λn d=>(zY [40] d).bd λ_ t2=>
    ((if isP [41] t2=A then .ok ([],t2) else yc xF t2:PR (List Nd)).bd λps t3=>(zY [41] t3).bd λ_ t4 =>.ok (ps,t4)).bd λps t4=>
    (zlQ t4).bd λret t5=>(yi 8 t5).bd λb c =>.ok (⟨6,n.T_,n.n_,a,⟨ps++[ret,b],A⟩⟩,c):=by
 unfold fnP zlQ;simp only[PR.bd_assoc,PR.bd_ok]
theorem zA5(g:GK T k ts)(hl:ts.length<=25000)(s:Int):RS T 0 (ts.length - 1) (fnP s ts) (q7e (s,((k:Int),0,0,0),T)) ndR pkR:=by
 unfold q7e qe8;rw[zrV]
 have tl:∀{k:Nat} {e a:Int} {w:Sl RNd} {z hdr:Int×Ut×Int×Int},k < T.xs.length->e≠0->w.xs.length<=30001->∃c,((za T (k:Int)).bind λy13=>(za T (k:Int)).bind λK=>(q10 (lit [45,62],((k:Int),0,e,a),T)).bind λn=>
     (if n.1=A then(q1u (lit [38],n.2)).bind λr=>(if r.1=A then(q1a (20,r.2)).bind λM=>o (M.1,M.2,z,hdr,((8,lit [],0,K.a_):Int×Ut×Int×Int),w) else o (r.2.1,r.2.2,z,hdr,(8,lit [],0,K.a_),w)).bind λj=>
       (q3o (j.1,j.2.1)).bind λL=>o (L.2.1,L.2.2,j.2.2.1,j.2.2.2.1,kr L.1,j.2.2.2.2.2)
     else o (n.2.1,n.2.2,z,hdr,q6.mk 8 (lit []) 0 K.a_ (C [] B),w)).bind λl=>
     (q5x (l.1,l.2.1)).bind λf=>(zo 64 l.2.2.2.2.2 [kr l.2.2.2.2.1]).bind λy=>
     (zo 64 y [q6.mk f.1.1 f.1.2.1 f.1.2.2.1 f.1.2.2.2 f.2.2.2]).bind λF=>o (l.2.2.2.1,f.2.1,f.2.2.1,F))=o c/\pkR c=(((k:Int),0,e,a),T):=by
  intro k e a w z hdr i h U;obtain⟨t,V⟩:=zcB i;obtain⟨v2,Q,hb⟩:=zgS.b (a:=a) i h;simp only[V,yv i h,hb,jj,jk,jp];obtain⟨Y,e3,l3⟩:=zrU (w:=w) (x:=q6.mk 8 (lit []) 0 t.a_ (C [] B)) Zd;obtain⟨w4,e4,l4⟩:=zrU (w:=Y) (x:=q6.mk v2.1 v2.2.1 v2.2.2.1 v2.2.2.2 Q) Zd;simp only[e3,e4,jj];exact⟨_,rfl,rfl⟩
 refine(yk g).bd ?_ λm t1 k1 em W l1=>?_
 ·rintro⟨v,_⟩ k e a rfl i h;simp only[Zr i h,yv i h,jj];rw[znw h];simp only[jj];exact tl i h je
 refine(yj W [40]).bd ?_ λ_ t2 k2 _ g2 l2=>?_
 ·rintro _ k e a rfl i h;simp only[yv i h,jj,id];rw[znw h];simp only[jj];exact tl i h je
 rw[<- gh];refine(zua g2 Zd).bd ?_ λps t4 k4 _ O l4 l4b=>?_
 ·intro k e a w i h U;exact tl i h U
 have S:=D5.2 O.g.ne;simp only[O.idx,jj,toR]
 have fin:∀{t5:List Tk} {N:Nat} (ret:Nd),GK T N t5->t5.length<=t4.length->RS T 0 (ts.length - 1) ((yi 8 t5).bd λb R =>.ok (⟨6,m.T_,m.n_,s,⟨ps++[ret,b],A⟩⟩,R))
     ((q5x (((N:Int),0,0,0),T)).bind λf=>(zo 64 (rS (mkS ps)) [rN ret]).bind λy=>
     (zo 64 y [q6.mk f.1.1 f.1.2.1 f.1.2.2.1 f.1.2.2.2 f.2.2.2]).bind λF=>o (((6,m.T_,m.n_,s):Int×Ut×Int×Int),f.2.1,f.2.2.1,F)) ndR pkR:=by
  intro t5 N ret u Z;rw[xH (acc:=ps) Zd];refine(zgS.g u).bd ?_ λb R k6 _ P l6 =>.ok P Zd ?_
  ·rintro⟨v,p,q,w⟩ k e a hp i h;simp only[pkR,D.injEq] at hp;obtain⟨rfl,rfl⟩:=hp;simp only[jj];rw[Yu ji];exact⟨_,rfl,rfl⟩
  ·simp only[jj,ndR,ndT];rw[Yu ji,show q6.mk b.k_ b.T_ b.n_ b.a_ (rS b.K_)=rN b from(yo b).symm,yt];simp
 unfold zlQ;rw[PR.bd_ite];refine Yj O (λX u Z=>?_) λX=>?_
 · simp only[jq,zdW u,jj];cases h6:isP [38] t4.tail with
   |true=>
    simp only[jq,V5 u,jj];obtain⟨v,hv⟩:=zlI (d:=0) (a:=(hd t4.tail).a_) u.lt (jI:(20:Int)≠0);obtain⟨v2,Q,hb⟩:=zgS.b (a:=(hd t4.tail).a_) u.lt (jI:(20:Int)≠0);simp only[hv,hb,jj,zj];rw[xH (acc:=ps) Zd];simp only[jj];rw[Yu ji];exact⟨_,_,rfl,rfl,u.lt,by simp[xV]⟩
   |false=>
    simp only[jk,jp,jj,gh];refine(zrS u).bd ?_ λret t5 N _ P l6=>?_
    ·rintro⟨v,_⟩ k e a rfl i h;obtain⟨v2,Q,hb⟩:=zgS.b (a:=a) i h;simp only[hb,jj,zj];rw[xH (acc:=ps) Zd];simp only[jj];rw[Yu ji];exact⟨_,rfl,rfl⟩
    ·simp only[zj];exact fin ret P Zd
 ·simp only[jk,jp,jj];rw[show q6.mk 8 (lit []) 0 (hd t4).a_ (C [] B)=rN ⟨8,lit [],0,(hd t4).a_,nilS⟩ by rw[Xq,yu]];simp only[zj,PR.bd_ok];exact fin _ O Zd
end
end
section
section
variable {T:Sl RTk}{d e a:Int}{k n:Nat}{ts:List Tk}{z hdr:Int×Ut×Int×Int}
theorem zyP(g:GK T k ts):RS T d (ts.length - 1) (vm ts) (q4g (((k:Int),d,0,0),T)) (λn st=>(rN n,st)) E:=by
 unfold q4g q9x vm;simp only[g.idx,jj,toR];refine Yj g (λh f K=>?_) λh=>?_
 ·simp only[jq];exact .ok f Zd (by rw[Xq,yu])
 simp only[jk,jp];refine Yj g (λh f K=>?_) λh=>?_
 ·simp only[jq];exact .ok f Zd (by rw[Xq,yu])
 simp only[jk,jp];have no:∀(i:Int) (s:List UInt8) (z q:Int×Ut×Int×Int),za (⟨[lit [99,111,117,110,116,101,100],lit [108,111,99,107],lit [103,117,97,114,100]],A⟩:Sl Ut) i=o (lit s)->0<=i->i < 3->isP s ts=B->q45 q10 q17 q1a (i,((k:Int),d,0,0),T,z,q,C [lit [99,111,117,110,116,101,100],lit [108,111,99,107],lit [103,117,97,114,100]] A)=o (.next (i+1,((k:Int),d,0,0),T,z,q,C [lit [99,111,117,110,116,101,100],lit [108,111,99,107],lit [103,117,97,114,100]] A)):=by
  intro i s z q hs h0 l hi;unfold q45;simp only[hs,xg g,hi,jj,jk,jp];rw[jv (by simp[Sl.len];omega),zF Zd Zd]
 have yes:∀(i:Int) (s:List UInt8),za (⟨[lit [99,111,117,110,116,101,100],lit [108,111,99,107],lit [103,117,97,114,100]],A⟩:Sl Ut) i=o (lit s)->0<=i->i < 3->isP s ts=A->
     RS T d (ts.length - 1) ((Zc ts.tail).bd λk F =>.ok (⟨2,(hd ts).T_,0,(hd ts).a_,⟨[k],A⟩⟩,F)) ((lpO (q45 q10 q17 q1a) (i,((k:Int),d,0,0),T,((0,lit [],0,0):Int×Ut×Int×Int),(2,(hd ts).T_,0,(hd ts).a_),C [lit [99,111,117,110,116,101,100],lit [108,111,99,107],lit [103,117,97,114,100]] A)).bind λt=>
      Sum.elim (λa=>o (q6.mk a.2.2.1.1 a.2.2.1.2.1 a.2.2.1.2.2.1 a.2.2.1.2.2.2 a.2.2.2,a.1,a.2.1)) (λc=>(q1a (20,c.1,c.2.1)).bind λu=>o (q6.mk c.2.2.2.1 c.2.2.2.2.1 c.2.2.2.2.2.1 c.2.2.2.2.2.2 (C [] B),u)) t) (λn st=>(rN n,st)) E:=by
  intro i s hs h0 l hi;obtain⟨f,K⟩:=g.is hi
  have hb:q45 q10 q17 q1a (i,((k:Int),d,0,0),T,(0,lit [],0,0),(2,(hd ts).T_,0,(hd ts).a_),C [lit [99,111,117,110,116,101,100],lit [108,111,99,107],lit [103,117,97,114,100]] A) =
      (q17 ((((k+1:Nat):Int),d,0,0),T)).bind λb=>o (.done (.inl (b.2.1,b.2.2,(2,(hd ts).T_,0,(hd ts).a_),C [q6.mk b.1.1 b.1.2.1 b.1.2.2.1 b.1.2.2.2 (C [] B)] A))):=by
   unfold q45;simp only[hs,xg g,hi,jj,jq];rw[jv (by simp[Sl.len];omega)]
  have j:=yk (d:=d) f;cases e:Zc ts.tail with
  |error er=>
   rw[e] at j;obtain⟨⟨v,_⟩,L,w,rfl,r,M⟩:=j;rw[w,jj] at hb;rw[zw hb];exact⟨_,L,rfl,rfl,r,M⟩
  |ok p=>
   obtain⟨m,F⟩:=p;rw[e] at j;obtain⟨L,w,g2,l2⟩:=j;rw[w,jj] at hb;rw[zw hb];refine .ok g2 Zd ?_;simp only[jj,jo];rw[X4 m (zP e),Xq,Ww]
 cases l:isP [99,111,117,110,116,101,100] ts with
 |true=>exact yes 0 _ rfl Zd Zd l
 |false=>
 rw[zB (no 0 _ _ _ rfl Zd Zd l)];simp only[jk,jp];cases x:isP [108,111,99,107] ts with
 |true=>exact yes (0+1) _ rfl Zd Zd x
 |false=>
 rw[zB (no (0+1) _ _ _ rfl Zd Zd x)];simp only[jk,jp];cases r:isP [103,117,97,114,100] ts with
 |true=>exact yes (0+1+1) _ rfl Zd Zd r
 |false=>
 rw[zB (no (0+1+1) _ _ _ rfl Zd Zd r),zw (y :=.inr (((k:Int),d,0,0),T,_,_)) rfl];simp only[jk,jp,jj,jm,V5 g];exact⟨_,k,rfl,rfl,g.lt,by simp[xV]⟩
noncomputable def zet(f:PS->Uv ((Int×Ut×Int×Int)×(Int×Int×Int×Int)×Sl RTk×Sl RNd))(st:PS):Uv (RNd×PS):=
 (f st).bind λy=>o (q6.mk y.1.1 y.1.2.1 y.1.2.2.1 y.1.2.2.2 y.2.2.2,y.2.1,y.2.2.1)
theorem zrW{f:PS->Uv ((Int×Ut×Int×Int)×(Int×Int×Int×Int)×Sl RTk×Sl RNd)}(h:∀{ts k},GK T k ts->RS T d (ts.length - 1) (one ts) (f (((k:Int),d,0,0),T)) ndR pkR):zpm T d one (zet f):=by
 intro ts k g;have a:=h g;unfold zet;cases e:one ts with
 |error er=>
  rw[e] at a;obtain⟨⟨v,p,q,w⟩,c,b,hp,j,i⟩:=a;rw[b];exact⟨_,c,rfl,hp,j,i⟩
 |ok p=>
  obtain⟨m,l⟩:=p;rw[e] at a;obtain⟨c,b,g2,l2⟩:=a;rw[b];exact .ok g2 l2 (by simp only[jj,ndR,ndT];rw[yo])
theorem zw9(g:GK T k ts):RS T d (ts.length - 1) (xE ts) (q46 (((k:Int),d,0,0),T)) ndR pkR:=by
 unfold q46 qco xE;refine(yk g).bd ?_ λm p q u f r=>?_
 ·rintro⟨v,_⟩ k e a rfl b c;simp only[yv b c,jj,jk,jp];exact⟨_,rfl,rfl⟩
 refine Yj f (λh g2 l2=>?_) λh=>?_
 ·simp only[jq,gh,jj];refine(yk g2).bd ?_ λx t3 n l j s=>?_
  ·rintro⟨v,_⟩ k e a rfl b c;simp only[Zr b c,jj];exact⟨_,rfl,rfl⟩
  refine(yj j [93]).bd ?_ λ_ t4 t _ i w =>.ok i Zd ?_
  ·rintro _ k e a rfl b c;exact⟨_,rfl,rfl⟩
  ·simp only[ndR,Ww];rw[X4 x (zP l)];rfl
 ·simp only[jk,jp,jj];exact .ok f Zd (by simp only[ndR,yu];rfl)
noncomputable abbrev Vv:=qdp q17 q4g q10 q46 q12 q20
noncomputable abbrev W9:=qdq q17 q4g q10 q46 q12 q20
theorem zAp(k:Nat)(w:Sl RNd):Vv (A,((k:Int),d,0,0),T,z,hdr,w)=zes (zet q46) (lit [125]) (λb=>b) (((k:Int),d,0,0),T) z hdr w:=by
 unfold Vv qdp zes zet;grind
theorem zpn(p:Int×Int×Int×Int)(w:Sl RNd):Vv (B,p,T,z,hdr,w)=o (.done (p,T,z,hdr,w)):=rfl
theorem zAq(p:Int×Int×Int×Int)(w:Sl RNd):W9 (A,p,T,z,hdr,w)=(zet q20 (p,T)).bind λy=>(zo 64 w [y.1]).bind λw'=>(q10 (lit [44],y.2)).bind λa=>o (.next (a.1,a.2.1,a.2.2,z,hdr,w')):=by
 unfold W9 qdq zet;grind
theorem zjd(p:Int×Int×Int×Int)(w:Sl RNd):W9 (B,p,T,z,hdr,w)=o (.done (p,T,z,hdr,w)):=rfl
theorem zgU:∀(j:Nat) (ts:List Tk) (k:Nat) (acc:List Nd),GK T k ts->ts.length<=j->acc.length+ts.length<=30000->
    LQ T d (ts.length - 1) ((YI ts).bd λa i=>Zt YI j (acc++[a]) i) (lpO W9 (A,((k:Int),d,0,0),T,z,hdr,rS (mkS acc))) z hdr
 |0,ts,k,acc,g,hj,ha=>absurd (UJ Zd) g.g.ne
 |j+1,ts,k,acc,g,hj,ha=>by
  have s:=D5.2 g.g.ne;have c:=zrW (T:=T) (d:=d) (one:=YI) (f:=q20) (λg=>zrR g) g;have hb:=zAq (T:=T) (z:=z) (hdr:=hdr) ((k:Int),d,0,0) (rS (mkS acc));cases e:YI ts with
  |error er=>
   rw[e] at c;obtain⟨⟨v,_⟩,l,n,rfl,r,q⟩:=c;rw[n] at hb;simp only[jj] at hb;rw[xH (acc:=acc) Zd] at hb;simp only[jj,yv r q] at hb;rw[zB hb,zw (zjd _ _)];exact⟨l,_,rfl,r,q,ji⟩
  |ok p=>
   obtain⟨x,i⟩:=p;rw[e] at c;obtain⟨l,n,h,t⟩:=c;rw[n] at hb;simp only[jj] at hb;rw[xH (acc:=acc) Zd,zgR] at hb;simp only[jj,xg h] at hb;rw[PR.bd_ok];unfold Zt;have m:=D5.2 h.g.ne;cases b:isP [44] i with
   |true=>
    obtain⟨g2,l2⟩:=h.is b;rw[b] at hb;simp only[jq] at hb;rw[zB hb];simp only[jq];exact(zgU j i.tail (l+1) (acc++[x]) g2 Zd ji).mono Zd
   |false=>
    rw[b] at hb;simp only[jk,jp] at hb;simp only[jk,jp];rw[zB hb,zw (zjd _ _)];exact⟨l,rfl,h,Zd,ji⟩
end
end
section
section
variable {T:Sl RTk}{d e a:Int}{k n:Nat}{ts:List Tk}{z hdr:Int×Ut×Int×Int}
theorem V7(p:List Nd):∀(j:Nat) (acc:List Nd) (ts:List Tk),Zt one j (p++acc) ts=(Zt one j acc ts).bd λl t =>.ok (p++l,t)
 |0,acc,ts=>rfl
 |j+1,acc,ts=>by
  unfold Zt;cases isP [44] ts with
  |false=>rfl
  |true=>
   simp only[jq,PR.bd_assoc];congr 1;funext a t;rw[UV];exact V7 p j (acc++[a]) t
theorem zyQ{l:List α}(h:l≠[]):mkS l=⟨l,A⟩:=by cases l;exact absurd rfl h;rfl
def va(s:Nd)(t2:List Tk):PR (List Nd):=if isP [123] t2=A then(yc xE t2.tail).bd λl t3=>(zY [125] t3).bd λ_ t4 =>.ok ([s]++l,t4) else .ok ([s],t2)
def zbt(ks:List Nd)(t5:List Tk):PR (List Nd):=if isP [119,104,101,114,101] t5=A then(yc YI t5.tail).bd λl a =>.ok (ks++l,a) else .ok (ks,t5)
theorem zub (g:GK T k ts) (e:ts.length<=25000) (s:Nd):LQ T d ts.length (va s ts)
    ((q10 (lit [123],((k:Int),d,0,0),T)).bind λa=>lpO Vv (a.1,a.2.1,a.2.2,z,hdr,rS (mkS [s]))) z hdr:=by
 rw[xg g,jj];unfold va;cases h:isP [123] ts with
 |true=>
  obtain⟨c,i⟩:=g.is h;simp only[jq];have:=zdY (d:=d) (fl:=λb=>b) (body:=Vv) (z:=z) (hdr:=hdr) (zrW (one:=xE) (f:=q46) λg=>zw9 g) zAp zpn ts.tail.length ts.tail (k+1) [s] c (UD _) ji;unfold yc;simp only[V7,PR.bd_assoc,PR.bd_ok] at this |-
  exact this.mono Zd
 |false=>
  simp only[jk,jp];rw[zw (zpn _ _)];exact⟨k,rfl,g,UD _,ji⟩
theorem zuc (g:GK T k ts) (ks:List Nd) (c:ks.length+ts.length<=30000):LQ T d ts.length (zbt ks ts)
    ((q10 (lit [119,104,101,114,101],((k:Int),d,0,0),T)).bind λa=>lpO W9 (a.1,a.2.1,a.2.2,z,hdr,rS (mkS ks))) z hdr:=by
 rw[xg g,jj];unfold zbt;cases h:isP [119,104,101,114,101] ts with
 |true=>
  obtain⟨b,e⟩:=g.is h;simp only[jq];have:=zgU (d:=d) (z:=z) (hdr:=hdr) ts.tail.length ts.tail (k+1) ks b (UD _) Zd;unfold yc;simp only[V7,PR.bd_assoc,PR.bd_ok] at this |-
  exact this.mono Zd
 |false=>
  simp only[jk,jp];rw[zw (zjd _ _)];exact⟨k,rfl,g,UD _,Zd⟩
theorem znx(a:Int)(ts:List Tk):zdQ a ts=(Zc ts).bd λn c=>(vm c).bd λs t2=>(va s t2).bd λks t5=>(zbt ks t5).bd λks b=>(zY [59] b).bd λ_ d =>.ok (⟨1,n.T_,n.n_,a,⟨ks,A⟩⟩,d):=rfl
theorem zrX{s:Nd}{ts:List Tk}{l:List Nd}(h:va s ts = .ok (l,t)):l≠[]:=by
 unfold va at h;split at h
 ·obtain⟨a,c,_,h⟩:=bd_ok h;obtain⟨b,t2,_,h⟩:=bd_ok h;cases h;simp
 grind
theorem zud{ks:List Nd}{ts:List Tk}{l:List Nd}(b:ks≠[])(h:zbt ks ts = .ok (l,t)):l≠[]:=by
 unfold zbt at h;split at h
 ·obtain⟨a,c,_,h⟩:=bd_ok h;cases h;simp[b]
 grind
theorem zAr(g:GK T k ts)(hl:ts.length<=25000)(r:Int):RS T d (ts.length - 1) (zdQ r ts) (q6t (r,((k:Int),d,0,0),T)) ndR pkR:=by
 unfold q6t qdr;rw[znx];have t2:∀{k:Nat} {e a:Int} {w:Sl RNd} {hdr:Int×Ut×Int×Int},k < T.xs.length->e≠0->∃c,(q12 (lit [59],((k:Int),d,e,a),T)).bind (λh=>o (hdr,h.1,h.2,w))=o c/\pkR c=(((k:Int),d,e,a),T):=by
  intro k e a w hdr i f;rw[Zr i f];exact⟨_,rfl,rfl⟩
 have tl:∀{k:Nat} {e a:Int} {w:Sl RNd} {z hdr:Int×Ut×Int×Int},k < T.xs.length->e≠0->∃c,((q10 (lit [119,104,101,114,101],((k:Int),d,e,a),T)).bind λn=>(lpO W9 (n.1,n.2.1,n.2.2,z,hdr,w)).bind λb=>(q12 (lit [59],b.1,b.2.1)).bind λh=>o (b.2.2.2.1,h.1,h.2,b.2.2.2.2))=o c/\pkR c=(((k:Int),d,e,a),T):=by
  intro k e a w z hdr i f;rw[yv i f,jj,zw (zjd _ _),jj];exact t2 i f
 have y:∀{k:Nat} {e a:Int} {w:Sl RNd} {z hdr:Int×Ut×Int×Int},k < T.xs.length->e≠0->∃c,((q10 (lit [123],((k:Int),d,e,a),T)).bind λK=>(lpO Vv (K.1,K.2.1,K.2.2,z,hdr,w)).bind λF=>(q10 (lit [119,104,101,114,101],F.1,F.2.1)).bind λn=>(lpO W9 (n.1,n.2.1,n.2.2,F.2.2)).bind λb=>(q12 (lit [59],b.1,b.2.1)).bind λh=>o (b.2.2.2.1,h.1,h.2,b.2.2.2.2))=o c/\pkR c=(((k:Int),d,e,a),T):=by
  intro k e a w z hdr i f;rw[yv i f,jj,zw (zpn _ _),jj];exact tl i f
 refine(yk g).bd ?_ λm t1 k1 em R l1=>?_
 ·rintro⟨v,_⟩ k e a rfl i f;obtain⟨v2,V⟩:=zyM (d:=d) (a:=a) i f;simp only[V,jj];exact y i f
 refine(zyP R).bd ?_ λs t2' k2 es g2 l2=>?_
 ·rintro⟨v,_⟩ k e a rfl i f;exact y i f
 simp only[zj];rw[show(⟨[rN s],A⟩:Sl RNd)=rS (mkS [s]) by rw[yt];rfl,<- gh];refine(zub g2 Zd s).bd ?_ λks t5 k5 p O l5 P=>?_
 ·intro k e a w i f S;exact tl i f
 rw[<- gh];have N:=D5.2 O.g.ne;by_cases L:ks.length+t5.length<=30000
 ·refine(zuc O ks L).bd ?_ λY t7 k7 U Z l7 l7b=>?_
  ·intro k e a w i f S;exact t2 i f
  refine(yj Z [59]).bd ?_ λ_ t8 k8 _ g8 l8 =>.ok g8 Zd ?_
  ·rintro _ k e a rfl i f;exact⟨_,rfl,rfl⟩
  ·rw[zyQ (zud (zrX p) U)];rfl
 ·exfalso;have:∀(j:Nat) (acc:List Nd) (t:List Tk) (l:List Nd) (t3:List Tk),Zt xE j acc t = .ok (l,t3)->l.length+t3.length<=acc.length+t.length:=by
   intro j
   induction j with
   |zero=>intro acc t l t3 e;cases e;grind
   |succ j W=>
    intro acc t l t3 e;unfold Zt at e;split at e
    ·rename_i hp;obtain⟨x,Q,q,e⟩:=bd_ok e;have h1:=W _ _ _ _ e;have h2:=(zdT _ _ _ q).2;grind
    grind
  unfold va at p;split at p
  ·rename_i hp;have h3:=zO hp;obtain⟨l,t3,q,p⟩:=bd_ok p;obtain⟨u,t4,X,p⟩:=bd_ok p;unfold yc at q;obtain⟨x,Q,M,q⟩:=bd_ok q;have h1:=this _ _ _ _ _ q;have h2:=(zdT _ _ _ M).2;have h4:=Zq X;grind
  grind
theorem zlR:∀(k:Nat) (n:Nd),zl n<=k->zl n<=1000000000->q3c k (rN n)=o (zl n:Int)
 |0,n,h,_=>by have:=z7 n;omega
 |k+1,n,h,hb=>by
  obtain⟨a,b,c,d,⟨xs,nn⟩⟩:=n;rw[Xq,yt];show((lpO (q7f (q3c k)) (1,0,q6.mk a b c d ⟨xs.map rN,nn⟩)).bind λq=>o q)=_;have hs:zl ⟨a,b,c,d,⟨xs,nn⟩⟩=zd xs+1:=by rw[zk]
  have loop:∀(m i:Nat),i+m=xs.length->lpO (q7f (q3c k)) (((1+zd (xs.take i):Nat):Int),(i:Int),q6.mk a b c d ⟨xs.map rN,nn⟩)=o ((1+zd xs:Nat):Int):=by
   intro m
   induction m with
   |zero=>
    intro i hi;have f:q7f (q3c k) (((1+zd (xs.take i):Nat):Int),(i:Int),q6.mk a b c d ⟨xs.map rN,nn⟩)=o (.done ((1+zd (xs.take i):Nat):Int)):=by
     show(if decide ((i:Int) < ((xs.map rN).length:Int))=A then _ else _)=_;grind
    rw[zw f,List.take_of_length_le Zd]
   |succ m p=>
    intro i hi;have e:i < xs.length:=Zd
    have j:za (⟨xs.map rN,nn⟩:Sl RNd) (i:Int)=o (rN xs[i]):=by
     rw[wU];simp[e]
    have h1:=zfg e;have h2:=zbr xs (i+1);have g:q3c k (rN xs[i])=o (zl xs[i]:Int):=zlR k xs[i] Zd Zd;have l:xs.length<=zd xs:=by
     clear g h1 h2 j p hs hb h e hi
     induction xs with
     |nil=>simp
     |cons x r p=>have:=z7 x;simp only[zd,jz];omega
    have f:q7f (q3c k) (((1+zd (xs.take i):Nat):Int),(i:Int),q6.mk a b c d ⟨xs.map rN,nn⟩)=o (.next (((1+zd (xs.take (i+1)):Nat):Int),((i+1:Nat):Int),q6.mk a b c d ⟨xs.map rN,nn⟩)):=by
     show(if decide ((i:Int) < ((xs.map rN).length:Int))=A then(za (⟨xs.map rN,nn⟩:Sl RNd) (i:Int)).bind _ else _)=_;rw[jv ji,j];simp only[jj,zj,g];rw[zF Zd Zd,zF Zd Zd,h1];have s:((1+zd (xs.take i):Nat):Int)+(zl xs[i]:Int)=((1+(zd (xs.take i)+zl xs[i]):Nat):Int):=Zd
     grind
    rw[zB f];grind
  have:=loop xs.length 0 Zd;simp only[List.take_zero,zd,UY] at this;grind
theorem zxa{l:List UInt8}(h:two l=A):∀c∈l.take 2,isL c=false:=by
 unfold two at h;simp only[UH,jl] at h;rcases h with h | h | h<;>rw[h]<;>decide
theorem zxb{l:List UInt8}{n:Nat}{v:Int}(h:nxt l = .tok 4 n v):∀c∈l.take n,isL c=false:=by
 unfold nxt at h;split at h
 ·cases h
 rename_i c r;split at h
 ·cases h
 split at h
 ·cases h
 split at h
 ·unfold XY at h;grind
 split at h
 ·unfold xC at h;grind
 ·unfold xD at h;split at h
  ·cases h
  ·cases h;unfold YP;split
   ·rename_i h2;exact zxa h2
   ·rename_i h2;simp only;grind
theorem zfL:∀(f a:Nat) (l:List UInt8) (ts:List Tk),Ws f a l = .inr ts->∀t∈ts,t.k_=4->∀c∈bs t.T_,isL c=B
 |0,a,l,ts,h=>by cases h;simp
 |f+1,a,l,ts,h=>by
  unfold Ws at h;split at h
  ·cases h;simp
  split at h
  ·exact zfL f _ _ ts h
  ·cases h
  ·rename_i k n v i;split at h
   ·cases h
   ·rename_i g d;cases h;intro t b e;rcases UU.1 b with rfl | b
    ·simp only at e;subst e;rw[wy];exact zxb i
    ·exact zfL f _ _ g d t b e
theorem zlS(s:Ut):∀t∈(Z2 s).2.2.xs,t.k_=4->∀c∈bs t.T_,isL c=false:=by
 unfold Z2;split
 ·simp
 ·split
  ·simp
  ·rename_i ts e;intro t a b;simp only[Ux,Dr] at a;rcases a with a | rfl
   ·exact zfL _ _ _ _ e t a b
   ·simp at b
end
end
section
section
variable {T:Sl RTk}{d e a:Int}{k n:Nat}{ts:List Tk}{z1 z2:Int×Ut×Int×Int}
noncomputable abbrev vI:=q8t q71 q10 q7e q12 q6t qaw
theorem zh1(b:e≠0)(p:Int)(w:Sl RNd):lpO vI (z1,(p,d,e,a),z2,T,w)=o (z1,(p,d,e,a),z2,T,w):=
 zw (by unfold vI q8t;grind)
theorem zgV:∀(j:Nat) (ts:List Tk) (k:Nat) (acc:List Nd),GK T k ts->ts.length<=25000->ts.length<=j->acc.length+ts.length<=30000->
    match YD j acc ts with
    | .error er=>∃(c:Nat) (w:Sl RNd),lpO vI (z1,((k:Int),0,0,0),z2,T,rS (mkS acc))=o (z1,((c:Int),0,er.2,er.1),z2,T,w)/\er.2≠0
    | .ok (l,_)=>∃c:Nat,lpO vI (z1,((k:Int),0,0,0),z2,T,rS (mkS acc))=o (z1,((c:Int),0,0,0),z2,T,rS (mkS l))
 |0,ts,k,acc,g,hl,hj,ha=>absurd (UJ Zd) g.g.ne
 |j+1,ts,k,acc,g,hl,hj,ha=>by
  have z:=D5.2 g.g.ne;unfold YD
  have hb:vI (z1,((k:Int),0,0,0),z2,T,rS (mkS acc))=if(hd ts).k_=0 then o (.done (z1,((k:Int),0,0,0),z2,T,rS (mkS acc))) else
      if isP [102,110] ts=A then(q7e ((hd ts).a_,(((k+1:Nat):Int),0,0,0),T)).bind λm=>(zo 64 (rS (mkS acc)) [q6.mk m.1.1 m.1.2.1 m.1.2.2.1 m.1.2.2.2 m.2.2.2]).bind λL=>o (.next (z1,m.2.1,z2,m.2.2.1,L))
      else(q12 (lit [116,121,112,101],((k:Int),0,0,0),T)).bind λe=>(if e.1.2.2.1=0 then(q6t ((hd ts).a_,e)).bind λa=>(zo 64 (rS (mkS acc)) [q6.mk a.1.1 a.1.2.1 a.1.2.2.1 a.1.2.2.2 a.2.2.2]).bind λr=>o (z1,a.2.1,z2,a.2.2.1,r) else o (z1,e.1,z2,e.2,rS (mkS acc))).bind λy=>o (.next y):=by
   unfold vI q8t;simp only[g.idx,jj,js,jq,toR,jl];by_cases h0:(hd ts).k_=0
   ·grind
   · simp only[h0,Dc,ju,jp,jq,xg g,jj];cases h1:isP [102,110] ts with
     |true=>grind
     |false=>grind
  by_cases h0:(hd ts).k_=0
  · rw[jv h0] at hb |-
    exact⟨k,zw hb⟩
  rw[jx h0] at hb |-
  cases h1:isP [102,110] ts with
  |true=>
   obtain⟨M,N⟩:=g.is h1;rw[h1] at hb;simp only[jq] at hb |-
   have f:=zA5 M Zd (hd ts).a_;cases es:fnP (hd ts).a_ ts.tail with
   |error er=>
    rw[es] at f;obtain⟨⟨w,p,q,ks⟩,c,i,hp,F,h⟩:=f;simp only[pkR,D.injEq] at hp;obtain⟨rfl,t⟩:=hp;obtain rfl:T=q:=t.symm;rw[i,jj,xH (acc:=acc) Zd] at hb;exact⟨c,_,by rw[zB hb,zh1 h],h⟩
   |ok p=>
    obtain⟨x,s⟩:=p;rw[es] at f;obtain⟨c,i,g2,l2⟩:=f;rw[i,jj] at hb;simp only[ndR,ndT] at hb;rw[xH (acc:=acc) Zd,show q6.mk x.k_ x.T_ x.n_ x.a_ (rS x.K_)=rN x from(yo x).symm,zgR] at hb;have v:=zgV j s c (acc++[x]) g2 Zd Zd ji;rw[zB hb];exact v
  |false=>
   rw[h1] at hb;simp only[jk,jp] at hb |-
   have n:=yj (d:=0) g [116,121,112,101];cases K:zY [116,121,112,101] ts with
   |error er=>
    rw[K] at n;obtain⟨b,c,i,hp,F,h⟩:=n;simp only[id] at hp;subst hp;rw[i,jj] at hb;simp only[h,jp,jj] at hb;exact⟨c,_,by rw[zB hb,zh1 h],h⟩
   |ok p=>
    obtain⟨u,t0⟩:=p;rw[K] at n;obtain⟨k0,e0,g0,O⟩:=n;rw[e0,jj] at hb;simp only[jq] at hb;rw[PR.bd_ok];have f:=zAr (d:=0) g0 Zd (hd ts).a_;cases es:zdQ (hd ts).a_ t0 with
    |error er=>
     rw[es] at f;obtain⟨⟨w,p,q,ks⟩,c,i,hp,F,h⟩:=f;simp only[pkR,D.injEq] at hp;obtain⟨rfl,t⟩:=hp;obtain rfl:T=q:=t.symm;rw[i,jj,xH (acc:=acc) Zd] at hb;exact⟨c,_,by rw[zB hb,zh1 h],h⟩
    |ok p=>
     obtain⟨x,s⟩:=p;rw[es] at f;obtain⟨c,i,g2,l2⟩:=f;rw[i,jj] at hb;simp only[ndR,ndT] at hb;rw[xH (acc:=acc) Zd,show q6.mk x.k_ x.T_ x.n_ x.a_ (rS x.K_)=rN x from(yo x).symm,zgR] at hb;have v:=zgV j s c (acc++[x]) g2 Zd Zd ji;rw[zB hb];exact v
end
theorem zdZ(s:Ut):q2w s=o (rN (Xc s).1,(Xc s).2):=by
 unfold q2w qcp;rw[zpk,jj];have k:rN vn=q6.mk 0 (lit []) 0 0 (C [] B):=by unfold vn;rw[Xq,yu]
 unfold Xc;simp only[jl];by_cases h:(Z2 s).2.1=0
 case neg=>grind
 case pos=>
 rw[jx (by simpa using h),jx (by simpa using h)];obtain⟨g,c⟩:=zdU h;have hs:=zlS s;generalize m:(Z2 s).2.2=X at g c hs;obtain⟨ts,nn⟩:=X;simp only at g c hs;subst c;have f:=g.len;have j:GK ⟨ts.map toR,A⟩ 0 ts:=⟨rfl,g,Zd,hs⟩;have a:=zgV (z1:=(0,lit [],0,0)) (z2:=(0,lit [],0,0)) ts.length ts 0 [] j Zd (UD _) ji;rw[zlP] at a;cases e:YD ts.length [] ts with
 |error er=>
  rw[e] at a;obtain⟨i,w,a,h2⟩:=a;have a:lpO vI ((0,lit [],0,0),(0,0,0,0),(0,lit [],0,0),⟨ts.map toR,A⟩,C [] B)=_:=a;grind
 |ok p=>
  obtain⟨l,n⟩:=p;rw[e] at a;obtain⟨i,a⟩:=a;have a:lpO vI ((0,lit [],0,0),(0,0,0,0),(0,lit [],0,0),⟨ts.map toR,A⟩,C [] B)=_:=a;rw[a];have d:=zaw _ _ _ _ _ e;simp only[zd] at d;have b:qaw (q6.mk 0 (lit []) 0 0 (rS (mkS l)))=o ((zd l+1:Nat):Int):=by
   have:=zlR 100000 ⟨0,lit [],0,0,mkS l⟩ (by rw[zk];simp only[mkS];omega) (by rw[zk];simp only[mkS];omega);rw[zk,Xq] at this;exact this
  simp only[jj,Dc,jt,jp,b];by_cases hb:4096 < zd l+1
  ·grind
  ·rw[jx Zd,jx hb,Xq]
end
end Go.Px
