/- Part Lc. -/
import Derived.Test.YtlhommikjhhmbaaGreatDoorLb
set_option linter.unusedVariables false
set_option linter.unusedSimpArgs false
set_option linter.unusedSectionVars false
namespace Go.Px
open Bool renaming true->A,false->B
open List renaming map_nil->H,cons_append->I
open _root_.Option renaming some->o,bind_fun_some->G
open Prod renaming mk->D,snd->E
open Sl renaming mk->C
variable{n':Nat}{one:List Tk->PR Nd}{t:List Tk}{α β γ δ:Type}{f:α->List Tk->PR β}{m:U3 β}{r:PR α}
section
theorem DE:∀{α : Type _} {l : List α},0 < l.length↔l≠[]:=@List.length_pos_iff
theorem wV(s:Sl α)(i:Nat):za s (i:Int)=s.xs[i]?:=by
 unfold za;grind
theorem zA{s:Type}{f:s->U3 (Step s β)}{x y:s}(h:f x=o (.next y)):lpO f x=lpO f y:=by rw[Zv,h];rfl
theorem zw{s:Type}{f:s->U3 (Step s β)}{x:s}{y:β}(h:f x=o (.done y)):lpO f x=o y:=by rw[Zv,h];rfl
abbrev RTk:=q9
abbrev RNd:=q6
abbrev PS:=(Int×Int×Int×Int)×Sl RTk
mutual
def rN:Nd->RNd
 |⟨k,t,n,a,s⟩=>⟨k,t,n,a,rS s⟩
def rS:Sl Nd->Sl RNd
 |⟨l,b⟩=>⟨rL l,b⟩
def rL:List Nd->List RNd
 |[]=>[]
 |n::l=>rN n::rL l
end
theorem zrR:∀l:List Nd,rL l=l.map rN
 |[]=>by simp[rL]
 |n::l=>by simp[rL,zrR l]
theorem yt(s:Sl Nd):rS s=⟨s.xs.map rN,s.nn⟩:=by cases s;unfold rS;rw[zrR]
theorem yp(n:Nd):rN n=⟨n.k_,n.T_,n.n_,n.a_,rS n.K_⟩:=by cases n;unfold rN;rfl
theorem yu:rS nilS=⟨[],B⟩:=by rw[yt];rfl
theorem zj(a:RNd):kr a=a:=by cases a;rfl
structure GK(T:Sl RTk)(k:Nat)(ts:List Tk):Prop where
 dr:T.xs.drop k=ts.map toR
 g:TGood ts
 b:k+ts.length<=30000
 sg:∀t∈ts,t.k_=4->∀c∈bs t.T_,isL c=B
def RS(T:Sl RTk)(d:Int)(n:Nat)(r:PR α)(m:U3 β)(mk:α->PS->β)(pk:β->PS):Prop:=match r with
 | .error e=>∃(b:β) (k:Nat),m=o b/\pk b=(((k:Int),d,e.2,e.1),T)/\k < T.xs.length/\e.2≠0
 | .ok (a,ts)=>∃k:Nat,m=o (mk a (((k:Int),d,0,0),T))/\GK T k ts/\ts.length<=n
section
variable {T:Sl RTk}{d e a:Int}{k n:Nat}{ts:List Tk}
theorem GK.lt(h:GK T k ts):k < T.xs.length:=by
 have:=congrArg List.length h.dr;have h2:=DE.2 h.g.ne;grind
theorem GK.idx(h:GK T k ts):za T (k:Int)=o (toR (hd ts)):=by
 have h1:=congrArg (λl=>l[0]?) h.dr;simp only[Di,Df,UA] at h1;rw[show za T (k:Int)=T.xs[k]? from wV T k,h1]
 match ts,h.g with
 |[],g=>exact absurd rfl g.ne
 |t::r,_=>rfl
theorem GK.tail(h:GK T k ts)(i:(hd ts).k_≠0):GK T (k+1) ts.tail/\ts.tail.length+1=ts.length:=by
 have h1:=h.g.tail i;have h2:=h.g.tail_len;refine⟨⟨?_,h1,?_,λt c=>h.sg t (List.mem_of_mem_tail c)⟩,h2⟩
 ·rw[<- List.drop_drop,h.dr]
  match ts with
  |[]=>rfl
  |t::r=>rfl
 ·have:=h.b;omega
theorem zcz(b:k < T.xs.length):∃t,za T (k:Int)=o t:=⟨T.xs[k],by rw[wV];grind⟩
theorem zu(b:k < 1000000000):U4 ((k:Int)+1)=((k+1:Nat):Int):=by rw[zE Zc Zc];rfl
theorem zlS(b:k < T.xs.length)(c:e≠0)(s:U0):q1t (s,((k:Int),d,e,a),T)=o (B,((k:Int),d,e,a),T):=by
 obtain⟨t,g⟩:=zcz b;unfold q1t qbk;grind
theorem yv(c:k < T.xs.length)(b:e≠0)(s:U0):q10 (s,((k:Int),d,e,a),T)=o (B,((k:Int),d,e,a),T):=by
 unfold q10 qax;simp only[zlS c b,jj,jk,jp]
theorem zdS(b:e≠0)(c:Int):q19 (c,((k:Int),d,e,a),T)=o (((k:Int),d,e,a),T):=by
 unfold q19 q9q;grind
theorem Zq(c:k < T.xs.length)(b:e≠0)(s:U0):q12 (s,((k:Int),d,e,a),T)=o (((k:Int),d,e,a),T):=by
 unfold q12 q9r;simp only[yv c b,zdS b,jj,D6,jq]
theorem zgR(c:k < T.xs.length)(b:e≠0):q15 (((k:Int),d,e,a),T)=o ((0,lit [],0,0),((k:Int),d,e,a),T):=by
 obtain⟨t,g⟩:=zcz c;unfold q15 q9s;simp only[g,zdS b,jj,Dj,b,ju,js,jq]
theorem xY(c:k < T.xs.length)(b:e≠0):q2k (((k:Int),d,e,a),T)=o (0,((k:Int),d,e,a),T):=by
 obtain⟨t,g⟩:=zcz c;unfold q2k q89;simp only[g,zdS b,jj,Dj,b,ju,js,jq]
theorem zgS(c:k < T.xs.length)(b:e≠0)(x:RNd):q2c (x,((k:Int),d,e,a),T)=o (x,((k:Int),d,e,a),T):=by
 unfold q2c q9t;simp only[yv c b,jj,jk,jp,zj]
theorem zbq(b:k < T.xs.length)(c:e≠0):∃v,q1z (((k:Int),d,e,a),T)=o (v,((k:Int),d,e,a),T):=by
 obtain⟨t,g⟩:=zcz b;unfold q1z q9u;simp only[g,yv b c,xY b c,zgR b c,zgS b c,jj,jk,jp];split<;>exact⟨_,rfl⟩
theorem zAv(c:k < T.xs.length)(b:e≠0):q6r (((k:Int),d,e,a),T)=o (lit [],((k:Int),d,e,a),T):=by
 unfold q6r qay;have h0:∀i:Int,∀s,za (⟨[lit [60],lit [60,61],lit [61,61]],A⟩:Sl U0) i=o s->0<=i->i < 3->q7u q10 q19 (i,((k:Int),d,e,a),T,C [lit [60],lit [60,61],lit [61,61]] A)=o (.next (i+1,((k:Int),d,e,a),T,C [lit [60],lit [60,61],lit [61,61]] A)):=by
  intro i s hs h0 g;unfold q7u;simp only[hs,yv c b,jj,jk,jp];rw[jv (by simp[Sl.len];omega),zE Zc Zc]
 rw[zA (h0 0 _ rfl Zc Zc),zA (h0 (0+1) _ rfl Zc Zc),zA (h0 (0+1+1) _ rfl Zc Zc),zw (y :=.inr (((k:Int),d,e,a),T)) rfl];simp only[jj,jm,zdS b]
theorem zyQ(c:k < T.xs.length)(b:e≠0):∃w,q3i (((k:Int),d,e,a),T)=o (((k:Int),d,e,a),T,w):=by
 unfold q3i q9v;simp only[Zq c b,yv c b,jj,jk,jp,Dj,b,ju,js,jq];grind
theorem zlT(b:k < T.xs.length)(c:e≠0):∃v,q3j (((k:Int),d,e,a),T)=o (v,((k:Int),d,e,a),T):=by
 obtain⟨t,g⟩:=zcz b;unfold q3j q9w;simp only[g,Zq b c,yv b c,zgR b c,jj,jk,jp,D6,jq];grind
theorem zrS(b:k < T.xs.length)(c:e≠0):∃v,q6e (((k:Int),d,e,a),T)=o (v,((k:Int),d,e,a),T):=by
 obtain⟨t,i⟩:=zcz b;obtain⟨v,g⟩:=zbq (d:=d) (a:=a) b c;unfold q6e q9x;simp only[i,g,Zq b c,yv b c,zlS b c,zgR b c,zgS b c,jj,jk,jp];grind
theorem znD(c:k < T.xs.length)(b:e≠0)(hd : -1000<=d/\d<=1000)(j:Nat):∃v w,q4g (j+1) (((k:Int),d,e,a),T)=o (v,((k:Int),d,e,a),T,w):=by
 obtain⟨t,g⟩:=zcz c;show∃v w,q2l _ _ _ _ _ _=_
 unfold q2l;simp only[g,Zq c b,zlS c b,jj,jk,jp];rw[Zv];simp only[q4h,b,jr,jk,jp,jj];rw[zE (n:=d+1) Zc Zc,zE Zc Zc,(Zc:d+1 - 1=d)];grind
theorem zyR(c:k < T.xs.length)(b:e≠0):∃v,q4c (((k:Int),d,e,a),T)=o (v,((k:Int),d,e,a),T):=by
 obtain⟨t,g⟩:=zcz c;unfold q4c q9y;simp only[g,yv c b,jj,jk,jp];generalize ((0,lit [],0,0):Int×U0×Int×Int)=z;have h0:∀(i:Int) (s) (q:Int×U0×Int×Int),za (⟨[lit [99,111,117,110,116,101,100],lit [108,111,99,107],lit [103,117,97,114,100]],A⟩:Sl U0) i=o s->0<=i->i < 3->q42 q10 q15 q19 (i,((k:Int),d,e,a),T,z,q,C [lit [99,111,117,110,116,101,100],lit [108,111,99,107],lit [103,117,97,114,100]] A)=o (.next (i+1,((k:Int),d,e,a),T,z,q,C [lit [99,111,117,110,116,101,100],lit [108,111,99,107],lit [103,117,97,114,100]] A)):=by
  intro i s q hs h0 j;unfold q42;simp only[hs,yv c b,jj,jk,jp];rw[jv (by simp[Sl.len];omega),zE Zc Zc]
 rw[zA (h0 0 _ _ rfl Zc Zc),zA (h0 (0+1) _ _ rfl Zc Zc),zA (h0 (0+1+1) _ _ rfl Zc Zc),zw (y :=.inr (((k:Int),d,e,a),T,z,_)) rfl];simp only[jj,jm,zdS b];grind
end
end
section
section
variable {T:Sl RTk}{d e a:Int}{k n:Nat}{ts:List Tk}
theorem RS.bd {f:α->List Tk->PR γ}{K:β->U3 δ}{mk:α->PS->β}{pk:β->PS}{j:γ->PS->δ}{i:δ->PS}(h:RS T d n r m mk pk)
    (hb:∀(b:β) (k:Nat) (e a:Int),pk b=(((k:Int),d,e,a),T)->k < T.xs.length->e≠0->∃c,K b=o c/\i c=(((k:Int),d,e,a),T))
    (s:∀a ts (k:Nat),r = .ok (a,ts)->GK T k ts->ts.length<=n->RS T d n' (f a ts) (K (mk a (((k:Int),d,0,0),T))) j i):RS T d n' (r.bd f) (m.bind K) j i:=by
 cases r with
 |error e=>
  obtain⟨b,k,rfl,h1,h2,q⟩:=h;obtain⟨c,u,v⟩:=hb b k _ _ h1 h2 q;exact⟨c,k,u,v,h2,q⟩
 |ok p=>
  obtain⟨a,ts⟩:=p;obtain⟨k,rfl,g,l⟩:=h;exact s a ts k rfl g l
theorem RS.ok{x:α}{mk:α->PS->β}{pk:β->PS}(g:GK T k ts)(l:ts.length<=n)(h:m=o (mk x (((k:Int),d,0,0),T))):RS T d n (.ok (x,ts)) m mk pk:=⟨k,h,g,l⟩
theorem RS.mono{mk:α->PS->β}{pk:β->PS}(h:RS T d n r m mk pk)(l:n<=n'):RS T d n' r m mk pk:=by
 cases r with
 |error e=>exact h
 |ok p=>obtain⟨k,h1,h2,b⟩:=h;exact⟨k,h1,h2,UM b l⟩
theorem PR.bd_assoc{g:β->List Tk->PR γ}:(r.bd f).bd g=r.bd λa t=>(f a t).bd g:=by
 cases r<;>rfl
theorem PR.bd_ok{x:α}:PR.bd (.ok (x,t)) f=f x t:=rfl
theorem GK.is(g:GK T k ts){s:List UInt8}(h:isP s ts=A):GK T (k+1) ts.tail/\ts.tail.length+1=ts.length:=g.tail (zfI h)
theorem zdT(g:GK T k ts)(s:List UInt8):q1t (lit s,((k:Int),d,0,0),T)=o (isP s ts,((k:Int),d,0,0),T):=by
 unfold q1t qbk isP;simp only[g.idx,jj,js,jq,jl,toR];grind
theorem xi(g:GK T k ts)(s:List UInt8):q10 (lit s,((k:Int),d,0,0),T)=o (isP s ts,(((if isP s ts=A then k+1 else k:Nat):Int),d,0,0),T):=by
 unfold q10 qax;simp only[zdT g,jj];have:=g.b;cases h:isP s ts with
 |true=>simp only[jq,jj];rw[zu Zc]
 |false=>rfl
theorem V3(g:GK T k ts)(c:Int):q19 (c,((k:Int),d,0,0),T)=o (((k:Int),d,c,(hd ts).a_),T):=by
 unfold q19 q9q;simp only[g.idx,jj,js,jq,toR]
theorem Yk (g:GK T k ts) {s:List UInt8}{K:Bool×PS->U3 β}{p q:PR α}{mk:α->PS->β}{pk:β->PS}(h1:isP s ts=A->GK T (k+1) ts.tail->ts.tail.length+1=ts.length->RS T d n p (K (A,(((k+1:Nat):Int),d,0,0),T)) mk pk)
    (h0:isP s ts=B->RS T d n q (K (B,((k:Int),d,0,0),T)) mk pk):RS T d n (if isP s ts=A then p else q) ((q10 (lit s,((k:Int),d,0,0),T)).bind K) mk pk:=by
 rw[xi g,jj];cases h:isP s ts with
 |true=>simp only[jq];exact h1 h (g.is h).1 (g.is h).2
 |false=>grind
theorem yk(g:GK T k ts)(s:List UInt8):RS T d (ts.length - 1) (zX s ts) (q12 (lit s,((k:Int),d,0,0),T)) (λ_ st=>st) id:=by
 unfold q12 q9r zX;refine Yk g (λh b l =>.ok b Zc rfl) λh=>?_
 simp only[D6,jq,V3 g,jj];exact⟨_,k,rfl,rfl,g.lt,by simp[xW]⟩
theorem yl(g:GK T k ts):RS T d (ts.length - 1) (Zb ts) (q15 (((k:Int),d,0,0),T)) (λn st=>(ndT n,st)) E:=by
 unfold q15 q9s Zb wD;simp only[g.idx,jj,Dj,jt,jr,jk,jp,toR,jl];have:=g.b;by_cases h:(hd ts).k_=1
 ·obtain⟨c,i⟩:=g.tail Zc;simp only[h,jt,jq,jp];rw[zu Zc];exact .ok c Zc rfl
 ·simp only[h,ju,jq,jp];rw[V3 g];exact⟨_,k,rfl,rfl,g.lt,je⟩
theorem wN(g:GK T k ts):RS T d (ts.length - 1) (wD 3 ts) (q2k (((k:Int),d,0,0),T)) (λt st=>(t.n_,st)) E:=by
 unfold q2k q89 wD;simp only[g.idx,jj,Dj,jt,jr,jk,jp,toR,jl];have:=g.b;by_cases h:(hd ts).k_=3
 ·obtain⟨c,i⟩:=g.tail Zc;simp only[h,jt,jq,jp];rw[zu Zc];exact .ok c Zc rfl
 ·simp only[h,ju,jq,jp];rw[V3 g];exact⟨_,k,rfl,rfl,g.lt,by simp[xW]⟩
theorem wO(x:Int):1 * x=x:=Zc
theorem znE{b:List Tk}{t:Tk}(g:TGood ts)(h:wD 3 ts = .ok (t,b)):U4 (0 - t.n_) = -1 * t.n_:=by
 have:=ziT g h;rw[zE Zc Zc];omega
theorem zrT(m:Nd)(v:Int):rN (Nd.num m v)=⟨(rN m).k_,(rN m).T_,v,(rN m).a_,(rN m).K_⟩:=by cases m;simp[Nd.num,rN]
theorem zrU(g:GK T k ts)(m:Nd):RS T d ts.length (xX m ts) (q2c (rN m,((k:Int),d,0,0),T)) (λn st=>(rN n,st)) E:=by
 unfold q2c q9t xX Yu;refine Yk g (λh b l=>?_) λh=>?_
 ·simp only[jq,PR.bd_assoc,PR.bd_ok];refine(wN b).bd ?_ λt j i c g2 l2 =>.ok g2 Zc (by rw[zrT,wO])
  grind
 ·simp only[jk,jp];refine Yk g (λh b l=>?_) λh=>?_
  ·simp only[jq,PR.bd_assoc,PR.bd_ok,gh,jj];refine(wN b).bd ?_ λt j i c g2 l2 =>.ok g2 Zc (by rw[zrT,znE b.g c])
   grind
  ·exact .ok g Zc (by simp only[jk,jp,jj,zj])
theorem X5(n:Nd)(h:n.K_=nilS):q6.mk (ndT n).1 (ndT n).2.1 (ndT n).2.2.1 (ndT n).2.2.2 (C [] B)=rN n:=by rw[yp,h,yu];rfl
theorem Wy(g:GK T k ts):RS T d (ts.length - 1) (Z4 ts) (q1z (((k:Int),d,0,0),T)) (λn st=>(rN n,st)) E:=by
 unfold q1z q9u Z4 Yu;simp only[g.idx,jj,toR,jl];by_cases i:(hd ts).k_=3
 ·rw[jv i,jv i];simp only[PR.bd_assoc,PR.bd_ok];refine(wN g).bd ?_ λt j c q g2 l2 =>.ok g2 Zc (by rw[wO,yp,yu])
  grind
 ·rw[jx i,jx i];refine Yk g (λh b l=>?_) λh=>?_
  ·simp only[jq,PR.bd_assoc,PR.bd_ok];refine(wN b).bd ?_ λt j c q g2 l2 =>.ok g2 Zc (by rw[znE b.g q,yp,yu])
   grind
  ·simp only[jk,jp];refine(yl g).bd ?_ λm j c w b x=>?_
   ·rintro⟨v,_⟩ k e a rfl s u;simp only[zgS s u,jj];grind
   ·rw[X5 m (zP w)];simp only[zj];refine RS.mono (n:=j.length) ?_ Zc;rw[show((q2c (rN m,((c:Int),d,0,0),T)).bind λp=>o (p.1,p.2))=q2c (rN m,((c:Int),d,0,0),T) from G _];exact zrU b m
theorem zAw(g:GK T k ts):RS T d (ts.length - 1) (zct ts) (q6r (((k:Int),d,0,0),T)) (λs st=>(s,st)) E:=by
 unfold q6r qay
 have h0:∀(i:Int) (s:List UInt8),za (⟨[lit [60],lit [60,61],lit [61,61]],A⟩:Sl U0) i=o (lit s)->0<=i->i < 3->q7u q10 q19 (i,((k:Int),d,0,0),T,C [lit [60],lit [60,61],lit [61,61]] A) =
     if isP s ts=A then o (.done (.inl (lit s,(((k+1:Nat):Int),d,0,0),T))) else o (.next (i+1,((k:Int),d,0,0),T,C [lit [60],lit [60,61],lit [61,61]] A)):=by
  intro i s hs h0 j;unfold q7u;simp only[hs,xi g,jj];rw[jv (by simp[Sl.len];omega)];cases h:isP s ts with
  |true=>grind
  |false=>simp only[jk,jp];rw[zE Zc Zc]
 unfold zct;have e0:=h0 0 [60] rfl Zc Zc;have b:=h0 (0+1) [60,61] rfl Zc Zc;have c:=h0 (0+1+1) [61,61] rfl Zc Zc;cases c0:isP [60] ts with
 |true=>rw[c0] at e0;rw[zw e0];exact .ok (g.is c0).1 jE rfl
 |false=>
  rw[c0] at e0;rw[zA e0];cases c1:isP [60,61] ts with
  |true=>rw[c1] at b;rw[zw b];exact .ok (g.is c1).1 jE rfl
  |false=>
   rw[c1] at b;rw[zA b];cases c2:isP [61,61] ts with
   |true=>rw[c2] at c;rw[zw c];exact .ok (g.is c2).1 jE rfl
   |false=>
    rw[c2] at c;rw[zA c,zw (y :=.inr (((k:Int),d,0,0),T)) rfl];simp only[jj,jm,V3 g,jk,jp];exact⟨_,k,rfl,rfl,g.lt,je⟩
def ndR(n:Nd)(st:PS):(Int×U0×Int×Int)×(Int×Int×Int×Int)×Sl RTk×Sl RNd:=(ndT n,st.1,st.2,rS n.K_)
def pkR(b:(Int×U0×Int×Int)×(Int×Int×Int×Int)×Sl RTk×Sl RNd):PS:=(b.2.1,b.2.2.1)
theorem zrV(g:GK T k ts):RS T d (ts.length - 1) (YI ts) (q20 (((k:Int),d,0,0),T)) ndR pkR:=by
 unfold q20 q79 YI;refine(Wy g).bd ?_ λa x F y l K=>?_
 ·rintro⟨v,_⟩ k e a rfl c i;obtain⟨w,j⟩:=zbq (d:=d) (a:=a) c i;simp only[zAv c i,j,jj];exact⟨_,rfl,rfl⟩
 refine(zAw l).bd ?_ λop t2 L _ g2 l2=>?_
 ·rintro⟨v,_⟩ k e a rfl c i;obtain⟨w,j⟩:=zbq (d:=d) (a:=a) c i;simp only[j,jj];exact⟨_,rfl,rfl⟩
 refine(Wy g2).bd ?_ λb t3 s q p u =>.ok p Zc ?_
 ·rintro⟨v,_⟩ k e a rfl c i;exact⟨_,rfl,rfl⟩
 simp only[zj,ndR,ndT,yt,UF,H];rw[show(rN a).a_=a.a_ by rw[yp]]
theorem Yv{acc:List RNd}{x:RNd}(h:acc.length<=60000)(b:Bool):zo 64 (⟨acc,b⟩:Sl RNd) [x]=o ⟨acc++[x],A⟩:=by
 rw[yy ji ji];simp
noncomputable abbrev wW:=q5v q12 q10 q1z
theorem ziY(c:k < T.xs.length)(b:e≠0)(x:RNd)(acc:Sl RNd):lpO wW (((k:Int),d,e,a),T,x,acc)=o (((k:Int),d,e,a),T,acc):=
 zw (by unfold wW q5v;simp only[yv c b,jj,D6,jq])
theorem ziZ:∀(j:Nat) (ts:List Tk) (k:Nat) (x:RNd) (acc:List Nd),GK T k ts->ts.length<=j->acc.length+ts.length<=30000->
    RS T d ts.length (Zt Z4 j acc ts) (lpO wW (((k:Int),d,0,0),T,x,⟨acc.map rN,A⟩)) (λl st=>(st.1,st.2,⟨l.map rN,A⟩)) (λb=>(b.1,b.2.1))
 |0,ts,k,x,acc,g,hj,ha=>absurd (UQ Zc) g.g.ne
 |j+1,ts,k,x,acc,g,hj,ha=>by
  unfold Zt;cases h:isP [44] ts with
  |false=>
   rw[zw (y:=(((k:Int),d,0,0),T,⟨acc.map rN,A⟩)) (by unfold wW q5v;simp only[xi g,h,jj,D6,jq,jk,jp])];exact .ok g (UK _) rfl
  |true=>
   obtain⟨w,K⟩:=g.is h;simp only[jq];have i:=Wy (d:=d) w;cases e:Z4 ts.tail with
   |error er=>
    rw[e] at i;obtain⟨⟨v,_⟩,c,q,rfl,h2,u⟩:=i;have s:wW (((k:Int),d,0,0),T,x,⟨acc.map rN,A⟩)=o (.next (((c:Int),d,er.2,er.1),T,v,⟨acc.map rN++[v],A⟩)):=by
     unfold wW q5v;simp only[xi g,h,jj,Do,jq,jk,jp,q,zj];rw[Yv ji];rfl
    rw[zA s,ziY h2 u];exact⟨_,c,rfl,rfl,h2,u⟩
   |ok p=>
    obtain⟨y,F⟩:=p;rw[e] at i;obtain⟨c,q,g2,l2⟩:=i;have s:wW (((k:Int),d,0,0),T,x,⟨acc.map rN,A⟩)=o (.next (((c:Int),d,0,0),T,rN y,⟨(acc++[y]).map rN,A⟩)):=by
     unfold wW q5v;simp only[xi g,h,jj,Do,jq,jk,jp,q,zj];rw[Yv ji];simp
    rw[zA s];exact(ziZ j F c (rN y) (acc++[y]) g2 Zc ji).mono Zc
theorem zlU(g:GK T k ts):RS T d (ts.length - 1) (zas ts) (q3i (((k:Int),d,0,0),T)) (λks st=>(st.1,st.2,rS ks)) (λb=>(b.1,b.2.1)):=by
 unfold q3i q9v zas;refine(yk g [40]).bd ?_ λ_ u P _ j Q=>?_
 ·rintro _ k e a rfl i c;simp only[yv i c,jj,jk,jp,Dj,c,ju,js,jq,id];grind
 refine Yk j (λh g2 l2=>?_) λh=>?_
 ·simp only[jq,jj];exact .ok g2 Zc (by rw[yu])
 simp only[jk,jp,jj,Dj,jt,jr];unfold yb;rw[PR.bd_assoc];have hb:=j.b;refine(Wy j).bd ?_ λx t2 y M g2 l2=>?_
 ·rintro⟨v,_⟩ k e a rfl i c;simp only[zj];rw[ziY i c];simp only[jj,Zq i c];grind
 simp only[zj];refine(ziZ (d:=d) u.length t2 y (rN x) [x] g2 Zc ji).bd ?_ λl t3 K _ F N=>?_
 ·rintro⟨p,q,w⟩ k e a hp i c;simp only[D.injEq] at hp;obtain⟨rfl,rfl⟩:=hp;simp only[Zq i c,jj];grind
 refine(yk F [41]).bd ?_ λ_ t4 L _ s O =>.ok s Zc (by rw[yt])
 grind
end
end
section
section
variable {T:Sl RTk}{d e a:Int}{k n:Nat}{ts:List Tk}
theorem Wz(n:Nd):rS ⟨[n],A⟩=⟨[rN n],A⟩:=by rw[yt];rfl
theorem Xr(k:Int)(t:U0)(n a:Int)(s:Sl Nd):rN ⟨k,t,n,a,s⟩=⟨k,t,n,a,rS s⟩:=by unfold rN;rfl
theorem zrW(g:GK T k ts):RS T d (ts.length - 1) (Wx ts) (q3j (((k:Int),d,0,0),T)) (λn st=>(rN n,st)) E:=by
 unfold q3j q9w Wx;simp only[g.idx,jj,toR];refine Yk g (λh b p=>?_) λh=>?_
 ·simp only[jq];exact .ok b Zc (by rw[yp,yu])
 simp only[jk,jp];refine Yk g (λh b p=>?_) λh=>?_
 ·simp only[Do,jk,jp,jj];refine(yl b).bd ?_ λm u v c g2 l2 =>.ok g2 Zc ?_
  ·grind
  ·rw[X5 m (zP c),Xr,Wz]
 simp only[D6,jq,gh];refine(yk g [38]).bd ?_ λ_ u v _ b p=>?_
 ·rintro _ k e a rfl j l;simp only[yv j l,zgR j l,jj,jk,jp,id];grind
 refine Yk b (λh g2 l2=>?_) λh=>?_
 ·simp only[jq,jj];refine(yl g2).bd ?_ λm t2 q c i s =>.ok i Zc ?_
  ·grind
  ·rw[X5 m (zP c),Xr,Wz]
 ·simp only[jk,jp,jj];refine(yl b).bd ?_ λm t2 q c i s =>.ok i Zc ?_
  ·grind
  ·rw[X5 m (zP c),Xr,Wz]
theorem GK.idx1(g:GK T (k+1) ts)(b:k < 30000):za T (U4 ((k:Int)+1))=o (toR (hd ts)):=by
 rw[zu Zc,g.idx]
theorem zyS(g:GK T k ts):RS T d (ts.length - 1) (Va ts) (q6e (((k:Int),d,0,0),T)) (λn st=>(rN n,st)) E:=by
 unfold q6e q9x Va;simp only[g.idx,jj,toR];have hb:=g.b;refine Yk g (λh c L=>?_) λh=>?_
 · simp only[jq];unfold Yu;rw[PR.bd_assoc];refine(wN c).bd ?_ λt i j U g2 l2 =>.ok g2 Zc (by rw[wO,yp,yu])
   grind
 simp only[jk,jp];refine Yk g (λh c L=>?_) λh=>?_
 · simp only[jq];refine(yl c).bd ?_ λm i j F g2 l2 =>.ok g2 Zc (by rw[yp,yu];rfl)
   grind
 simp only[jk,jp];refine Yk g (λh c L=>?_) λh=>?_
 · simp only[jq];refine Yk c (λh g2 l2=>?_) λh=>?_
   · simp only[jq,jj];refine(yl g2).bd ?_ λm i j F s K =>.ok s Zc (by rw[yp,yu];rfl)
     grind
   · simp only[jk,jp,jj];refine(yl c).bd ?_ λm i j F s K =>.ok s Zc (by rw[yp,yu];rfl)
     grind
 simp only[jk,jp,g.idx,jj,toR,jl,zj];by_cases l:(hd ts).k_=1
 case neg=>
   simp only[Dj,l,ju,jq,G];rw[show((q1z (((k:Int),d,0,0),T)).bind λy=>o (y.1,y.2))=q1z (((k:Int),d,0,0),T) from G _];exact Wy g
 simp only[Dj,l,jt,jp];refine(yl g).bd ?_ λm i j F c L=>?_
 ·rintro⟨v,_⟩ k e a rfl l u;simp only[zlS l u,yv l u,zgS l u,jj,jk,jp];grind
 simp only[zdT c,jj];cases S:isP [40] i with
 |true=>
  simp only[jq];refine RS.mono (n:=i.length - 1) ?_ Zc;refine(zlU c).bd ?_ λks t2 M _ g2 l2 =>.ok g2 Zc (by rw[yp];rfl)
  rintro⟨p,q,w⟩ k e a hp l u;grind
 |false=>
 simp only[jk,jp];refine Yk c (λh g2 l2=>?_) λh=>?_
 · simp only[jq];refine(Wy g2).bd ?_ λx t2 M _ s K=>?_
   ·rintro⟨v,_⟩ k e a rfl l u;simp only[Zq l u,jj];grind
   refine(yk s [93]).bd ?_ λ_ t4 W _ Q V =>.ok Q Zc (by rw[Xr,Wz];rfl)
   grind
 simp only[jk,jp,zdT c,jj];have N:=c.b
 have two:∀{g2:GK T (j+1) i.tail} (q:Int),RS T d (ts.length - 1) ((Zb i.tail).bd λb t2 =>.ok ((⟨q,lit [],0,m.a_,⟨[m,b],A⟩⟩:Nd),t2))
     ((q15 ((U4 ((j:Int)+1),d,0,0),T)).bind λy=>o (q6.mk q (lit []) 0 (ndT m).2.2.2 (C [q6.mk (ndT m).1 (ndT m).2.1 (ndT m).2.2.1 (ndT m).2.2.2 (C [] B),q6.mk y.1.1 y.1.2.1 y.1.2.2.1 y.1.2.2.2 (C [] B)] A),y.2)) (λn st=>(rN n,st)) E:=by
  intro g2 q;rw[zu Zc];have:=g2.b;have h0:=DE.2 c.g.ne;refine(yl g2).bd ?_ λb t2 M P s K =>.ok s jE ?_
  ·grind
  ·rw[X5 m (zP F),X5 b (zP P),yp ⟨q,_,_,_,_⟩,yt];rfl
 have fin:RS T d (ts.length - 1) (xX m i) ((q2c (q6.mk (ndT m).1 (ndT m).2.1 (ndT m).2.2.1 (ndT m).2.2.2 (C [] B),((j:Int),d,0,0),T)).bind λy=>o (y.1,y.2)) (λn st=>(rN n,st)) E:=by
  rw[X5 m (zP F)];rw[show((q2c (rN m,((j:Int),d,0,0),T)).bind λy=>o (y.1,y.2))=q2c (rN m,((j:Int),d,0,0),T) from G _];exact(zrU c m).mono Zc
 cases hp:isP [43] i with
 |true=>
  have R:=zh6 hp;obtain⟨g2,l2⟩:=c.is hp;simp only[R,jq,UG,jk,false_and,jp,jj,g2.idx1 Zc,toR,jl];by_cases h1:(hd i.tail).k_=1
  ·simp only[h1,jq,gh,jj];exact two (g2:=g2) 21
  grind
 |false=>
  cases O:isP [45] i with
  |true=>
   obtain⟨g2,l2⟩:=c.is O;simp only[jq,UG,jk,false_and,jp,jj,g2.idx1 Zc,toR,jl];by_cases h1:(hd i.tail).k_=1
   ·simp only[h1,jq,gh,jj];exact two (g2:=g2) 22
   grind
  |false=>
   grind
theorem zxb(g:GK T k ts):RS T d (ts.length - 1) ((Zb ts).bd vJ) (q7a (((k:Int),d,0,0),T)) ndR pkR:=by
 unfold q7a qcl;refine(yl g).bd ?_ λm u S Y j V=>?_
 ·rintro⟨v,_⟩ k e a rfl b c;obtain⟨w,i⟩:=zrS (d:=d) (a:=a) b c;simp only[zlS b c,yv b c,Zq b c,i,jj,jk,jp];exact⟨_,rfl,rfl⟩
 refine RS.mono (n:=u.length - 1) ?_ Zc;have h0:=DE.2 j.g.ne;unfold vJ;simp only[zdT j,jj];cases R:isP [40] u with
 |true=>
  simp only[jq];refine(zlU j).bd ?_ λks t2 L _ g2 l2 =>.ok g2 Zc ?_
  ·rintro⟨p,q,w⟩ k e a hp b c;simp only[D.injEq] at hp;obtain⟨rfl,rfl⟩:=hp;exact⟨_,rfl,rfl⟩
  ·simp only[ndR,Wz,yp];rfl
 |false=>
 simp only[jk,jp];refine Yk j (λh g2 l2=>?_) λh=>?_
 ·simp only[jq];refine(Wy g2).bd ?_ λx t2 L _ F U=>?_
  ·rintro⟨v,_⟩ k e a rfl b c;obtain⟨w,i⟩:=zbq (d:=d) (a:=a) b c;simp only[Zq b c,i,jj];exact⟨_,rfl,rfl⟩
  refine(yk F [93]).bd ?_ λ_ t4 X _ M W=>?_
  ·rintro _ k e a rfl b c;obtain⟨w,i⟩:=zbq (d:=d) (a:=a) b c;simp only[Zq b c,i,jj,id];exact⟨_,rfl,rfl⟩
  refine(yk M [61]).bd ?_ λ_ t5 N _ l P=>?_
  ·rintro _ k e a rfl b c;obtain⟨w,i⟩:=zbq (d:=d) (a:=a) b c;simp only[i,jj,id];exact⟨_,rfl,rfl⟩
  refine(Wy l).bd ?_ λy Q O _ s K =>.ok s Zc ?_
  ·rintro⟨v,_⟩ k e a rfl b c;exact⟨_,rfl,rfl⟩
  ·simp only[ndR,yt,zj];rfl
 simp only[jk,jp];refine(yk j [61]).bd ?_ λ_ t5 N _ l P=>?_
 ·rintro _ k e a rfl b c;obtain⟨w,i⟩:=zrS (d:=d) (a:=a) b c;simp only[i,jj,id];exact⟨_,rfl,rfl⟩
 refine(zyS l).bd ?_ λy Q O _ s K =>.ok s Zc ?_
 ·rintro⟨v,_⟩ k e a rfl b c;exact⟨_,rfl,rfl⟩
 ·simp only[ndR,yt,zj];rfl
end
end
section
section
variable {T:Sl RTk}{d e a:Int}{k n:Nat}{ts:List Tk}
abbrev zlV:=PS->U3 ((Int×U0×Int×Int)×(Int×Int×Int×Int)×Sl RTk×Sl RNd)
structure BlkR(T:Sl RTk)(d:Int)(h:zlV)(blk:List Tk->PR Nd):Prop where
 g:∀{ts k},GK T k ts->RS T d (ts.length - 1) (blk ts) (h (((k:Int),d,0,0),T)) ndR pkR
 b:∀{k:Nat} {e a:Int},k < T.xs.length->e≠0->∃v w,h (((k:Int),d,e,a),T)=o (v,((k:Int),d,e,a),T,w)
variable {h:zlV}{blk:List Tk->PR Nd}
theorem zub{sz:Nat}{s s':Sl RNd}{l:List RNd}(h:zo sz s l=o s'):s'.xs=s.xs++l:=by
 unfold zo at h;grind
theorem RS.bdq {f:α->List Tk->PR γ}{K:β->U3 δ}{mk:α->PS->β}{pk:β->PS}{j:γ->PS->δ}{i:δ->PS}(h:RS T d n r m mk pk)
    (hb:∀(b:β) (k:Nat) (e a:Int),m=o b->pk b=(((k:Int),d,e,a),T)->k < T.xs.length->e≠0->∃c,K b=o c/\i c=(((k:Int),d,e,a),T))
    (s:∀a ts (k:Nat),r = .ok (a,ts)->GK T k ts->ts.length<=n->RS T d n' (f a ts) (K (mk a (((k:Int),d,0,0),T))) j i):RS T d n' (r.bd f) (m.bind K) j i:=by
 cases r with
 |error e=>
  obtain⟨b,k,rfl,h1,h2,q⟩:=h;obtain⟨c,u,v⟩:=hb b k _ _ rfl h1 h2 q;exact⟨c,k,u,v,h2,q⟩
 |ok p=>
  obtain⟨a,ts⟩:=p;obtain⟨k,rfl,g,l⟩:=h;exact s a ts k rfl g l
theorem zlW{st:PS}{b}(hb:q20 st=o b):b.2.2.2.xs.length=2:=by
 unfold q20 q79 at hb;obtain⟨x,_,hb⟩:=gd hb;obtain⟨y,_,hb⟩:=gd hb;obtain⟨z,_,hb⟩:=gd hb;cases hb;rfl
theorem zlX{x}{b}(hb:q21 h x=o b):b.2.2.2.xs.length=3:=by
 unfold q21 q50 at hb;obtain⟨x,g,hb⟩:=gd hb;obtain⟨y,_,hb⟩:=gd hb;obtain⟨z,c,hb⟩:=gd hb;cases hb;have:=zub c;have h2:=zlW g;grind
theorem zlY(hb:BlkR T d h blk)(g:GK T k ts)(q c:Int):RS T d (ts.length - 1) (wT blk q c ts) (q21 h (q,c,((k:Int),d,0,0),T)) ndR pkR:=by
 unfold q21 q50 wT;refine(zrV g).bdq ?_ λm P R u l S=>?_
 ·rintro⟨v,p,q,w⟩ k e a s hp i j;have h2:=zlW s;simp only[pkR,D.injEq] at hp;obtain⟨rfl,rfl⟩:=hp;obtain⟨v2,Q,K⟩:=hb.b (a:=a) i j;obtain⟨M,O⟩:=w;simp only[K,jj];rw[Yv jE];exact⟨_,rfl,rfl⟩
 obtain⟨x,y,i⟩:=zcv u;refine(hb.g l).bd ?_ λb t2 N L g2 l2 =>.ok g2 Zc ?_
 ·rintro⟨v,p,q,w⟩ k e a hp F j;simp only[pkR,D.injEq] at hp;obtain⟨rfl,rfl⟩:=hp;simp only[ndR,i,yt];rw[Yv je];exact⟨_,rfl,rfl⟩
 ·simp only[ndR,i,yt,ndT];rw[Yv je];simp only[jj,UF,H,DA,I,Dp];rw[yp b,yt]
theorem Z8(x y:List UInt8):(lit x=lit y)=(x=y):=propext ⟨λh=>by have:=congrArg bs h;simpa[wy] using this,λh=>by rw[h]⟩
theorem zuc(g:GK T k ts){w:List UInt8}(q:∃c∈w,isL c=A):isP w ts=decide ((if(hd ts).k_=2 then(hd ts).T_ else lit [])=lit w):=by
 obtain⟨c,j,s⟩:=q;unfold isP;by_cases h2:(hd ts).k_=2
 ·simp[h2]
 ·simp only[h2,jr,DC,jp,Z8];have l:decide ([]=w)=false:=by
   grind
  rw[l];by_cases i:(hd ts).k_=4
  ·have p:hd ts∈ts:=by
    match ts,g.g with
    |[],g=>exact absurd rfl g.ne
    |t::r,_=>simp[hd]
   have b:¬ (hd ts).T_=lit w:=by
    intro e;have:=g.sg _ p i c (by rw[e,wy];exact j);grind
   simp[b]
  ·simp[i]
theorem zau(g:GK T k ts)(m:Nd):RS T d (ts.length - 1) (va m ts) ((q12 (lit [59],((k:Int),d,0,0),T)).bind λy=>o (ndT m,y.1,y.2,rS m.K_)) ndR pkR:=by
 unfold va;refine(yk g [59]).bd ?_ λ_ j i _ b p =>.ok b Zc rfl
 rintro _ k e a rfl c l;exact⟨_,rfl,rfl⟩
end
end
section
section
variable {T:Sl RTk}{d e a:Int}{k n:Nat}{ts:List Tk}
variable {h:zlV}{blk:List Tk->PR Nd}
set_option maxHeartbeats 2000000 in
theorem zyT(hb:BlkR T d h blk)(g:GK T k ts):RS T d (ts.length - 1) (Y1 blk ts) (q36 h (((k:Int),d,0,0),T)) ndR pkR:=by
 unfold q36 q7b;simp only[g.idx,jj,toR,jl];have hgb:=g.b;obtain⟨F,hF⟩:∃F,F=(if(hd ts).k_=2 then(hd ts).T_ else lit []):=⟨_,rfl⟩
 have e1:(if(hd ts).k_=2 then o ((hd ts).a_,(hd ts).T_,((k:Int),d,(0:Int),(0:Int)),T,(0:Int),lit [],(0:Int),(0:Int)) else o ((hd ts).a_,lit [],((k:Int),d,0,0),T,0,lit [],0,0))=o ((hd ts).a_,F,((k:Int),d,0,0),T,0,lit [],0,0):=by
  grind
 have is:∀w:List UInt8,(∃c∈w,isL c=A)->isP w ts=decide (F=lit w):=λw W=>by rw[hF];exact zuc g W
 rw[e1];simp only[jj];clear e1 hF;unfold Y1;rw[is [102,114,101,101] ⟨102,je,rfl⟩,is [108,111,99,107] ⟨108,je,rfl⟩,is [117,110,108,111,99,107] ⟨117,je,rfl⟩,is [105,102] ⟨105,je,rfl⟩,is [119,104,105,108,101] ⟨119,je,rfl⟩,is [114,101,116,117,114,110] ⟨114,je,rfl⟩,is [97,98,111,114,116] ⟨97,je,rfl⟩,is [102,111,114,107] ⟨102,je,rfl⟩];have L:∀w:List UInt8,(∃c∈w,isL c=A)->F=lit w->GK T (k+1) ts.tail/\ts.tail.length+1=ts.length:=λw W e=>g.is (s:=w) jE
 have l:=zu (k:=k) Zc;by_cases h1:F=lit [102,114,101,101]
 ·obtain⟨u,N⟩:=L _ ⟨102,je,rfl⟩ h1;subst h1;simp (decide:=true) only [Z8,l,gh,jj,jo,jm,js,jq,jp,jk,jr];refine(yl u).bd ?_ λm O Q M g2 l2=>?_
  ·rintro⟨v,_⟩ k e a rfl i j;simp only[Zq i j,jj];exact⟨_,rfl,rfl⟩
  refine RS.mono (n:=O.length - 1) ?_ Zc;obtain⟨t,t',_,e3⟩:=bd_ok M;have:=zau (d:=d) g2 ⟨12,m.T_,m.n_,(hd ts).a_,nilS⟩;rw[yu] at this;cases e3;exact this
 by_cases h2:F=lit [108,111,99,107]
 ·obtain⟨u,N⟩:=L _ ⟨108,je,rfl⟩ h2;subst h2;simp (decide:=true) only [Z8,l,gh,jj,jo,jm,js,jq,jp,jk,jr];unfold atP Yu;simp only[PR.bd_assoc,PR.bd_ok];refine(yl u).bd ?_ λm O Q M g2 l2=>?_
  ·rintro⟨v,_⟩ k e a rfl i j;simp only[Zq i j,xY i j,jj];exact⟨_,rfl,rfl⟩
  refine(yk g2 [91]).bd ?_ λ_ t2 X _ K U=>?_
  ·rintro _ k e a rfl i j;simp only[Zq i j,xY i j,jj,id];exact⟨_,rfl,rfl⟩
  refine(wN K).bd ?_ λt t3 k3 _ R l4=>?_
  ·rintro⟨v,_⟩ k e a rfl i j;simp only[Zq i j,xY i j,jj,id];exact⟨_,rfl,rfl⟩
  refine(yk R [93]).bd ?_ λ_ t5 k5 _ g5 l5=>?_
  ·rintro _ k e a rfl i j;simp only[Zq i j,xY i j,jj,id];exact⟨_,rfl,rfl⟩
  refine RS.mono (n:=t5.length - 1) ?_ Zc;have:=zau (d:=d) g5 ⟨13,m.T_,1 * t.n_,(hd ts).a_,nilS⟩;rw[yu,wO] at this;rw[wO];exact this
 by_cases S:F=lit [117,110,108,111,99,107]
 ·obtain⟨u,N⟩:=L _ ⟨117,je,rfl⟩ S;subst S;simp (decide:=true) only [Z8,l,gh,jj,jo,jm,js,jq,jp,jk,jr];unfold atP Yu;simp only[PR.bd_assoc,PR.bd_ok];refine(yl u).bd ?_ λm O Q M g2 l2=>?_
  ·rintro⟨v,_⟩ k e a rfl i j;simp only[Zq i j,xY i j,jj];exact⟨_,rfl,rfl⟩
  refine(yk g2 [91]).bd ?_ λ_ t2 X _ K U=>?_
  ·rintro _ k e a rfl i j;simp only[Zq i j,xY i j,jj,id];exact⟨_,rfl,rfl⟩
  refine(wN K).bd ?_ λt t3 k3 _ R l4=>?_
  ·rintro⟨v,_⟩ k e a rfl i j;simp only[Zq i j,xY i j,jj,id];exact⟨_,rfl,rfl⟩
  refine(yk R [93]).bd ?_ λ_ t5 k5 _ g5 l5=>?_
  ·rintro _ k e a rfl i j;simp only[Zq i j,xY i j,jj,id];exact⟨_,rfl,rfl⟩
  refine RS.mono (n:=t5.length - 1) ?_ Zc;have:=zau (d:=d) g5 ⟨14,m.T_,1 * t.n_,(hd ts).a_,nilS⟩;rw[yu,wO] at this;rw[wO];exact this
 by_cases Y:F=lit [105,102]
 ·obtain⟨u,N⟩:=L _ ⟨105,je,rfl⟩ Y;subst Y;simp (decide:=true) only [Z8,l,gh,jj,jo,jm,js,jq,jp,jk,jr];refine(zlY hb u 15 (hd ts).a_).bdq ?_ λm O Q M g2 l2=>?_
  ·rintro⟨v,p,q,w⟩ k e a hm hp i j;have S:=zlX hm;simp only[pkR,D.injEq] at hp;obtain⟨rfl,rfl⟩:=hp;obtain⟨wl,wb⟩:=w;simp only[yv i j,jj,jk,jp];rw[Yv jE];exact⟨_,rfl,rfl⟩
  obtain⟨x,y,z,i⟩:=zdP M;simp only[ndR,i,yt];refine Yk g2 (λP K U=>?_) λP=>?_
  ·simp only[jq,gh,jj];refine(hb.g K).bd ?_ λb t2 X eb R l4 =>.ok R Zc ?_
   ·rintro⟨v,p,q,w⟩ k e a hp hk2 j;simp only[pkR,D.injEq] at hp;obtain⟨rfl,rfl⟩:=hp;rw[Yv je];exact⟨_,rfl,rfl⟩
   ·simp only[ndR,i,yt,ndT];rw[Yv je];simp only[jj,jo,UF,H,DA,I,Dp];rw[yp b,yt]
  ·simp only[jk,jp,jj];rw[Yv je];refine .ok g2 Zc ?_;simp only[ndR,i,yt,ndT,jj,jo,UF,H,DA,I,Dp,Xr]
 by_cases P:F=lit [119,104,105,108,101]
 ·obtain⟨u,N⟩:=L _ ⟨119,je,rfl⟩ P;subst P;simp (decide:=true) only [Z8,l,gh,jj,jo,jm,js,jq,jp,jk,jr];rw[show((q21 h (16,(hd ts).a_,(((k+1:Nat):Int),d,0,0),T)).bind λy=>o (y.1,y.2.1,y.2.2.1,y.2.2.2))=q21 h (16,(hd ts).a_,(((k+1:Nat):Int),d,0,0),T) from G _];exact(zlY hb u 16 (hd ts).a_).mono Zc
 by_cases h6:F=lit [114,101,116,117,114,110]
 ·obtain⟨u,N⟩:=L _ ⟨114,je,rfl⟩ h6;subst h6;simp (decide:=true) only [Z8,l,gh,jj,jo,jm,js,jq,jp,jk,jr,zdT u];cases V:isP [59] ts.tail with
  |true=>
   simp only[Do,jk,jp,jq,jj,jm];have:=zau (d:=d) u ⟨17,lit [],0,(hd ts).a_,nilS⟩;rw[yu] at this;exact this.mono Zc
  |false=>
   simp only[D6,jk,jp,jq,gh,jj,jm];refine(Wy u).bd ?_ λx t2 X _ K U=>?_
   ·rintro⟨v,_⟩ k e a rfl i j;simp only[Zq i j,jj];exact⟨_,rfl,rfl⟩
   have:=zau (d:=d) K ⟨17,lit [],0,(hd ts).a_,⟨[x],A⟩⟩;rw[Wz] at this;simp only[zj];exact this.mono Zc
 by_cases V:F=lit [97,98,111,114,116]
 ·obtain⟨u,N⟩:=L _ ⟨97,je,rfl⟩ V;subst V;simp (decide:=true) only [Z8,l,gh,jj,jo,jm,js,jq,jp,jk,jr];have:=zau (d:=d) u ⟨18,lit [],0,(hd ts).a_,nilS⟩;rw[yu] at this;exact this.mono Zc
 by_cases Z:F=lit [102,111,114,107]
 ·obtain⟨u,N⟩:=L _ ⟨102,je,rfl⟩ Z;subst Z;simp (decide:=true) only [Z8,l,gh,jj,jo,jm,js,jq,jp,jk,jr];refine(yl u).bd ?_ λm O Q M g2 l2=>?_
  ·rintro⟨v,_⟩ k e a rfl i j;obtain⟨w,W⟩:=zyQ (d:=d) (a:=a) i j;simp only[W,Zq i j,jj];exact⟨_,rfl,rfl⟩
  refine(zlU g2).bd ?_ λks t2 X _ K U=>?_
  ·rintro⟨p,q,w⟩ k e a hp i j;simp only[D.injEq] at hp;obtain⟨rfl,rfl⟩:=hp;simp only[Zq i j,jj];exact⟨_,rfl,rfl⟩
  refine RS.mono (n:=t2.length - 1) ?_ Zc;obtain⟨t,t',_,e3⟩:=bd_ok M;have:=zau (d:=d) K ⟨19,m.T_,m.n_,(hd ts).a_,ks⟩;cases e3;exact this
 simp only[h1,h2,S,Y,P,h6,V,Z,gh,jj,jr,jp,jk];rw[<- PR.bd_assoc];refine(zxb g).bd ?_ λm O Q M g2 l2=>?_
 ·rintro⟨v,p,q,w⟩ k e a hp i j;simp only[pkR,D.injEq] at hp;obtain⟨rfl,rfl⟩:=hp;simp only[Zq i j,jj,jm];exact⟨_,rfl,rfl⟩
 have:=zau (d:=d) g2 m;simp only[jm];exact this.mono Zc
end
end
section
section
variable {T:Sl RTk}{d e a:Int}{k n:Nat}{ts:List Tk}
variable {h:zlV}{blk:List Tk->PR Nd}
theorem xJ{acc:List Nd}{x:RNd}(h:acc.length<=30000):zo 64 (rS (mkS acc)) [x]=o ⟨acc.map rN++[x],A⟩:=by
 rw[yt,yy (by simp[mkS];omega) (by simp[mkS];omega)];simp[mkS]
theorem zgT(acc:List Nd)(x:Nd):(⟨acc.map rN++[rN x],A⟩:Sl RNd)=rS (mkS (acc++[x])):=by
 rw[yt];simp[mkS]
noncomputable abbrev zdU(h:zlV):=q4h q1t q19 q12 q10 (q36 h)
theorem zav(b:e≠0)(p:Int)(u v:Int×U0×Int×Int)(acc:Sl RNd):lpO (zdU h) ((p,d,e,a),T,u,v,acc)=o ((p,d,e,a),T,u,v,acc):=
 zw (by unfold zdU q4h;grind)
theorem zrX (hb:BlkR T d h blk) {u v:Int×U0×Int×Int}:∀(j:Nat) (ts:List Tk) (k:Nat) (acc:List Nd),GK T k ts->ts.length<=j->acc.length+ts.length<=30000->
    RS T d (ts.length - 1) (xI (Y1 blk) j acc ts) (lpO (zdU h) (((k:Int),d,0,0),T,u,v,rS (mkS acc))) (λl st=>(st.1,st.2,u,v,rS (mkS l))) (λb=>(b.1,b.2.1))
 |0,ts,k,acc,g,hj,ha=>absurd (UQ Zc) g.g.ne
 |j+1,ts,k,acc,g,hj,ha=>by
  unfold xI;cases h2:isP [125] ts with
  |true=>
   obtain⟨i,O⟩:=g.is h2;rw[zw (y:=((((k+1:Nat):Int),d,0,0),T,u,v,rS (mkS acc))) (by unfold zdU q4h;simp only[xi g,h2,jj,js,jq])];exact .ok i Zc rfl
  |false=>
   simp only[jk,jp];have hs:=zyT hb g;cases es:Y1 blk ts with
   |error er=>
    rw[es] at hs;obtain⟨⟨w,p,q,ks⟩,c,s,hp,P,L⟩:=hs;simp only[pkR,D.injEq] at hp;obtain⟨rfl,N⟩:=hp;obtain rfl:T=q:=N.symm;have F:zdU h (((k:Int),d,0,0),T,u,v,rS (mkS acc))=o (.next (((c:Int),d,er.2,er.1),T,u,v,⟨acc.map rN++[⟨w.1,w.2.1,w.2.2.1,w.2.2.2,ks⟩],A⟩)):=by
     unfold zdU q4h;simp only[xi g,h2,jj,js,jq,jk,jp,s];rw[xJ (acc:=acc) Zc];rfl
    rw[zA F,zav L];exact⟨_,c,rfl,rfl,P,L⟩
   |ok p=>
    obtain⟨x,M⟩:=p;rw[es] at hs;obtain⟨c,s,i,O⟩:=hs;have F:zdU h (((k:Int),d,0,0),T,u,v,rS (mkS acc))=o (.next (((c:Int),d,0,0),T,u,v,rS (mkS (acc++[x])))):=by
     unfold zdU q4h;simp only[xi g,h2,jj,js,jq,jk,jp,s,ndR,ndT];rw[xJ (acc:=acc) jE,show q6.mk x.k_ x.T_ x.n_ x.a_ (rS x.K_)=rN x from(yp x).symm,zgT];rfl
    have K:=DE.2 g.g.ne;rw[zA F];exact(zrX hb j M c (acc++[x]) i Zc ji).mono Zc
theorem znF:∀(r:Nat) (j:Nat) (d:Int),d=8 - (r:Int)->0<=d->r+1<=j->BlkR T d (q4g j) (yj r)
 |r,0,d,_,_,K=>Zc
 |0,j+1,d,hd',h0,K=>by
  refine⟨λ{ts k} g=>?_,λ{k e a} h1 h2=>znD h1 h2 Zc j⟩;show RS T d _ _ (q2l _ _ _ _ _ _) _ _;unfold q2l yj;simp only[g.idx,zdT g,jj,toR];have i:U4 (d+1)=d+1:=zE Zc Zc;have c:U4 (d+1 - 1)=d:=by rw[zE Zc Zc];omega
  cases e:isP [123] ts with
  |true=>
   have:decide (8<=d)=true:=gm Zc;simp only[jq,jj,this,V3 g,Zq g.lt (jI:(21:Int)≠0)];rw[zav jI];simp only[jj,i,c];exact⟨_,k,rfl,rfl,g.lt,by simp[xW]⟩
  |false=>
   simp only[jk,jp,jj];have S:zX [123] ts = .error ((hd ts).a_,20):=by unfold zX;rw[e];rfl
   have:=yk (d:=d) g [123];rw[S] at this;obtain⟨b,M,L,rfl,N,x⟩:=this;rw[L];simp only[jj,id];rw[zav x];simp only[jj,i,c];exact⟨_,M,rfl,rfl,N,x⟩
 |r+1,j+1,d,hd',h0,K=>by
  refine⟨λ{ts k} g=>?_,λ{k e a} h1 h2=>znD h1 h2 Zc j⟩;show RS T d _ _ (q2l _ _ _ _ _ _) _ _;unfold q2l yj;simp only[g.idx,zdT g,jj,toR];have i:U4 (d+1)=d+1:=zE Zc Zc;have c:U4 (d+1 - 1)=d:=by rw[zE Zc Zc];omega
  have W:decide (8<=d)=false:=decide_eq_false Zc;have hb:=znF r j (d+1) Zc Zc Zc;have P:=g.b;have L:(if isP [123] ts=A then o (decide (8<=d),((k:Int),d,(0:Int),(0:Int)),T,((0,lit [],0,0):Int×U0×Int×Int),((9,lit [],0,(hd ts).a_):Int×U0×Int×Int)) else o (B,((k:Int),d,0,0),T,(0,lit [],0,0),(9,lit [],0,(hd ts).a_)))=o (B,((k:Int),d,0,0),T,(0,lit [],0,0),(9,lit [],0,(hd ts).a_)):=by
   grind
  rw[L];simp only[jj,jk,jp];refine(yk g [123]).bd ?_ λ_ y M _ Q V=>?_
  ·rintro _ k e a rfl K R;simp only[id];rw[zav R];simp only[jj,i,c];exact⟨_,rfl,rfl⟩
  simp only[i];have s:=zrX hb (u:=(0,lit [],0,0)) (v:=(9,lit [],0,(hd ts).a_)) y.length y M [] Q (UK _) jE;rw[show rS (mkS ([]:List Nd))=⟨[],B⟩ by rw[yt];rfl] at s;cases es:xI (Y1 (yj r)) y.length [] y with
  |error er=>
   rw[es] at s;obtain⟨⟨p,q,w⟩,O,F,hp,N,x⟩:=s;simp only[D.injEq] at hp;obtain⟨rfl,U⟩:=hp;obtain rfl:T=q:=U.symm;rw[F];simp only[jj,c];exact⟨_,O,rfl,rfl,N,x⟩
  |ok p=>
   obtain⟨l,t2⟩:=p;rw[es] at s;obtain⟨O,F,g2,l2⟩:=s;rw[F];simp only[jj,c];exact .ok g2 Zc rfl
theorem zgU:BlkR T 0 q5w (yj 8):=znF 8 100000 0 Zc Zc Zc
end
end
section
section
variable {T:Sl RTk}{d e a:Int}{k n:Nat}{ts:List Tk}{z hdr:Int×U0×Int×Int}
abbrev LSt:=(Int×Int×Int×Int)×Sl RTk×(Int×U0×Int×Int)×(Int×U0×Int×Int)×Sl RNd
def LQ(T:Sl RTk)(d:Int)(n:Nat)(r:PR (List Nd))(m:U3 LSt)(z hdr:Int×U0×Int×Int):Prop:=match r with
 | .error e=>∃(k:Nat) (w:Sl RNd),m=o (((k:Int),d,e.2,e.1),T,z,hdr,w)/\k < T.xs.length/\e.2≠0/\w.xs.length<=30001
 | .ok (l,ts)=>∃k:Nat,m=o (((k:Int),d,0,0),T,z,hdr,rS (mkS l))/\GK T k ts/\ts.length<=n/\l.length+ts.length<=30001
theorem LQ.bd {r:PR (List Nd)}{f:List Nd->List Tk->PR γ}{m:U3 LSt}{K:LSt->U3 δ}{i:γ->PS->δ}{b:δ->PS}(h:LQ T d n r m z hdr)
    (hb:∀(k:Nat) (e a:Int) (w:Sl RNd),k < T.xs.length->e≠0->w.xs.length<=30001->∃c,K (((k:Int),d,e,a),T,z,hdr,w)=o c/\b c=(((k:Int),d,e,a),T))
    (j:∀l ts (k:Nat),r = .ok (l,ts)->GK T k ts->ts.length<=n->l.length+ts.length<=30001->RS T d n' (f l ts) (K (((k:Int),d,0,0),T,z,hdr,rS (mkS l))) i b):RS T d n' (r.bd f) (m.bind K) i b:=by
 cases r with
 |error e=>
  obtain⟨k,w,rfl,h1,h2,u⟩:=h;obtain⟨c,q,v⟩:=hb k _ _ w h1 h2 u;exact⟨c,k,q,v,h1,h2⟩
 |ok p=>
  obtain⟨l,ts⟩:=p;obtain⟨k,rfl,g,s,l2⟩:=h;exact j l ts k rfl g s l2
theorem LQ.mono{r:PR (List Nd)}{m:U3 LSt}(h:LQ T d n r m z hdr)(l:n<=n'):LQ T d n' r m z hdr:=by
 cases r with
 |error e=>exact h
 |ok p=>obtain⟨k,h1,h2,c,b⟩:=h;exact⟨k,h1,h2,UM c l,b⟩
def zpw(T:Sl RTk)(d:Int)(one:List Tk->PR Nd)(f:PS->U3 (RNd×PS)):Prop:=∀{ts k},GK T k ts->RS T d (ts.length - 1) (one ts) (f (((k:Int),d,0,0),T)) (λn st=>(rN n,st)) E
noncomputable def zgV(st:PS):U3 (RNd×PS):=(q15 st).bind λb=>(q12 (lit [58],b.2)).bind λg=>(q3j g).bind λc=>
 o (q6.mk 7 b.1.2.1 b.1.2.2.1 b.1.2.2.2 (C [c.1] A),c.2)
theorem zxc:zpw T d xH zgV:=by
 intro ts k g;unfold zgV xH;refine(yl g).bd ?_ λm u y K j F=>?_
 ·rintro⟨v,_⟩ k e a rfl b c;obtain⟨w,i⟩:=zlT (d:=d) (a:=a) b c;simp only[Zq b c,i,jj];grind
 refine(yk j [58]).bd ?_ λ_ t2 q _ g2 l2=>?_
 ·rintro _ k e a rfl b c;obtain⟨w,i⟩:=zlT (d:=d) (a:=a) b c;grind
 refine(zrW g2).bd ?_ λx t3 p _ l s =>.ok l Zc ?_
 ·grind
 ·rw[Xr,Wz];rfl
noncomputable abbrev V4:=qbl q15 q12 q10 q3j q1t q19 q5w
noncomputable def zep(f:PS->U3 (RNd×PS))(cl:U0)(fl:Bool->Bool)(x:PS)(z hdr:Int×U0×Int×Int)(w:Sl RNd):U3 (Step (Bool×LSt) LSt):=
 (f x).bind λy=>(zo 64 w [y.1]).bind λw'=>(q10 (lit [44],y.2)).bind λb=>
  (if(!b.1)=A then(q12 (cl,b.2)).bind λc=>o (fl b.1,c.1,c.2,z,hdr,w') else o (fl b.1,b.2.1,b.2.2,z,hdr,w')).bind λg=>o (Step.next g)
theorem zdV {f:PS->U3 (RNd×PS)}(R:zpw T d one f) {cl:List UInt8}{fl:Bool->Bool}{body:Bool×LSt->U3 (Step (Bool×LSt) LSt)}
    (h1:∀(k:Nat) w,body (fl A,((k:Int),d,0,0),T,z,hdr,w)=zep f (lit cl) fl (((k:Int),d,0,0),T) z hdr w)
    (h0:∀(p:Int×Int×Int×Int) w,body (fl B,p,T,z,hdr,w)=o (.done (p,T,z,hdr,w))):∀(j:Nat) (ts:List Tk) (k:Nat) (acc:List Nd),GK T k ts->ts.length<=j->acc.length+ts.length<=30000->
    LQ T d (ts.length - 1) ((one ts).bd λa q=>(Zt one j (acc++[a]) q).bd λl t2=>(zX cl t2).bd λ_ t3 =>.ok (l,t3)) (lpO body (fl A,((k:Int),d,0,0),T,z,hdr,rS (mkS acc))) z hdr
 |0,ts,k,acc,g,hj,ha=>absurd (UQ Zc) g.g.ne
 |j+1,ts,k,acc,g,hj,ha=>by
  have Q:=DE.2 g.g.ne;have F:=R g;have hb:=h1 k (rS (mkS acc));unfold zep at hb;cases e:one ts with
  |error er=>
   rw[e] at F;obtain⟨⟨v,_⟩,N,M,rfl,s,i⟩:=F;rw[M] at hb;simp only[jj] at hb;rw[xJ (acc:=acc) Zc] at hb;simp only[jj,yv s i,D6,jq,Zq s i] at hb;rw[zA hb,zw (h0 _ _)];exact⟨N,_,rfl,s,i,ji⟩
  |ok p=>
   obtain⟨x,q⟩:=p;rw[e] at F;obtain⟨N,M,y,U⟩:=F;rw[M] at hb;simp only[jj] at hb;rw[xJ (acc:=acc) Zc,zgT] at hb;simp only[jj,xi y] at hb;rw[PR.bd_ok];unfold Zt;have L:=DE.2 y.g.ne;cases c:isP [44] q with
   |true=>
    obtain⟨g2,l2⟩:=y.is c;rw[c] at hb;simp only[Do,jk,jp,jq,jj] at hb;rw[zA hb];simp only[jq,PR.bd_assoc];exact(zdV R h1 h0 j q.tail (N+1) (acc++[x]) g2 Zc ji).mono Zc
   |false=>
    rw[c] at hb;simp only[D6,jk,jp,jq,jj] at hb;simp only[jk,jp,PR.bd_ok];have K:=yk (d:=d) y cl;cases S:zX cl q with
    |error er=>
     rw[S] at K;obtain⟨b,O,P,hp,s,i⟩:=K;simp only[id] at hp;subst hp;rw[P] at hb;simp only[jj] at hb;rw[zA hb,zw (h0 _ _)];exact⟨O,_,rfl,s,i,by rw[yt];simp[mkS];omega⟩
    |ok p=>
     obtain⟨u,t2⟩:=p;rw[S] at K;obtain⟨O,P,g2,l2⟩:=K;rw[P] at hb;simp only[jj] at hb;rw[zA hb,zw (h0 _ _)];exact⟨O,rfl,g2,Zc,ji⟩
theorem zud(k:Nat)(w:Sl RNd):V4 (B,((k:Int),d,0,0),T,z,hdr,w)=zep zgV (lit [41]) (λb=> !b) (((k:Int),d,0,0),T) z hdr w:=by
 unfold V4 qbl zep zgV;simp only[D6,jq,js,jj,gh,zj];congr 1;funext y5;grind
theorem zlZ(p:Int×Int×Int×Int)(w:Sl RNd):V4 (A,p,T,z,hdr,w)=o (.done (p,T,z,hdr,w)):=rfl
end
end
section
section
variable {T:Sl RTk}{d e a:Int}{k n:Nat}{ts:List Tk}{z hdr:Int×U0×Int×Int}
theorem PR.bd_ite{c:Prop}[Decidable c]{p q:PR α}:PR.bd (if c then p else q) f=if c then p.bd f else q.bd f:=by split<;>rfl
theorem zl0:rS (mkS ([]:List Nd))=⟨[],B⟩:=by rw[yt];rfl
theorem zrY{w:Sl RNd}{x:RNd}(h:w.xs.length<=40000):∃w',zo 64 w [x]=o w'/\w'.xs.length=w.xs.length+1:=by
 rw[yy ji ji];grind
theorem znG(b:e≠0)(p:Int)(w:Sl RNd):lpO V4 (B,(p,d,e,a),T,z,hdr,w)=o ((p,d,e,a),T,z,hdr,w):=
 zw (by unfold V4 qbl;grind)
theorem zue (g:GK T k ts) (l:ts.length<=25000):LQ T d ts.length ((if isP [41] ts=A then .ok ([],ts) else yb xH ts:PR (List Nd)).bd λps t3=>(zX [41] t3).bd λ_ t4 =>.ok (ps,t4))
    ((q10 (lit [41],((k:Int),d,0,0),T)).bind λc=>lpO V4 (c.1,c.2.1,c.2.2,z,hdr,C [] B)) z hdr:=by
 rw[xi g,jj];cases h:isP [41] ts with
 |true=>
  obtain⟨i,p⟩:=g.is h;have j:zX [41] ts = .ok ((),ts.tail):=by unfold zX;rw[jv h]
  simp only[jq,PR.bd_ok,j];rw[zw (zlZ _ _)];exact⟨k+1,by rw[zl0],i,Zc,ji⟩
 |false=>
  simp only[jk,jp];unfold yb;rw[PR.bd_assoc,<- zl0];exact(zdV (fl:=λb=> !b) (body:=V4) (z:=z) (hdr:=hdr) zxc zud zlZ ts.length ts k [] g (UK _) ji).mono Zc
def zl1(t4:List Tk):PR Nd:=if isP [45,62] t4=A then(if isP [38] t4.tail=A then xW 20 t4.tail else Wx t4.tail) else .ok (⟨8,lit [],0,(hd t4).a_,nilS⟩,t4)
theorem zrZ (c:Int) (ts:List Tk):fnP c ts=(Zb ts).bd λn i=>(zX [40] i).bd λ_ t2=>
    ((if isP [41] t2=A then .ok ([],t2) else yb xH t2:PR (List Nd)).bd λps t3=>(zX [41] t3).bd λ_ t4 =>.ok (ps,t4)).bd λps t4=>
    (zl1 t4).bd λret t5=>(yj 8 t5).bd λb g =>.ok (⟨6,n.T_,n.n_,c,⟨ps++[ret,b],A⟩⟩,g):=by
 unfold fnP zl1;simp only[PR.bd_assoc,PR.bd_ok]
theorem zBe(g:GK T k ts)(hl:ts.length<=25000)(K:Int):RS T 0 (ts.length - 1) (fnP K ts) (q7c (K,((k:Int),0,0,0),T)) ndR pkR:=by
 unfold q7c qe8;rw[zrZ]
 have tl:∀{k:Nat} {e a:Int} {w:Sl RNd} {z hdr:Int×U0×Int×Int},k < T.xs.length->e≠0->w.xs.length<=30001->∃c,((za T (k:Int)).bind λy13=>(za T (k:Int)).bind λP=>(q10 (lit [45,62],((k:Int),0,e,a),T)).bind λF=>
     (if F.1=A then(q1t (lit [38],F.2)).bind λy=>(if y.1=A then(q19 (20,y.2)).bind λQ=>o (Q.1,Q.2,z,hdr,((8,lit [],0,P.a_):Int×U0×Int×Int),w) else o (y.2.1,y.2.2,z,hdr,(8,lit [],0,P.a_),w)).bind λs=>
       (q3j (s.1,s.2.1)).bind λM=>o (M.2.1,M.2.2,s.2.2.1,s.2.2.2.1,kr M.1,s.2.2.2.2.2)
     else o (F.2.1,F.2.2,z,hdr,q6.mk 8 (lit []) 0 P.a_ (C [] B),w)).bind λu=>
     (q5w (u.1,u.2.1)).bind λi=>(zo 64 u.2.2.2.2.2 [kr u.2.2.2.2.1]).bind λO=>
     (zo 64 O [q6.mk i.1.1 i.1.2.1 i.1.2.2.1 i.1.2.2.2 i.2.2.2]).bind λN=>o (u.2.2.2.1,i.2.1,i.2.2.1,N))=o c/\pkR c=(((k:Int),0,e,a),T):=by
  intro k e a w z hdr l j W;obtain⟨t,ht⟩:=zcz l;obtain⟨v2,U,hb⟩:=zgU.b (a:=a) l j;simp only[ht,yv l j,hb,jj,jk,jp];obtain⟨w3,e3,l3⟩:=zrY (w:=w) (x:=q6.mk 8 (lit []) 0 t.a_ (C [] B)) Zc;obtain⟨w4,e4,l4⟩:=zrY (w:=w3) (x:=q6.mk v2.1 v2.2.1 v2.2.2.1 v2.2.2.2 U) Zc;simp only[e3,e4,jj];exact⟨_,rfl,rfl⟩
 refine(yl g).bd ?_ λm t1 k1 em g1 l1=>?_
 ·rintro⟨v,_⟩ k e a rfl l j;simp only[Zq l j,yv l j,jj];rw[znG j];simp only[jj];exact tl l j je
 refine(yk g1 [40]).bd ?_ λ_ t2 k2 _ g2 l2=>?_
 ·rintro _ k e a rfl l j;simp only[yv l j,jj,id];rw[znG j];simp only[jj];exact tl l j je
 rw[<- gh];refine(zue g2 Zc).bd ?_ λps t4 k4 _ R l4 l4b=>?_
 ·intro k e a w l j W;exact tl l j W
 have X:=DE.2 R.g.ne;simp only[R.idx,jj,toR]
 have fin:∀{t5:List Tk} {S:Nat} (ret:Nd),GK T S t5->t5.length<=t4.length->RS T 0 (ts.length - 1) ((yj 8 t5).bd λb Y =>.ok (⟨6,m.T_,m.n_,K,⟨ps++[ret,b],A⟩⟩,Y))
     ((q5w (((S:Int),0,0,0),T)).bind λi=>(zo 64 (rS (mkS ps)) [rN ret]).bind λO=>
     (zo 64 O [q6.mk i.1.1 i.1.2.1 i.1.2.2.1 i.1.2.2.2 i.2.2.2]).bind λN=>o (((6,m.T_,m.n_,K):Int×U0×Int×Int),i.2.1,i.2.2.1,N)) ndR pkR:=by
  intro t5 S ret L l5;rw[xJ (acc:=ps) Zc];refine(zgU.g L).bd ?_ λb Y k6 _ V l6 =>.ok V Zc ?_
  ·rintro⟨v,p,q,w⟩ k e a hp l j;simp only[pkR,D.injEq] at hp;obtain⟨rfl,rfl⟩:=hp;simp only[jj];rw[Yv ji];exact⟨_,rfl,rfl⟩
  ·simp only[jj,ndR,ndT];rw[Yv ji,show q6.mk b.k_ b.T_ b.n_ b.a_ (rS b.K_)=rN b from(yp b).symm,yt];simp
 unfold zl1;rw[PR.bd_ite];refine Yk R (λZ L l5=>?_) λZ=>?_
 · simp only[jq,zdT L,jj];cases h6:isP [38] t4.tail with
   |true=>
    simp only[jq,V3 L,jj];obtain⟨v,hv⟩:=zlT (d:=0) (a:=(hd t4.tail).a_) L.lt (jI:(20:Int)≠0);obtain⟨v2,U,hb⟩:=zgU.b (a:=(hd t4.tail).a_) L.lt (jI:(20:Int)≠0);simp only[hv,hb,jj,zj];rw[xJ (acc:=ps) Zc];simp only[jj];rw[Yv ji];exact⟨_,_,rfl,rfl,L.lt,by simp[xW]⟩
   |false=>
    simp only[jk,jp,jj,gh];refine(zrW L).bd ?_ λret t5 S _ V l6=>?_
    ·rintro⟨v,_⟩ k e a rfl l j;obtain⟨v2,U,hb⟩:=zgU.b (a:=a) l j;simp only[hb,jj,zj];rw[xJ (acc:=ps) Zc];simp only[jj];rw[Yv ji];exact⟨_,rfl,rfl⟩
    ·simp only[zj];exact fin ret V Zc
 ·simp only[jk,jp,jj];rw[show q6.mk 8 (lit []) 0 (hd t4).a_ (C [] B)=rN ⟨8,lit [],0,(hd t4).a_,nilS⟩ by rw[Xr,yu]];simp only[zj,PR.bd_ok];exact fin _ R Zc
end
end
section
section
variable {T:Sl RTk}{d e a:Int}{k n:Nat}{ts:List Tk}{z hdr:Int×U0×Int×Int}
theorem zyU(g:GK T k ts):RS T d (ts.length - 1) (vo ts) (q4c (((k:Int),d,0,0),T)) (λn st=>(rN n,st)) E:=by
 unfold q4c q9y vo;simp only[g.idx,jj,toR];refine Yk g (λh l P=>?_) λh=>?_
 ·simp only[jq];exact .ok l Zc (by rw[Xr,yu])
 simp only[jk,jp];refine Yk g (λh l P=>?_) λh=>?_
 ·simp only[jq];exact .ok l Zc (by rw[Xr,yu])
 simp only[jk,jp];have no:∀(i:Int) (s:List UInt8) (z q:Int×U0×Int×Int),za (⟨[lit [99,111,117,110,116,101,100],lit [108,111,99,107],lit [103,117,97,114,100]],A⟩:Sl U0) i=o (lit s)->0<=i->i < 3->isP s ts=B->q42 q10 q15 q19 (i,((k:Int),d,0,0),T,z,q,C [lit [99,111,117,110,116,101,100],lit [108,111,99,107],lit [103,117,97,114,100]] A)=o (.next (i+1,((k:Int),d,0,0),T,z,q,C [lit [99,111,117,110,116,101,100],lit [108,111,99,107],lit [103,117,97,114,100]] A)):=by
  intro i s z q hs h0 x hi;unfold q42;simp only[hs,xi g,hi,jj,jk,jp];rw[jv (by simp[Sl.len];omega),zE Zc Zc]
 have yes:∀(i:Int) (s:List UInt8),za (⟨[lit [99,111,117,110,116,101,100],lit [108,111,99,107],lit [103,117,97,114,100]],A⟩:Sl U0) i=o (lit s)->0<=i->i < 3->isP s ts=A->
     RS T d (ts.length - 1) ((Zb ts.tail).bd λk N =>.ok (⟨2,(hd ts).T_,0,(hd ts).a_,⟨[k],A⟩⟩,N)) ((lpO (q42 q10 q15 q19) (i,((k:Int),d,0,0),T,((0,lit [],0,0):Int×U0×Int×Int),(2,(hd ts).T_,0,(hd ts).a_),C [lit [99,111,117,110,116,101,100],lit [108,111,99,107],lit [103,117,97,114,100]] A)).bind λF=>
      Sum.elim (λb=>o (q6.mk b.2.2.1.1 b.2.2.1.2.1 b.2.2.1.2.2.1 b.2.2.1.2.2.2 b.2.2.2,b.1,b.2.1)) (λc=>(q19 (20,c.1,c.2.1)).bind λL=>o (q6.mk c.2.2.2.1 c.2.2.2.2.1 c.2.2.2.2.2.1 c.2.2.2.2.2.2 (C [] B),L)) F) (λn st=>(rN n,st)) E:=by
  intro i s hs h0 x hi;obtain⟨l,P⟩:=g.is hi
  have hb:q42 q10 q15 q19 (i,((k:Int),d,0,0),T,(0,lit [],0,0),(2,(hd ts).T_,0,(hd ts).a_),C [lit [99,111,117,110,116,101,100],lit [108,111,99,107],lit [103,117,97,114,100]] A) =
      (q15 ((((k+1:Nat):Int),d,0,0),T)).bind λj=>o (.done (.inl (j.2.1,j.2.2,(2,(hd ts).T_,0,(hd ts).a_),C [q6.mk j.1.1 j.1.2.1 j.1.2.2.1 j.1.2.2.2 (C [] B)] A))):=by
   unfold q42;simp only[hs,xi g,hi,jj,jq];rw[jv (by simp[Sl.len];omega)]
  have w:=yl (d:=d) l;cases e:Zb ts.tail with
  |error er=>
   rw[e] at w;obtain⟨⟨v,_⟩,O,K,rfl,u,Q⟩:=w;rw[K,jj] at hb;rw[zw hb];exact⟨_,O,rfl,rfl,u,Q⟩
  |ok p=>
   obtain⟨m,N⟩:=p;rw[e] at w;obtain⟨O,K,g2,l2⟩:=w;rw[K,jj] at hb;rw[zw hb];refine .ok g2 Zc ?_;simp only[jj,jo];rw[X5 m (zP e),Xr,Wz]
 cases x:isP [99,111,117,110,116,101,100] ts with
 |true=>exact yes 0 _ rfl Zc Zc x
 |false=>
 rw[zA (no 0 _ _ _ rfl Zc Zc x)];simp only[jk,jp];cases M:isP [108,111,99,107] ts with
 |true=>exact yes (0+1) _ rfl Zc Zc M
 |false=>
 rw[zA (no (0+1) _ _ _ rfl Zc Zc M)];simp only[jk,jp];cases u:isP [103,117,97,114,100] ts with
 |true=>exact yes (0+1+1) _ rfl Zc Zc u
 |false=>
 rw[zA (no (0+1+1) _ _ _ rfl Zc Zc u),zw (y :=.inr (((k:Int),d,0,0),T,_,_)) rfl];simp only[jk,jp,jj,jm,V3 g];exact⟨_,k,rfl,rfl,g.lt,by simp[xW]⟩
noncomputable def zeq(f:PS->U3 ((Int×U0×Int×Int)×(Int×Int×Int×Int)×Sl RTk×Sl RNd))(st:PS):U3 (RNd×PS):=
 (f st).bind λy=>o (q6.mk y.1.1 y.1.2.1 y.1.2.2.1 y.1.2.2.2 y.2.2.2,y.2.1,y.2.2.1)
theorem zr0{f:PS->U3 ((Int×U0×Int×Int)×(Int×Int×Int×Int)×Sl RTk×Sl RNd)}(h:∀{ts k},GK T k ts->RS T d (ts.length - 1) (one ts) (f (((k:Int),d,0,0),T)) ndR pkR):zpw T d one (zeq f):=by
 intro ts k g;have b:=h g;unfold zeq;cases e:one ts with
 |error er=>
  rw[e] at b;obtain⟨⟨v,p,q,w⟩,i,c,hp,l,j⟩:=b;rw[c];exact⟨_,i,rfl,hp,l,j⟩
 |ok p=>
  obtain⟨m,s⟩:=p;rw[e] at b;obtain⟨i,c,g2,l2⟩:=b;rw[c];exact .ok g2 l2 (by simp only[jj,ndR,ndT];rw[yp])
theorem zxd(g:GK T k ts):RS T d (ts.length - 1) (xG ts) (q43 (((k:Int),d,0,0),T)) ndR pkR:=by
 unfold q43 qcm xG;refine(yl g).bd ?_ λm y F L i K=>?_
 ·rintro⟨v,_⟩ k e a rfl b c;simp only[yv b c,jj,jk,jp];exact⟨_,rfl,rfl⟩
 refine Yk i (λh g2 l2=>?_) λh=>?_
 ·simp only[jq,gh,jj];refine(yl g2).bd ?_ λx t3 q j p u=>?_
  ·rintro⟨v,_⟩ k e a rfl b c;simp only[Zq b c,jj];exact⟨_,rfl,rfl⟩
  refine(yk p [93]).bd ?_ λ_ t4 s _ l w =>.ok l Zc ?_
  ·rintro _ k e a rfl b c;exact⟨_,rfl,rfl⟩
  ·simp only[ndR,Wz];rw[X5 x (zP j)];rfl
 ·simp only[jk,jp,jj];exact .ok i Zc (by simp only[ndR,yu];rfl)
noncomputable abbrev Vt:=qdl q15 q4c q10 q43 q12 q20
noncomputable abbrev vb:=qdm q15 q4c q10 q43 q12 q20
theorem zAx(k:Nat)(w:Sl RNd):Vt (A,((k:Int),d,0,0),T,z,hdr,w)=zep (zeq q43) (lit [125]) (λb=>b) (((k:Int),d,0,0),T) z hdr w:=by
 unfold Vt qdl zep zeq;grind
theorem zpx(p:Int×Int×Int×Int)(w:Sl RNd):Vt (B,p,T,z,hdr,w)=o (.done (p,T,z,hdr,w)):=rfl
theorem zAy(p:Int×Int×Int×Int)(w:Sl RNd):vb (A,p,T,z,hdr,w)=(zeq q20 (p,T)).bind λy=>(zo 64 w [y.1]).bind λw'=>(q10 (lit [44],y.2)).bind λb=>o (.next (b.1,b.2.1,b.2.2,z,hdr,w')):=by
 unfold vb qdm zeq;grind
theorem zjn(p:Int×Int×Int×Int)(w:Sl RNd):vb (B,p,T,z,hdr,w)=o (.done (p,T,z,hdr,w)):=rfl
theorem zgW:∀(j:Nat) (ts:List Tk) (k:Nat) (acc:List Nd),GK T k ts->ts.length<=j->acc.length+ts.length<=30000->
    LQ T d (ts.length - 1) ((YI ts).bd λa i=>Zt YI j (acc++[a]) i) (lpO vb (A,((k:Int),d,0,0),T,z,hdr,rS (mkS acc))) z hdr
 |0,ts,k,acc,g,hj,ha=>absurd (UQ Zc) g.g.ne
 |j+1,ts,k,acc,g,hj,ha=>by
  have w:=DE.2 g.g.ne;have l:=zr0 (T:=T) (d:=d) (one:=YI) (f:=q20) (λg=>zrV g) g;have hb:=zAy (T:=T) (z:=z) (hdr:=hdr) ((k:Int),d,0,0) (rS (mkS acc));cases e:YI ts with
  |error er=>
   rw[e] at l;obtain⟨⟨v,_⟩,q,u,rfl,F,y⟩:=l;rw[u] at hb;simp only[jj] at hb;rw[xJ (acc:=acc) Zc] at hb;simp only[jj,yv F y] at hb;rw[zA hb,zw (zjn _ _)];exact⟨q,_,rfl,F,y,ji⟩
  |ok p=>
   obtain⟨x,i⟩:=p;rw[e] at l;obtain⟨q,u,c,K⟩:=l;rw[u] at hb;simp only[jj] at hb;rw[xJ (acc:=acc) Zc,zgT] at hb;simp only[jj,xi c] at hb;rw[PR.bd_ok];unfold Zt;have s:=DE.2 c.g.ne;cases b:isP [44] i with
   |true=>
    obtain⟨g2,l2⟩:=c.is b;rw[b] at hb;simp only[jq] at hb;rw[zA hb];simp only[jq];exact(zgW j i.tail (q+1) (acc++[x]) g2 Zc ji).mono Zc
   |false=>
    rw[b] at hb;simp only[jk,jp] at hb;simp only[jk,jp];rw[zA hb,zw (zjn _ _)];exact⟨q,rfl,c,Zc,ji⟩
end
end
section
section
variable {T:Sl RTk}{d e a:Int}{k n:Nat}{ts:List Tk}{z hdr:Int×U0×Int×Int}
theorem V5(p:List Nd):∀(j:Nat) (acc:List Nd) (ts:List Tk),Zt one j (p++acc) ts=(Zt one j acc ts).bd λl t =>.ok (p++l,t)
 |0,acc,ts=>rfl
 |j+1,acc,ts=>by
  unfold Zt;cases isP [44] ts with
  |false=>rfl
  |true=>
   simp only[jq,PR.bd_assoc];congr 1;funext a t;rw[Dc];exact V5 p j (acc++[a]) t
theorem zyV{l:List α}(h:l≠[]):mkS l=⟨l,A⟩:=by cases l;exact absurd rfl h;rfl
def vd(s:Nd)(t2:List Tk):PR (List Nd):=if isP [123] t2=A then(yb xG t2.tail).bd λl t3=>(zX [125] t3).bd λ_ t4 =>.ok ([s]++l,t4) else .ok ([s],t2)
def zbr(ks:List Nd)(t5:List Tk):PR (List Nd):=if isP [119,104,101,114,101] t5=A then(yb YI t5.tail).bd λl b =>.ok (ks++l,b) else .ok (ks,t5)
theorem zuf (g:GK T k ts) (j:ts.length<=25000) (s:Nd):LQ T d ts.length (vd s ts)
    ((q10 (lit [123],((k:Int),d,0,0),T)).bind λc=>lpO Vt (c.1,c.2.1,c.2.2,z,hdr,rS (mkS [s]))) z hdr:=by
 rw[xi g,jj];unfold vd;cases h:isP [123] ts with
 |true=>
  obtain⟨i,l⟩:=g.is h;simp only[jq];have:=zdV (d:=d) (fl:=λb=>b) (body:=Vt) (z:=z) (hdr:=hdr) (zr0 (one:=xG) (f:=q43) λg=>zxd g) zAx zpx ts.tail.length ts.tail (k+1) [s] i (UK _) ji;unfold yb;simp only[V5,PR.bd_assoc,PR.bd_ok] at this |-
  exact this.mono Zc
 |false=>
  simp only[jk,jp];rw[zw (zpx _ _)];exact⟨k,rfl,g,UK _,ji⟩
theorem zug (g:GK T k ts) (ks:List Nd) (i:ks.length+ts.length<=30000):LQ T d ts.length (zbr ks ts)
    ((q10 (lit [119,104,101,114,101],((k:Int),d,0,0),T)).bind λb=>lpO vb (b.1,b.2.1,b.2.2,z,hdr,rS (mkS ks))) z hdr:=by
 rw[xi g,jj];unfold zbr;cases h:isP [119,104,101,114,101] ts with
 |true=>
  obtain⟨c,j⟩:=g.is h;simp only[jq];have:=zgW (d:=d) (z:=z) (hdr:=hdr) ts.tail.length ts.tail (k+1) ks c (UK _) Zc;unfold yb;simp only[V5,PR.bd_assoc,PR.bd_ok] at this |-
  exact this.mono Zc
 |false=>
  simp only[jk,jp];rw[zw (zjn _ _)];exact⟨k,rfl,g,UK _,Zc⟩
theorem znH(b:Int)(ts:List Tk):zdN b ts=(Zb ts).bd λn i=>(vo i).bd λs t2=>(vd s t2).bd λks t5=>(zbr ks t5).bd λks c=>(zX [59] c).bd λ_ g =>.ok (⟨1,n.T_,n.n_,b,⟨ks,A⟩⟩,g):=rfl
theorem zr1{s:Nd}{ts:List Tk}{l:List Nd}(h:vd s ts = .ok (l,t)):l≠[]:=by
 unfold vd at h;split at h
 ·obtain⟨a,c,_,h⟩:=bd_ok h;obtain⟨b,t2,_,h⟩:=bd_ok h;cases h;simp
 grind
theorem zuh{ks:List Nd}{ts:List Tk}{l:List Nd}(b:ks≠[])(h:zbr ks ts = .ok (l,t)):l≠[]:=by
 unfold zbr at h;split at h
 ·obtain⟨a,c,_,h⟩:=bd_ok h;cases h;simp[b]
 grind
theorem zAz(g:GK T k ts)(hl:ts.length<=25000)(L:Int):RS T d (ts.length - 1) (zdN L ts) (q6s (L,((k:Int),d,0,0),T)) ndR pkR:=by
 unfold q6s qdn;rw[znH];have t2:∀{k:Nat} {e a:Int} {w:Sl RNd} {hdr:Int×U0×Int×Int},k < T.xs.length->e≠0->∃c,(q12 (lit [59],((k:Int),d,e,a),T)).bind (λi=>o (hdr,i.1,i.2,w))=o c/\pkR c=(((k:Int),d,e,a),T):=by
  intro k e a w hdr p q;rw[Zq p q];exact⟨_,rfl,rfl⟩
 have tl:∀{k:Nat} {e a:Int} {w:Sl RNd} {z hdr:Int×U0×Int×Int},k < T.xs.length->e≠0->∃c,((q10 (lit [119,104,101,114,101],((k:Int),d,e,a),T)).bind λy=>(lpO vb (y.1,y.2.1,y.2.2,z,hdr,w)).bind λb=>(q12 (lit [59],b.1,b.2.1)).bind λi=>o (b.2.2.2.1,i.1,i.2,b.2.2.2.2))=o c/\pkR c=(((k:Int),d,e,a),T):=by
  intro k e a w z hdr p q;rw[yv p q,jj,zw (zjn _ _),jj];exact t2 p q
 have M:∀{k:Nat} {e a:Int} {w:Sl RNd} {z hdr:Int×U0×Int×Int},k < T.xs.length->e≠0->∃c,((q10 (lit [123],((k:Int),d,e,a),T)).bind λO=>(lpO Vt (O.1,O.2.1,O.2.2,z,hdr,w)).bind λN=>(q10 (lit [119,104,101,114,101],N.1,N.2.1)).bind λy=>(lpO vb (y.1,y.2.1,y.2.2,N.2.2)).bind λb=>(q12 (lit [59],b.1,b.2.1)).bind λi=>o (b.2.2.2.1,i.1,i.2,b.2.2.2.2))=o c/\pkR c=(((k:Int),d,e,a),T):=by
  intro k e a w z hdr p q;rw[yv p q,jj,zw (zpx _ _),jj];exact tl p q
 refine(yl g).bd ?_ λm t1 k1 em W l1=>?_
 ·rintro⟨v,_⟩ k e a rfl p q;obtain⟨v2,U⟩:=zyR (d:=d) (a:=a) p q;simp only[U,jj];exact M p q
 refine(zyU W).bd ?_ λs t2' k2 es g2 l2=>?_
 ·rintro⟨v,_⟩ k e a rfl p q;exact M p q
 simp only[zj];rw[show(⟨[rN s],A⟩:Sl RNd)=rS (mkS [s]) by rw[yt];rfl,<- gh];refine(zuf g2 Zc s).bd ?_ λks t5 k5 F R l5 l5b=>?_
 ·intro k e a w p q hw;exact tl p q
 rw[<- gh];have S:=DE.2 R.g.ne;by_cases Q:ks.length+t5.length<=30000
 ·refine(zug R ks Q).bd ?_ λks2 t7 k7 Y Z l7 X=>?_
  ·intro k e a w p q hw;exact t2 p q
  refine(yk Z [59]).bd ?_ λ_ t8 k8 _ g8 l8 =>.ok g8 Zc ?_
  ·rintro _ k e a rfl p q;exact⟨_,rfl,rfl⟩
  ·rw[zyV (zuh (zr1 F) Y)];rfl
 ·exfalso;have:∀(j:Nat) (acc:List Nd) (t:List Tk) (l:List Nd) (t3:List Tk),Zt xG j acc t = .ok (l,t3)->l.length+t3.length<=acc.length+t.length:=by
   intro j
   induction j with
   |zero=>intro acc t l t3 e;cases e;grind
   |succ j V=>
    intro acc t l t3 e;unfold Zt at e;split at e
    ·rename_i hp;obtain⟨x,t',K,e⟩:=bd_ok e;have h1:=V _ _ _ _ e;have h2:=(zdQ _ _ _ K).2;grind
    grind
  unfold vd at F;split at F
  ·rename_i hp;have h3:=zO hp;obtain⟨l,t3,K,F⟩:=bd_ok F;obtain⟨u,t4,hm,F⟩:=bd_ok F;unfold yb at K;obtain⟨x,t',P,K⟩:=bd_ok K;have h1:=this _ _ _ _ _ K;have h2:=(zdQ _ _ _ P).2;have h4:=Zp hm;grind
  grind
theorem zl2:∀(k:Nat) (n:Nd),zl n<=k->zl n<=1000000000->q37 k (rN n)=o (zl n:Int)
 |0,n,h,_=>by have:=z6 n;omega
 |k+1,n,h,hb=>by
  obtain⟨a,b,c,d,⟨xs,nn⟩⟩:=n;rw[Xr,yt];show((lpO (q7d (q37 k)) (1,0,q6.mk a b c d ⟨xs.map rN,nn⟩)).bind λu=>o u)=_;have hs:zl ⟨a,b,c,d,⟨xs,nn⟩⟩=zd xs+1:=by rw[zk]
  have loop:∀(m i:Nat),i+m=xs.length->lpO (q7d (q37 k)) (((1+zd (xs.take i):Nat):Int),(i:Int),q6.mk a b c d ⟨xs.map rN,nn⟩)=o ((1+zd xs:Nat):Int):=by
   intro m
   induction m with
   |zero=>
    intro i hi;have j:q7d (q37 k) (((1+zd (xs.take i):Nat):Int),(i:Int),q6.mk a b c d ⟨xs.map rN,nn⟩)=o (.done ((1+zd (xs.take i):Nat):Int)):=by
     show(if decide ((i:Int) < ((xs.map rN).length:Int))=A then _ else _)=_;grind
    rw[zw j,Dn Zc]
   |succ m l=>
    intro i hi;have g:i < xs.length:=Zc
    have p:za (⟨xs.map rN,nn⟩:Sl RNd) (i:Int)=o (rN xs[i]):=by
     rw[wV];simp[g]
    have h1:=zff g;have h2:=zbp xs (i+1);have q:q37 k (rN xs[i])=o (zl xs[i]:Int):=zl2 k xs[i] Zc Zc;have s:xs.length<=zd xs:=by
     clear q h1 h2 p l hs hb h g hi
     induction xs with
     |nil=>simp
     |cons x r l=>have:=z6 x;simp only[zd,jz];omega
    have j:q7d (q37 k) (((1+zd (xs.take i):Nat):Int),(i:Int),q6.mk a b c d ⟨xs.map rN,nn⟩)=o (.next (((1+zd (xs.take (i+1)):Nat):Int),((i+1:Nat):Int),q6.mk a b c d ⟨xs.map rN,nn⟩)):=by
     show(if decide ((i:Int) < ((xs.map rN).length:Int))=A then(za (⟨xs.map rN,nn⟩:Sl RNd) (i:Int)).bind _ else _)=_;rw[jv ji,p];simp only[jj,zj,q];rw[zE Zc Zc,zE Zc Zc,h1];have v:((1+zd (xs.take i):Nat):Int)+(zl xs[i]:Int)=((1+(zd (xs.take i)+zl xs[i]):Nat):Int):=Zc
     grind
    rw[zA j];grind
  have:=loop xs.length 0 Zc;simp only[List.take_zero,zd,Df] at this;grind
theorem zxe{l:List UInt8}(h:two l=A):∀c∈l.take 2,isL c=false:=by
 unfold two at h;simp only[UO,jl] at h;rcases h with h | h | h<;>rw[h]<;>decide
theorem zxf{l:List UInt8}{n:Nat}{v:Int}(h:nxt l = .tok 4 n v):∀c∈l.take n,isL c=false:=by
 unfold nxt at h;split at h
 ·cases h
 rename_i c r;split at h
 ·cases h
 split at h
 ·cases h
 split at h
 ·unfold XZ at h;grind
 split at h
 ·unfold xE at h;grind
 ·unfold xF at h;split at h
  ·cases h
  ·cases h;unfold YQ;split
   ·rename_i h2;exact zxe h2
   ·rename_i h2;simp only;grind
theorem zfM:∀(f b:Nat) (l:List UInt8) (ts:List Tk),Wv f b l = .inr ts->∀t∈ts,t.k_=4->∀c∈bs t.T_,isL c=B
 |0,b,l,ts,h=>by cases h;simp
 |f+1,b,l,ts,h=>by
  unfold Wv at h;split at h
  ·cases h;simp
  split at h
  ·exact zfM f _ _ ts h
  ·cases h
  ·rename_i k n v q;split at h
   ·cases h
   ·rename_i p i;cases h;intro t j g;rcases Db.1 j with rfl | j
    ·simp only at g;subst g;rw[wy];exact zxf q
    ·exact zfM f _ _ p i t j g
theorem zl3(s:U0):∀t∈(Z1 s).2.2.xs,t.k_=4->∀c∈bs t.T_,isL c=false:=by
 unfold Z1;split
 ·simp
 ·split
  ·simp
  ·rename_i ts e;intro t b g;simp only[U5,Dz] at b;rcases b with b | rfl
   ·exact zfM _ _ _ _ e t b g
   ·simp at g
end
end
section
section
variable {T:Sl RTk}{d e a:Int}{k n:Nat}{ts:List Tk}{z1 z2:Int×U0×Int×Int}
noncomputable abbrev vL:=q8q q6z q10 q7c q12 q6s qaz
theorem zh8(b:e≠0)(p:Int)(w:Sl RNd):lpO vL (z1,(p,d,e,a),z2,T,w)=o (z1,(p,d,e,a),z2,T,w):=
 zw (by unfold vL q8q;grind)
theorem zgX:∀(j:Nat) (ts:List Tk) (k:Nat) (acc:List Nd),GK T k ts->ts.length<=25000->ts.length<=j->acc.length+ts.length<=30000->
    match YE j acc ts with
    | .error er=>∃(i:Nat) (w:Sl RNd),lpO vL (z1,((k:Int),0,0,0),z2,T,rS (mkS acc))=o (z1,((i:Int),0,er.2,er.1),z2,T,w)/\er.2≠0
    | .ok (l,_)=>∃i:Nat,lpO vL (z1,((k:Int),0,0,0),z2,T,rS (mkS acc))=o (z1,((i:Int),0,0,0),z2,T,rS (mkS l))
 |0,ts,k,acc,g,hl,hj,ha=>absurd (UQ Zc) g.g.ne
 |j+1,ts,k,acc,g,hl,hj,ha=>by
  have S:=DE.2 g.g.ne;unfold YE
  have hb:vL (z1,((k:Int),0,0,0),z2,T,rS (mkS acc))=if(hd ts).k_=0 then o (.done (z1,((k:Int),0,0,0),z2,T,rS (mkS acc))) else
      if isP [102,110] ts=A then(q7c ((hd ts).a_,(((k+1:Nat):Int),0,0,0),T)).bind λL=>(zo 64 (rS (mkS acc)) [q6.mk L.1.1 L.1.2.1 L.1.2.2.1 L.1.2.2.2 L.2.2.2]).bind λV=>o (.next (z1,L.2.1,z2,L.2.2.1,V))
      else(q12 (lit [116,121,112,101],((k:Int),0,0,0),T)).bind λK=>(if K.1.2.2.1=0 then(q6s ((hd ts).a_,K)).bind λc=>(zo 64 (rS (mkS acc)) [q6.mk c.1.1 c.1.2.1 c.1.2.2.1 c.1.2.2.2 c.2.2.2]).bind λP=>o (z1,c.2.1,z2,c.2.2.1,P) else o (z1,K.1,z2,K.2,rS (mkS acc))).bind λy=>o (.next y):=by
   unfold vL q8q;simp only[g.idx,jj,js,jq,toR,jl];by_cases h0:(hd ts).k_=0
   ·grind
   · simp only[h0,Dj,ju,jp,jq,xi g,jj];cases h1:isP [102,110] ts with
     |true=>grind
     |false=>grind
  by_cases h0:(hd ts).k_=0
  · rw[jv h0] at hb |-
    exact⟨k,zw hb⟩
  rw[jx h0] at hb |-
  cases h1:isP [102,110] ts with
  |true=>
   obtain⟨W,Y⟩:=g.is h1;rw[h1] at hb;simp only[jq] at hb |-
   have F:=zBe W Zc (hd ts).a_;cases es:fnP (hd ts).a_ ts.tail with
   |error er=>
    rw[es] at F;obtain⟨⟨w,p,q,ks⟩,i,v,hp,R,s⟩:=F;simp only[pkR,D.injEq] at hp;obtain⟨rfl,N⟩:=hp;obtain rfl:T=q:=N.symm;rw[v,jj,xJ (acc:=acc) Zc] at hb;exact⟨i,_,by rw[zA hb,zh8 s],s⟩
   |ok p=>
    obtain⟨x,Q⟩:=p;rw[es] at F;obtain⟨i,v,g2,l2⟩:=F;rw[v,jj] at hb;simp only[ndR,ndT] at hb;rw[xJ (acc:=acc) Zc,show q6.mk x.k_ x.T_ x.n_ x.a_ (rS x.K_)=rN x from(yp x).symm,zgT] at hb;have O:=zgX j Q i (acc++[x]) g2 Zc Zc ji;rw[zA hb];exact O
  |false=>
   rw[h1] at hb;simp only[jk,jp] at hb |-
   have M:=yk (d:=0) g [116,121,112,101];cases U:zX [116,121,112,101] ts with
   |error er=>
    rw[U] at M;obtain⟨b,i,v,hp,R,s⟩:=M;simp only[id] at hp;subst hp;rw[v,jj] at hb;simp only[s,jp,jj] at hb;exact⟨i,_,by rw[zA hb,zh8 s],s⟩
   |ok p=>
    obtain⟨u,t0⟩:=p;rw[U] at M;obtain⟨k0,e0,g0,X⟩:=M;rw[e0,jj] at hb;simp only[jq] at hb;rw[PR.bd_ok];have F:=zAz (d:=0) g0 Zc (hd ts).a_;cases es:zdN (hd ts).a_ t0 with
    |error er=>
     rw[es] at F;obtain⟨⟨w,p,q,ks⟩,i,v,hp,R,s⟩:=F;simp only[pkR,D.injEq] at hp;obtain⟨rfl,N⟩:=hp;obtain rfl:T=q:=N.symm;rw[v,jj,xJ (acc:=acc) Zc] at hb;exact⟨i,_,by rw[zA hb,zh8 s],s⟩
    |ok p=>
     obtain⟨x,Q⟩:=p;rw[es] at F;obtain⟨i,v,g2,l2⟩:=F;rw[v,jj] at hb;simp only[ndR,ndT] at hb;rw[xJ (acc:=acc) Zc,show q6.mk x.k_ x.T_ x.n_ x.a_ (rS x.K_)=rN x from(yp x).symm,zgT] at hb;have O:=zgX j Q i (acc++[x]) g2 Zc Zc ji;rw[zA hb];exact O
end
theorem zdW(s:U0):q2s s=o (rN (Xd s).1,(Xd s).2):=by
 unfold q2s qcn;rw[zpu,jj];have F:rN vp=q6.mk 0 (lit []) 0 0 (C [] B):=by unfold vp;rw[Xr,yu]
 unfold Xd;simp only[jl];by_cases h:(Z1 s).2.1=0
 case neg=>grind
 case pos=>
 rw[jx (by simpa using h),jx (by simpa using h)];obtain⟨g,j⟩:=zdR h;have hs:=zl3 s;generalize x:(Z1 s).2.2=X at g j hs;obtain⟨ts,nn⟩:=X;simp only at g j hs;subst j;have q:=g.len;have u:GK ⟨ts.map toR,A⟩ 0 ts:=⟨rfl,g,Zc,hs⟩;have b:=zgX (z1:=(0,lit [],0,0)) (z2:=(0,lit [],0,0)) ts.length ts 0 [] u Zc (UK _) ji;rw[zl0] at b;cases e:YE ts.length [] ts with
 |error er=>
  rw[e] at b;obtain⟨v,w,b,h2⟩:=b;have b:lpO vL ((0,lit [],0,0),(0,0,0,0),(0,lit [],0,0),⟨ts.map toR,A⟩,C [] B)=_:=b;grind
 |ok p=>
  obtain⟨l,y⟩:=p;rw[e] at b;obtain⟨v,b⟩:=b;have b:lpO vL ((0,lit [],0,0),(0,0,0,0),(0,lit [],0,0),⟨ts.map toR,A⟩,C [] B)=_:=b;rw[b];have i:=zat _ _ _ _ _ e;simp only[zd] at i;have c:qaz (q6.mk 0 (lit []) 0 0 (rS (mkS l)))=o ((zd l+1:Nat):Int):=by
   have:=zl2 100000 ⟨0,lit [],0,0,mkS l⟩ (by rw[zk];simp only[mkS];omega) (by rw[zk];simp only[mkS];omega);rw[zk,Xr] at this;exact this
  simp only[jj,Dj,jt,jp,c];by_cases hb:4096 < zd l+1
  ·grind
  ·rw[jx Zc,jx hb,Xr]
end
end Go.Px
