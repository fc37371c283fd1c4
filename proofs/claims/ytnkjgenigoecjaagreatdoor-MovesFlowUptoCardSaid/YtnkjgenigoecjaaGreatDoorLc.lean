/- Part Lc. -/
import Derived.Test.YtnkjgenigoecjaaGreatDoorLb
set_option linter.unusedVariables false
set_option linter.unusedSimpArgs false
namespace Go.Px
open Bool renaming true->A,false->B
open List renaming map_nil->H,map_append->I,cons_append->L
open _root_.Option renaming some->o,bind_fun_some->G
open Prod renaming mk->D,snd->E
open Sl renaming mk->C
variable{n':Nat}{one:List Tk->PR Nd}{t:List Tk}{α β γ δ:Type}{f:α->List Tk->PR β}{m:U7 β}{r:PR α}
section
theorem DG:∀{α : Type _} {l : List α},0 < l.length↔l≠[]:=@List.length_pos_iff
theorem wT(s:Sl α)(i:Nat):za s (i:Int)=s.xs[i]?:=by
 unfold za;grind
theorem zG{s:Type}{f:s->U7 (Step s β)}{x y:s}(h:f x=o (.next y)):lpO f x=lpO f y:=by rw[Zt,h];rfl
theorem zA{s:Type}{f:s->U7 (Step s β)}{x:s}{y:β}(h:f x=o (.done y)):lpO f x=o y:=by rw[Zt,h];rfl
abbrev RTk:=q9
abbrev RNd:=q6
abbrev PS:=(Int×Int×Int×Int)×Sl RTk
mutual
def rN:Nd->RNd
 |⟨k,t,n,a,s⟩=>⟨k,t,n,a,rS s⟩
def rS:Sl Nd->Sl RNd
 |⟨l,b⟩=>⟨rL l,b⟩
def rL:List Nd->List RNd
 |[]=>[]
 |n::l=>rN n::rL l
end
theorem zsI:∀l:List Nd,rL l=l.map rN
 |[]=>by simp[rL]
 |n::l=>by simp[rL,zsI l]
theorem yq(s:Sl Nd):rS s=⟨s.xs.map rN,s.nn⟩:=by cases s;unfold rS;rw[zsI]
theorem ym(n:Nd):rN n=⟨n.k_,n.T_,n.n_,n.a_,rS n.K_⟩:=by cases n;unfold rN;rfl
theorem yr:rS nilS=⟨[],B⟩:=by rw[yq];rfl
theorem zi(a:RNd):kr a=a:=by cases a;rfl
structure GK(T:Sl RTk)(k:Nat)(ts:List Tk):Prop where
 dr:T.xs.drop k=ts.map toR
 g:TGood ts
 b:k+ts.length<=30000
 sg:∀t∈ts,t.k_=4->∀c∈bs t.T_,isL c=B
def RS(T:Sl RTk)(d:Int)(n:Nat)(r:PR α)(m:U7 β)(mk:α->PS->β)(pk:β->PS):Prop:=match r with
 | .error e=>∃(b:β) (k:Nat),m=o b/\pk b=(((k:Int),d,e.2,e.1),T)/\k < T.xs.length/\e.2≠0
 | .ok (a,ts)=>∃k:Nat,m=o (mk a (((k:Int),d,0,0),T))/\GK T k ts/\ts.length<=n
section
variable {T:Sl RTk}{d e a:Int}{k n:Nat}{ts:List Tk}
theorem GK.lt(h:GK T k ts):k < T.xs.length:=by
 have:=congrArg List.length h.dr;have h2:=DG.2 h.g.ne;grind
theorem GK.idx(h:GK T k ts):za T (k:Int)=o (toR (hd ts)):=by
 have h1:=congrArg (λl=>l[0]?) h.dr;simp only[Dl,Di,UE] at h1;rw[show za T (k:Int)=T.xs[k]? from wT T k,h1]
 match ts,h.g with
 |[],g=>exact absurd rfl g.ne
 |t::r,_=>rfl
theorem GK.tail(h:GK T k ts)(hk:(hd ts).k_≠0):GK T (k+1) ts.tail/\ts.tail.length+1=ts.length:=by
 have h1:=h.g.tail hk;have h2:=h.g.tail_len;refine⟨⟨?_,h1,?_,λt ht=>h.sg t (List.mem_of_mem_tail ht)⟩,h2⟩
 ·rw[<- List.drop_drop,h.dr]
  match ts with
  |[]=>rfl
  |t::r=>rfl
 ·have:=h.b;omega
theorem zcy(hk:k < T.xs.length):∃t,za T (k:Int)=o t:=⟨T.xs[k],by rw[wT];grind⟩
theorem zw(hk:k < 1000000000):U8 ((k:Int)+1)=((k+1:Nat):Int):=by rw[zK (by omega) (by omega)];rfl
theorem zl7(hk:k < T.xs.length)(he:e≠0)(s:U5):q1p (s,((k:Int),d,e,a),T)=o (B,((k:Int),d,e,a),T):=by
 obtain⟨t,ht⟩:=zcy hk;unfold q1p qau;grind
theorem yt(hk:k < T.xs.length)(he:e≠0)(s:U5):q10 (s,((k:Int),d,e,a),T)=o (B,((k:Int),d,e,a),T):=by
 unfold q10 qa6;simp only[zl7 hk he,jj,jk,jp]
theorem zdS(he:e≠0)(c:Int):q19 (c,((k:Int),d,e,a),T)=o (((k:Int),d,e,a),T):=by
 unfold q19 q90;grind
theorem Zq(hk:k < T.xs.length)(he:e≠0)(s:U5):q12 (s,((k:Int),d,e,a),T)=o (((k:Int),d,e,a),T):=by
 unfold q12 q91;simp only[yt hk he,zdS he,jj,D8,jq]
theorem zgR(hk:k < T.xs.length)(he:e≠0):q16 (((k:Int),d,e,a),T)=o ((0,lit [],0,0),((k:Int),d,e,a),T):=by
 obtain⟨t,ht⟩:=zcy hk;unfold q16 q92;simp only[ht,zdS he,jj,Dm,he,ju,js,jq]
theorem xX(hk:k < T.xs.length)(he:e≠0):q2f (((k:Int),d,e,a),T)=o (0,((k:Int),d,e,a),T):=by
 obtain⟨t,ht⟩:=zcy hk;unfold q2f q7q;simp only[ht,zdS he,jj,Dm,he,ju,js,jq]
theorem zgS(hk:k < T.xs.length)(he:e≠0)(x:RNd):q27 (x,((k:Int),d,e,a),T)=o (x,((k:Int),d,e,a),T):=by
 unfold q27 q93;simp only[yt hk he,jj,jk,jp,zi]
theorem zbp(hk:k < T.xs.length)(he:e≠0):∃v,q1u (((k:Int),d,e,a),T)=o (v,((k:Int),d,e,a),T):=by
 obtain⟨t,ht⟩:=zcy hk;unfold q1u q94;simp only[ht,yt hk he,xX hk he,zgR hk he,zgS hk he,jj,jk,jp];split<;>exact⟨_,rfl⟩
theorem zBq(hk:k < T.xs.length)(he:e≠0):q68 (((k:Int),d,e,a),T)=o (lit [],((k:Int),d,e,a),T):=by
 unfold q68 qa7;have h0:∀i:Int,∀s,za (⟨[lit [60],lit [60,61],lit [61,61]],A⟩:Sl U5) i=o s->0<=i->i < 3->q7b q10 q19 (i,((k:Int),d,e,a),T,C [lit [60],lit [60,61],lit [61,61]] A)=o (.next (i+1,((k:Int),d,e,a),T,C [lit [60],lit [60,61],lit [61,61]] A)):=by
  intro i s hs h0 h3;unfold q7b;simp only[hs,yt hk he,jj,jk,jp];rw[jv (by simp[Sl.len];omega),zK (by omega) (by omega)]
 rw[zG (h0 0 _ rfl (by omega) (by omega)),zG (h0 (0+1) _ rfl (by omega) (by omega)),zG (h0 (0+1+1) _ rfl (by omega) (by omega)),zA (y :=.inr (((k:Int),d,e,a),T)) rfl];simp only[jj,jm,zdS he]
theorem zzQ(hk:k < T.xs.length)(he:e≠0):∃w,q3b (((k:Int),d,e,a),T)=o (((k:Int),d,e,a),T,w):=by
 unfold q3b q95;simp only[Zq hk he,yt hk he,jj,jk,jp,Dm,he,ju,js,jq];grind
theorem zl8(hk:k < T.xs.length)(he:e≠0):∃v,q3c (((k:Int),d,e,a),T)=o (v,((k:Int),d,e,a),T):=by
 obtain⟨t,ht⟩:=zcy hk;unfold q3c q96;simp only[ht,Zq hk he,yt hk he,zgR hk he,jj,jk,jp,D8,jq];grind
theorem zsJ(hk:k < T.xs.length)(he:e≠0):∃v,q5w (((k:Int),d,e,a),T)=o (v,((k:Int),d,e,a),T):=by
 obtain⟨t,ht⟩:=zcy hk;obtain⟨v,hv⟩:=zbp (d:=d) (a:=a) hk he;unfold q5w q97;simp only[ht,hv,Zq hk he,yt hk he,zl7 hk he,zgR hk he,zgS hk he,jj,jk,jp];grind
theorem znR(hk:k < T.xs.length)(he:e≠0)(hd : -1000<=d/\d<=1000)(j:Nat):∃v w,q49 (j+1) (((k:Int),d,e,a),T)=o (v,((k:Int),d,e,a),T,w):=by
 obtain⟨t,ht⟩:=zcy hk;show∃v w,q2g _ _ _ _ _ _=_
 unfold q2g;simp only[ht,Zq hk he,zl7 hk he,jj,jk,jp];rw[Zt];simp only[q4a,he,jr,jk,jp,jj];rw[zK (n:=d+1) (by omega) (by omega),zK (by omega) (by omega),show d+1 - 1=d by omega];grind
theorem zzR(hk:k < T.xs.length)(he:e≠0):∃v,q44 (((k:Int),d,e,a),T)=o (v,((k:Int),d,e,a),T):=by
 obtain⟨t,ht⟩:=zcy hk;unfold q44 q98;simp only[ht,yt hk he,jj,jk,jp];generalize ((0,lit [],0,0):Int×U5×Int×Int)=z;have h0:∀(i:Int) (s) (q:Int×U5×Int×Int),za (⟨[lit [99,111,117,110,116,101,100],lit [108,111,99,107],lit [103,117,97,114,100]],A⟩:Sl U5) i=o s->0<=i->i < 3->q3s q10 q16 q19 (i,((k:Int),d,e,a),T,z,q,C [lit [99,111,117,110,116,101,100],lit [108,111,99,107],lit [103,117,97,114,100]] A)=o (.next (i+1,((k:Int),d,e,a),T,z,q,C [lit [99,111,117,110,116,101,100],lit [108,111,99,107],lit [103,117,97,114,100]] A)):=by
  intro i s q hs h0 h3;unfold q3s;simp only[hs,yt hk he,jj,jk,jp];rw[jv (by simp[Sl.len];omega),zK (by omega) (by omega)]
 rw[zG (h0 0 _ _ rfl (by omega) (by omega)),zG (h0 (0+1) _ _ rfl (by omega) (by omega)),zG (h0 (0+1+1) _ _ rfl (by omega) (by omega)),zA (y :=.inr (((k:Int),d,e,a),T,z,_)) rfl];simp only[jj,jm,zdS he];grind
end
end
section
section
variable {T:Sl RTk}{d e a:Int}{k n:Nat}{ts:List Tk}
theorem RS.bd {f:α->List Tk->PR γ}{K:β->U7 δ}{mk:α->PS->β}{pk:β->PS}{mk':γ->PS->δ}{pk':δ->PS}(h:RS T d n r m mk pk)
    (hb:∀(b:β) (k:Nat) (e a:Int),pk b=(((k:Int),d,e,a),T)->k < T.xs.length->e≠0->∃c,K b=o c/\pk' c=(((k:Int),d,e,a),T))
    (hk:∀a ts (k:Nat),r = .ok (a,ts)->GK T k ts->ts.length<=n->RS T d n' (f a ts) (K (mk a (((k:Int),d,0,0),T))) mk' pk'):RS T d n' (r.bd f) (m.bind K) mk' pk':=by
 cases r with
 |error e=>
  obtain⟨b,k,rfl,h1,h2,h3⟩:=h;obtain⟨c,e1,e2⟩:=hb b k _ _ h1 h2 h3;exact⟨c,k,e1,e2,h2,h3⟩
 |ok p=>
  obtain⟨a,ts⟩:=p;obtain⟨k,rfl,g,l⟩:=h;exact hk a ts k rfl g l
theorem RS.ok{x:α}{mk:α->PS->β}{pk:β->PS}(g:GK T k ts)(l:ts.length<=n)(h:m=o (mk x (((k:Int),d,0,0),T))):RS T d n (.ok (x,ts)) m mk pk:=⟨k,h,g,l⟩
theorem RS.mono{mk:α->PS->β}{pk:β->PS}(h:RS T d n r m mk pk)(l:n<=n'):RS T d n' r m mk pk:=by
 cases r with
 |error e=>exact h
 |ok p=>obtain⟨k,h1,h2,h3⟩:=h;exact⟨k,h1,h2,UP h3 l⟩
theorem PR.bd_assoc{g:β->List Tk->PR γ}:(r.bd f).bd g=r.bd λa t=>(f a t).bd g:=by
 cases r<;>rfl
theorem PR.bd_ok{x:α}:PR.bd (.ok (x,t)) f=f x t:=rfl
theorem GK.is(g:GK T k ts){s:List UInt8}(h:isP s ts=A):GK T (k+1) ts.tail/\ts.tail.length+1=ts.length:=g.tail (zfJ h)
theorem zdT(g:GK T k ts)(s:List UInt8):q1p (lit s,((k:Int),d,0,0),T)=o (isP s ts,((k:Int),d,0,0),T):=by
 unfold q1p qau isP;simp only[g.idx,jj,js,jq,jl,toR];grind
theorem xf(g:GK T k ts)(s:List UInt8):q10 (lit s,((k:Int),d,0,0),T)=o (isP s ts,(((if isP s ts=A then k+1 else k:Nat):Int),d,0,0),T):=by
 unfold q10 qa6;simp only[zdT g,jj];have:=g.b;cases h:isP s ts with
 |true=>simp only[jq,jj];rw[zw (by omega)]
 |false=>rfl
theorem V0(g:GK T k ts)(c:Int):q19 (c,((k:Int),d,0,0),T)=o (((k:Int),d,c,(hd ts).a_),T):=by
 unfold q19 q90;simp only[g.idx,jj,js,jq,toR]
theorem Yh (g:GK T k ts) {s:List UInt8}{K:Bool×PS->U7 β}{p q:PR α}{mk:α->PS->β}{pk:β->PS}(h1:isP s ts=A->GK T (k+1) ts.tail->ts.tail.length+1=ts.length->RS T d n p (K (A,(((k+1:Nat):Int),d,0,0),T)) mk pk)
    (h0:isP s ts=B->RS T d n q (K (B,((k:Int),d,0,0),T)) mk pk):RS T d n (if isP s ts=A then p else q) ((q10 (lit s,((k:Int),d,0,0),T)).bind K) mk pk:=by
 rw[xf g,jj];cases h:isP s ts with
 |true=>simp only[jq];exact h1 h (g.is h).1 (g.is h).2
 |false=>grind
theorem yh(g:GK T k ts)(s:List UInt8):RS T d (ts.length - 1) (zW s ts) (q12 (lit s,((k:Int),d,0,0),T)) (λ_ st=>st) id:=by
 unfold q12 q91 zW;refine Yh g (λh g1 l =>.ok g1 (by omega) rfl) λh=>?_
 simp only[D8,jq,V0 g,jj];exact⟨_,k,rfl,rfl,g.lt,by simp[xV]⟩
theorem yi(g:GK T k ts):RS T d (ts.length - 1) (Zb ts) (q16 (((k:Int),d,0,0),T)) (λn st=>(ndT n,st)) E:=by
 unfold q16 q92 Zb wC;simp only[g.idx,jj,Dm,jt,jr,jk,jp,toR,jl];have:=g.b;by_cases h:(hd ts).k_=1
 ·obtain⟨g1,l1⟩:=g.tail (by omega);simp only[h,jt,jq,jp];rw[zw (by omega)];exact .ok g1 (by omega) rfl
 ·simp only[h,ju,jq,jp];rw[V0 g];exact⟨_,k,rfl,rfl,g.lt,by simp⟩
theorem wM(g:GK T k ts):RS T d (ts.length - 1) (wC 3 ts) (q2f (((k:Int),d,0,0),T)) (λt st=>(t.n_,st)) E:=by
 unfold q2f q7q wC;simp only[g.idx,jj,Dm,jt,jr,jk,jp,toR,jl];have:=g.b;by_cases h:(hd ts).k_=3
 ·obtain⟨g1,l1⟩:=g.tail (by omega);simp only[h,jt,jq,jp];rw[zw (by omega)];exact .ok g1 (by omega) rfl
 ·simp only[h,ju,jq,jp];rw[V0 g];exact⟨_,k,rfl,rfl,g.lt,by simp[xV]⟩
theorem wN(x:Int):1 * x=x:=by omega
theorem znS{t1:List Tk}{t:Tk}(g:TGood ts)(h:wC 3 ts = .ok (t,t1)):U8 (0 - t.n_) = -1 * t.n_:=by
 have:=ziR g h;rw[zK (by omega) (by omega)];omega
theorem zsK(m:Nd)(v:Int):rN (Nd.num m v)=⟨(rN m).k_,(rN m).T_,v,(rN m).a_,(rN m).K_⟩:=by cases m;simp[Nd.num,rN]
theorem zsL(g:GK T k ts)(m:Nd):RS T d ts.length (xW m ts) (q27 (rN m,((k:Int),d,0,0),T)) (λn st=>(rN n,st)) E:=by
 unfold q27 q93 xW Yq;refine Yh g (λh g1 l=>?_) λh=>?_
 ·simp only[jq,PR.bd_assoc,PR.bd_ok];refine(wM g1).bd ?_ λt t1 k1 et g2 l2 =>.ok g2 (by omega) (by rw[zsK,wN])
  grind
 ·simp only[jk,jp];refine Yh g (λh g1 l=>?_) λh=>?_
  ·simp only[jq,PR.bd_assoc,PR.bd_ok,gh,jj];refine(wM g1).bd ?_ λt t1 k1 et g2 l2 =>.ok g2 (by omega) (by rw[zsK,znS g1.g et])
   grind
  ·exact .ok g (by omega) (by simp only[jk,jp,jj,zi])
theorem X6(n:Nd)(h:n.K_=nilS):q6.mk (ndT n).1 (ndT n).2.1 (ndT n).2.2.1 (ndT n).2.2.2 (C [] B)=rN n:=by rw[ym,h,yr];rfl
theorem Wr(g:GK T k ts):RS T d (ts.length - 1) (Z3 ts) (q1u (((k:Int),d,0,0),T)) (λn st=>(rN n,st)) E:=by
 unfold q1u q94 Z3 Yq;simp only[g.idx,jj,toR,jl];by_cases h3:(hd ts).k_=3
 ·rw[jv h3,jv h3];simp only[PR.bd_assoc,PR.bd_ok];refine(wM g).bd ?_ λt t1 k1 et g2 l2 =>.ok g2 (by omega) (by rw[wN,ym,yr])
  grind
 ·rw[jx h3,jx h3];refine Yh g (λh g1 l=>?_) λh=>?_
  ·simp only[jq,PR.bd_assoc,PR.bd_ok];refine(wM g1).bd ?_ λt t1 k1 et g2 l2 =>.ok g2 (by omega) (by rw[znS g1.g et,ym,yr])
   grind
  ·simp only[jk,jp];refine(yi g).bd ?_ λm t1 k1 em g1 l1=>?_
   ·rintro⟨v,_⟩ k e a rfl hk he;simp only[zgS hk he,jj];grind
   ·rw[X6 m (zN em)];simp only[zi];refine RS.mono (n:=t1.length) ?_ (by omega);rw[show((q27 (rN m,((k1:Int),d,0,0),T)).bind λy8=>o (y8.1,y8.2))=q27 (rN m,((k1:Int),d,0,0),T) from G _];exact zsL g1 m
theorem zBr(g:GK T k ts):RS T d (ts.length - 1) (zcs ts) (q68 (((k:Int),d,0,0),T)) (λs st=>(s,st)) E:=by
 unfold q68 qa7
 have h0:∀(i:Int) (s:List UInt8),za (⟨[lit [60],lit [60,61],lit [61,61]],A⟩:Sl U5) i=o (lit s)->0<=i->i < 3->q7b q10 q19 (i,((k:Int),d,0,0),T,C [lit [60],lit [60,61],lit [61,61]] A) =
     if isP s ts=A then o (.done (.inl (lit s,(((k+1:Nat):Int),d,0,0),T))) else o (.next (i+1,((k:Int),d,0,0),T,C [lit [60],lit [60,61],lit [61,61]] A)):=by
  intro i s hs h0 h3;unfold q7b;simp only[hs,xf g,jj];rw[jv (by simp[Sl.len];omega)];cases h:isP s ts with
  |true=>grind
  |false=>simp only[jk,jp];rw[zK (by omega) (by omega)]
 unfold zcs;have e0:=h0 0 [60] rfl (by omega) (by omega);have e1:=h0 (0+1) [60,61] rfl (by omega) (by omega);have e2:=h0 (0+1+1) [61,61] rfl (by omega) (by omega);cases c0:isP [60] ts with
 |true=>rw[c0] at e0;rw[zA e0];exact .ok (g.is c0).1 (by grind) rfl
 |false=>
  rw[c0] at e0;rw[zG e0];cases c1:isP [60,61] ts with
  |true=>rw[c1] at e1;rw[zA e1];exact .ok (g.is c1).1 (by grind) rfl
  |false=>
   rw[c1] at e1;rw[zG e1];cases c2:isP [61,61] ts with
   |true=>rw[c2] at e2;rw[zA e2];exact .ok (g.is c2).1 (by grind) rfl
   |false=>
    rw[c2] at e2;rw[zG e2,zA (y :=.inr (((k:Int),d,0,0),T)) rfl];simp only[jj,jm,V0 g,jk,jp];exact⟨_,k,rfl,rfl,g.lt,by simp⟩
def ndR(n:Nd)(st:PS):(Int×U5×Int×Int)×(Int×Int×Int×Int)×Sl RTk×Sl RNd:=(ndT n,st.1,st.2,rS n.K_)
def pkR(b:(Int×U5×Int×Int)×(Int×Int×Int×Int)×Sl RTk×Sl RNd):PS:=(b.2.1,b.2.2.1)
theorem zsM(g:GK T k ts):RS T d (ts.length - 1) (YE ts) (q1v (((k:Int),d,0,0),T)) ndR pkR:=by
 unfold q1v q6r YE;refine(Wr g).bd ?_ λa t1 k1 ea g1 l1=>?_
 ·rintro⟨v,_⟩ k e a rfl hk he;obtain⟨w,hw⟩:=zbp (d:=d) (a:=a) hk he;simp only[zBq hk he,hw,jj];exact⟨_,rfl,rfl⟩
 refine(zBr g1).bd ?_ λop t2 k2 _ g2 l2=>?_
 ·rintro⟨v,_⟩ k e a rfl hk he;obtain⟨w,hw⟩:=zbp (d:=d) (a:=a) hk he;simp only[hw,jj];exact⟨_,rfl,rfl⟩
 refine(Wr g2).bd ?_ λb t3 k3 eb g3 l3 =>.ok g3 (by omega) ?_
 ·rintro⟨v,_⟩ k e a rfl hk he;exact⟨_,rfl,rfl⟩
 simp only[zi,ndR,ndT,yq,UI,H];rw[show(rN a).a_=a.a_ by rw[ym]]
theorem Yr{acc:List RNd}{x:RNd}(h:acc.length<=60000)(b:Bool):zo 64 (⟨acc,b⟩:Sl RNd) [x]=o ⟨acc++[x],A⟩:=by
 rw[yQ (by simp;omega) (by simp;omega)];simp
noncomputable abbrev wU:=q5e q12 q10 q1u
theorem ziW(hk:k < T.xs.length)(he:e≠0)(x:RNd)(acc:Sl RNd):lpO wU (((k:Int),d,e,a),T,x,acc)=o (((k:Int),d,e,a),T,acc):=
 zA (by unfold wU q5e;simp only[yt hk he,jj,D8,jq])
theorem ziX:∀(j:Nat) (ts:List Tk) (k:Nat) (x:RNd) (acc:List Nd),GK T k ts->ts.length<=j->acc.length+ts.length<=30000->
    RS T d ts.length (Zs Z3 j acc ts) (lpO wU (((k:Int),d,0,0),T,x,⟨acc.map rN,A⟩)) (λl st=>(st.1,st.2,⟨l.map rN,A⟩)) (λb=>(b.1,b.2.1))
 |0,ts,k,x,acc,g,hj,ha=>absurd (UT (by omega)) g.g.ne
 |j+1,ts,k,x,acc,g,hj,ha=>by
  unfold Zs;cases h:isP [44] ts with
  |false=>
   rw[zA (y:=(((k:Int),d,0,0),T,⟨acc.map rN,A⟩)) (by unfold wU q5e;simp only[xf g,h,jj,D8,jq,jk,jp])];exact .ok g (UN _) rfl
  |true=>
   obtain⟨g1,l1⟩:=g.is h;simp only[jq];have ht:=Wr (d:=d) g1;cases e:Z3 ts.tail with
   |error er=>
    rw[e] at ht;obtain⟨⟨v,_⟩,k1,e1,rfl,h2,h3⟩:=ht;have hn:wU (((k:Int),d,0,0),T,x,⟨acc.map rN,A⟩)=o (.next (((k1:Int),d,er.2,er.1),T,v,⟨acc.map rN++[v],A⟩)):=by
     unfold wU q5e;simp only[xf g,h,jj,Dr,jq,jk,jp,e1,zi];rw[Yr (by simp;omega)];rfl
    rw[zG hn,ziW h2 h3];exact⟨_,k1,rfl,rfl,h2,h3⟩
   |ok p=>
    obtain⟨y,t1⟩:=p;rw[e] at ht;obtain⟨k1,e1,g2,l2⟩:=ht;have hn:wU (((k:Int),d,0,0),T,x,⟨acc.map rN,A⟩)=o (.next (((k1:Int),d,0,0),T,rN y,⟨(acc++[y]).map rN,A⟩)):=by
     unfold wU q5e;simp only[xf g,h,jj,Dr,jq,jk,jp,e1,zi];rw[Yr (by simp;omega)];simp
    rw[zG hn];exact(ziX j t1 k1 (rN y) (acc++[y]) g2 (by omega) (by simp;omega)).mono (by omega)
theorem zl9(g:GK T k ts):RS T d (ts.length - 1) (zap ts) (q3b (((k:Int),d,0,0),T)) (λks st=>(st.1,st.2,rS ks)) (λb=>(b.1,b.2.1)):=by
 unfold q3b q95 zap;refine(yh g [40]).bd ?_ λ_ t1 k1 _ g1 l1=>?_
 ·rintro _ k e a rfl hk he;simp only[yt hk he,jj,jk,jp,Dm,he,ju,js,jq,id];grind
 refine Yh g1 (λh g2 l2=>?_) λh=>?_
 ·simp only[jq,jj];exact .ok g2 (by omega) (by rw[yr])
 simp only[jk,jp,jj,Dm,jt,jr];unfold ya;rw[PR.bd_assoc];have hb:=g1.b;refine(Wr g1).bd ?_ λx t2 k2 ex g2 l2=>?_
 ·rintro⟨v,_⟩ k e a rfl hk he;simp only[zi];rw[ziW hk he];simp only[jj,Zq hk he];grind
 simp only[zi];refine(ziX (d:=d) t1.length t2 k2 (rN x) [x] g2 (by omega) (by simp;omega)).bd ?_ λl t3 k3 _ g3 l3=>?_
 ·rintro⟨p,q,w⟩ k e a hp hk he;simp only[D.injEq] at hp;obtain⟨rfl,rfl⟩:=hp;simp only[Zq hk he,jj];grind
 refine(yh g3 [41]).bd ?_ λ_ t4 k4 _ g4 l4 =>.ok g4 (by omega) (by rw[yq])
 grind
end
end
section
section
variable {T:Sl RTk}{d e a:Int}{k n:Nat}{ts:List Tk}
theorem Ws(n:Nd):rS ⟨[n],A⟩=⟨[rN n],A⟩:=by rw[yq];rfl
theorem Xr(k:Int)(t:U5)(n a:Int)(s:Sl Nd):rN ⟨k,t,n,a,s⟩=⟨k,t,n,a,rS s⟩:=by unfold rN;rfl
theorem zsN(g:GK T k ts):RS T d (ts.length - 1) (Wq ts) (q3c (((k:Int),d,0,0),T)) (λn st=>(rN n,st)) E:=by
 unfold q3c q96 Wq;simp only[g.idx,jj,toR];refine Yh g (λh g1 l1=>?_) λh=>?_
 ·simp only[jq];exact .ok g1 (by omega) (by rw[ym,yr])
 simp only[jk,jp];refine Yh g (λh g1 l1=>?_) λh=>?_
 ·simp only[Dr,jk,jp,jj];refine(yi g1).bd ?_ λm t1 k1 em g2 l2 =>.ok g2 (by omega) ?_
  ·grind
  ·rw[X6 m (zN em),Xr,Ws]
 simp only[D8,jq,gh];refine(yh g [38]).bd ?_ λ_ t1 k1 _ g1 l1=>?_
 ·rintro _ k e a rfl hk he;simp only[yt hk he,zgR hk he,jj,jk,jp,id];grind
 refine Yh g1 (λh g2 l2=>?_) λh=>?_
 ·simp only[jq,jj];refine(yi g2).bd ?_ λm t2 k2 em g3 l3 =>.ok g3 (by omega) ?_
  ·grind
  ·rw[X6 m (zN em),Xr,Ws]
 ·simp only[jk,jp,jj];refine(yi g1).bd ?_ λm t2 k2 em g3 l3 =>.ok g3 (by omega) ?_
  ·grind
  ·rw[X6 m (zN em),Xr,Ws]
theorem GK.idx1(g:GK T (k+1) ts)(hk:k < 30000):za T (U8 ((k:Int)+1))=o (toR (hd ts)):=by
 rw[zw (by omega),g.idx]
theorem zzS(g:GK T k ts):RS T d (ts.length - 1) (vV ts) (q5w (((k:Int),d,0,0),T)) (λn st=>(rN n,st)) E:=by
 unfold q5w q97 vV;simp only[g.idx,jj,toR];have hb:=g.b;refine Yh g (λh g1 l1=>?_) λh=>?_
 · simp only[jq];unfold Yq;rw[PR.bd_assoc];refine(wM g1).bd ?_ λt t1 k1 et g2 l2 =>.ok g2 (by omega) (by rw[wN,ym,yr])
   grind
 simp only[jk,jp];refine Yh g (λh g1 l1=>?_) λh=>?_
 · simp only[jq];refine(yi g1).bd ?_ λm t1 k1 em g2 l2 =>.ok g2 (by omega) (by rw[ym,yr];rfl)
   grind
 simp only[jk,jp];refine Yh g (λh g1 l1=>?_) λh=>?_
 · simp only[jq];refine Yh g1 (λh g2 l2=>?_) λh=>?_
   · simp only[jq,jj];refine(yi g2).bd ?_ λm t1 k1 em g3 l3 =>.ok g3 (by omega) (by rw[ym,yr];rfl)
     grind
   · simp only[jk,jp,jj];refine(yi g1).bd ?_ λm t1 k1 em g3 l3 =>.ok g3 (by omega) (by rw[ym,yr];rfl)
     grind
 simp only[jk,jp,g.idx,jj,toR,jl,zi];by_cases hk:(hd ts).k_=1
 case neg=>
   simp only[Dm,hk,ju,jq,G];rw[show((q1u (((k:Int),d,0,0),T)).bind λy=>o (y.1,y.2))=q1u (((k:Int),d,0,0),T) from G _];exact Wr g
 simp only[Dm,hk,jt,jp];refine(yi g).bd ?_ λm t1 k1 em g1 l1=>?_
 ·rintro⟨v,_⟩ k e a rfl hk he;simp only[zl7 hk he,yt hk he,zgS hk he,jj,jk,jp];grind
 simp only[zdT g1,jj];cases h4:isP [40] t1 with
 |true=>
  simp only[jq];refine RS.mono (n:=t1.length - 1) ?_ (by omega);refine(zl9 g1).bd ?_ λks t2 k2 _ g2 l2 =>.ok g2 (by omega) (by rw[ym];rfl)
  rintro⟨p,q,w⟩ k e a hp hk he;grind
 |false=>
 simp only[jk,jp];refine Yh g1 (λh g2 l2=>?_) λh=>?_
 · simp only[jq];refine(Wr g2).bd ?_ λx t2 k2 _ g3 l3=>?_
   ·rintro⟨v,_⟩ k e a rfl hk he;simp only[Zq hk he,jj];grind
   refine(yh g3 [93]).bd ?_ λ_ t4 k4 _ g4 l4 =>.ok g4 (by omega) (by rw[Xr,Ws];rfl)
   grind
 simp only[jk,jp,zdT g1,jj];have hb1:=g1.b
 have two:∀{g2:GK T (k1+1) t1.tail} (q:Int),RS T d (ts.length - 1) ((Zb t1.tail).bd λb t2 =>.ok ((⟨q,lit [],0,m.a_,⟨[m,b],A⟩⟩:Nd),t2))
     ((q16 ((U8 ((k1:Int)+1),d,0,0),T)).bind λy=>o (q6.mk q (lit []) 0 (ndT m).2.2.2 (C [q6.mk (ndT m).1 (ndT m).2.1 (ndT m).2.2.1 (ndT m).2.2.2 (C [] B),q6.mk y.1.1 y.1.2.1 y.1.2.2.1 y.1.2.2.2 (C [] B)] A),y.2)) (λn st=>(rN n,st)) E:=by
  intro g2 q;rw[zw (by omega)];have:=g2.b;have h0:=DG.2 g1.g.ne;refine(yi g2).bd ?_ λb t2 k2 eb g3 l3 =>.ok g3 (by grind) ?_
  ·grind
  ·rw[X6 m (zN em),X6 b (zN eb),ym ⟨q,_,_,_,_⟩,yq];rfl
 have fin:RS T d (ts.length - 1) (xW m t1) ((q27 (q6.mk (ndT m).1 (ndT m).2.1 (ndT m).2.2.1 (ndT m).2.2.2 (C [] B),((k1:Int),d,0,0),T)).bind λy=>o (y.1,y.2)) (λn st=>(rN n,st)) E:=by
  rw[X6 m (zN em)];rw[show((q27 (rN m,((k1:Int),d,0,0),T)).bind λy=>o (y.1,y.2))=q27 (rN m,((k1:Int),d,0,0),T) from G _];exact(zsL g1 m).mono (by omega)
 cases hp:isP [43] t1 with
 |true=>
  have hm:=zh7 hp;obtain⟨g2,l2⟩:=g1.is hp;simp only[hm,jq,UJ,jk,false_and,jp,jj,g2.idx1 (by omega),toR,jl];by_cases h1:(hd t1.tail).k_=1
  ·simp only[h1,jq,gh,jj];exact two (g2:=g2) 21
  grind
 |false=>
  cases hq:isP [45] t1 with
  |true=>
   obtain⟨g2,l2⟩:=g1.is hq;simp only[jq,UJ,jk,false_and,jp,jj,g2.idx1 (by omega),toR,jl];by_cases h1:(hd t1.tail).k_=1
   ·simp only[h1,jq,gh,jj];exact two (g2:=g2) 22
   grind
  |false=>
   grind
theorem zya(g:GK T k ts):RS T d (ts.length - 1) ((Zb ts).bd vA) (q6s (((k:Int),d,0,0),T)) ndR pkR:=by
 unfold q6s qby;refine(yi g).bd ?_ λm t1 k1 em g1 l1=>?_
 ·rintro⟨v,_⟩ k e a rfl hk he;obtain⟨w,hw⟩:=zsJ (d:=d) (a:=a) hk he;simp only[zl7 hk he,yt hk he,Zq hk he,hw,jj,jk,jp];exact⟨_,rfl,rfl⟩
 refine RS.mono (n:=t1.length - 1) ?_ (by omega);have h0:=DG.2 g1.g.ne;unfold vA;simp only[zdT g1,jj];cases h4:isP [40] t1 with
 |true=>
  simp only[jq];refine(zl9 g1).bd ?_ λks t2 k2 _ g2 l2 =>.ok g2 (by omega) ?_
  ·rintro⟨p,q,w⟩ k e a hp hk he;simp only[D.injEq] at hp;obtain⟨rfl,rfl⟩:=hp;exact⟨_,rfl,rfl⟩
  ·simp only[ndR,Ws,ym];rfl
 |false=>
 simp only[jk,jp];refine Yh g1 (λh g2 l2=>?_) λh=>?_
 ·simp only[jq];refine(Wr g2).bd ?_ λx t2 k2 _ g3 l3=>?_
  ·rintro⟨v,_⟩ k e a rfl hk he;obtain⟨w,hw⟩:=zbp (d:=d) (a:=a) hk he;simp only[Zq hk he,hw,jj];exact⟨_,rfl,rfl⟩
  refine(yh g3 [93]).bd ?_ λ_ t4 k4 _ g4 l4=>?_
  ·rintro _ k e a rfl hk he;obtain⟨w,hw⟩:=zbp (d:=d) (a:=a) hk he;simp only[Zq hk he,hw,jj,id];exact⟨_,rfl,rfl⟩
  refine(yh g4 [61]).bd ?_ λ_ t5 k5 _ g5 l5=>?_
  ·rintro _ k e a rfl hk he;obtain⟨w,hw⟩:=zbp (d:=d) (a:=a) hk he;simp only[hw,jj,id];exact⟨_,rfl,rfl⟩
  refine(Wr g5).bd ?_ λy t6 k6 _ g6 l6 =>.ok g6 (by omega) ?_
  ·rintro⟨v,_⟩ k e a rfl hk he;exact⟨_,rfl,rfl⟩
  ·simp only[ndR,yq,zi];rfl
 simp only[jk,jp];refine(yh g1 [61]).bd ?_ λ_ t5 k5 _ g5 l5=>?_
 ·rintro _ k e a rfl hk he;obtain⟨w,hw⟩:=zsJ (d:=d) (a:=a) hk he;simp only[hw,jj,id];exact⟨_,rfl,rfl⟩
 refine(zzS g5).bd ?_ λy t6 k6 _ g6 l6 =>.ok g6 (by omega) ?_
 ·rintro⟨v,_⟩ k e a rfl hk he;exact⟨_,rfl,rfl⟩
 ·simp only[ndR,yq,zi];rfl
end
end
section
section
variable {T:Sl RTk}{d e a:Int}{k n:Nat}{ts:List Tk}
abbrev zma:=PS->U7 ((Int×U5×Int×Int)×(Int×Int×Int×Int)×Sl RTk×Sl RNd)
structure BlkR(T:Sl RTk)(d:Int)(h:zma)(blk:List Tk->PR Nd):Prop where
 g:∀{ts k},GK T k ts->RS T d (ts.length - 1) (blk ts) (h (((k:Int),d,0,0),T)) ndR pkR
 b:∀{k:Nat} {e a:Int},k < T.xs.length->e≠0->∃v w,h (((k:Int),d,e,a),T)=o (v,((k:Int),d,e,a),T,w)
variable {h:zma}{blk:List Tk->PR Nd}
theorem zuW{sz:Nat}{s s':Sl RNd}{l:List RNd}(h:zo sz s l=o s'):s'.xs=s.xs++l:=by
 unfold zo at h;grind
theorem RS.bdq {f:α->List Tk->PR γ}{K:β->U7 δ}{mk:α->PS->β}{pk:β->PS}{mk':γ->PS->δ}{pk':δ->PS}(h:RS T d n r m mk pk)
    (hb:∀(b:β) (k:Nat) (e a:Int),m=o b->pk b=(((k:Int),d,e,a),T)->k < T.xs.length->e≠0->∃c,K b=o c/\pk' c=(((k:Int),d,e,a),T))
    (hk:∀a ts (k:Nat),r = .ok (a,ts)->GK T k ts->ts.length<=n->RS T d n' (f a ts) (K (mk a (((k:Int),d,0,0),T))) mk' pk'):RS T d n' (r.bd f) (m.bind K) mk' pk':=by
 cases r with
 |error e=>
  obtain⟨b,k,rfl,h1,h2,h3⟩:=h;obtain⟨c,e1,e2⟩:=hb b k _ _ rfl h1 h2 h3;exact⟨c,k,e1,e2,h2,h3⟩
 |ok p=>
  obtain⟨a,ts⟩:=p;obtain⟨k,rfl,g,l⟩:=h;exact hk a ts k rfl g l
theorem zmb{st:PS}{b}(hb:q1v st=o b):b.2.2.2.xs.length=2:=by
 unfold q1v q6r at hb;obtain⟨x,_,hb⟩:=gd hb;obtain⟨y,_,hb⟩:=gd hb;obtain⟨z,_,hb⟩:=gd hb;cases hb;rfl
theorem zmc{x}{b}(hb:q1w h x=o b):b.2.2.2.xs.length=3:=by
 unfold q1w q4m at hb;obtain⟨x,hx,hb⟩:=gd hb;obtain⟨y,_,hb⟩:=gd hb;obtain⟨z,hz,hb⟩:=gd hb;cases hb;have:=zuW hz;have h2:=zmb hx;grind
theorem zmd(hb:BlkR T d h blk)(g:GK T k ts)(q at_:Int):RS T d (ts.length - 1) (wR blk q at_ ts) (q1w h (q,at_,((k:Int),d,0,0),T)) ndR pkR:=by
 unfold q1w q4m wR;refine(zsM g).bdq ?_ λm t1 k1 em g1 l1=>?_
 ·rintro⟨v,p,q,w⟩ k e a hm hp hk he;have h2:=zmb hm;simp only[pkR,D.injEq] at hp;obtain⟨rfl,rfl⟩:=hp;obtain⟨v2,w2,hw⟩:=hb.b (a:=a) hk he;obtain⟨wl,wb⟩:=w;simp only[hw,jj];rw[Yr (by grind)];exact⟨_,rfl,rfl⟩
 obtain⟨x,y,hk⟩:=zcu em;refine(hb.g g1).bd ?_ λb t2 k2 eb g2 l2 =>.ok g2 (by omega) ?_
 ·rintro⟨v,p,q,w⟩ k e a hp hk2 he;simp only[pkR,D.injEq] at hp;obtain⟨rfl,rfl⟩:=hp;simp only[ndR,hk,yq];rw[Yr (by simp)];exact⟨_,rfl,rfl⟩
 ·simp only[ndR,hk,yq,ndT];rw[Yr (by simp)];simp only[jj,UI,H,I,L,Ds];rw[ym b,yq]
theorem Z7(x y:List UInt8):(lit x=lit y)=(x=y):=propext ⟨λh=>by have:=congrArg bs h;simpa[wx] using this,λh=>by rw[h]⟩
theorem zuX(g:GK T k ts){w:List UInt8}(hw:∃c∈w,isL c=A):isP w ts=decide ((if(hd ts).k_=2 then(hd ts).T_ else lit [])=lit w):=by
 obtain⟨c,hc,hl⟩:=hw;unfold isP;by_cases h2:(hd ts).k_=2
 ·simp[h2]
 ·simp only[h2,jr,DF,jp,Z7];have e1:decide ([]=w)=false:=by
   grind
  rw[e1];by_cases h4:(hd ts).k_=4
  ·have hm:hd ts∈ts:=by
    match ts,g.g with
    |[],g=>exact absurd rfl g.ne
    |t::r,_=>simp[hd]
   have hne:¬ (hd ts).T_=lit w:=by
    intro e;have:=g.sg _ hm h4 c (by rw[e,wx];exact hc);grind
   simp[hne]
  ·simp[h4]
theorem zar(g:GK T k ts)(m:Nd):RS T d (ts.length - 1) (W3 m ts) ((q12 (lit [59],((k:Int),d,0,0),T)).bind λy=>o (ndT m,y.1,y.2,rS m.K_)) ndR pkR:=by
 unfold W3;refine(yh g [59]).bd ?_ λ_ t1 k1 _ g1 l1 =>.ok g1 (by omega) rfl
 rintro _ k e a rfl hk he;exact⟨_,rfl,rfl⟩
end
end
section
section
variable {T:Sl RTk}{d e a:Int}{k n:Nat}{ts:List Tk}
variable {h:zma}{blk:List Tk->PR Nd}
set_option maxHeartbeats 2000000 in
theorem zzT(hb:BlkR T d h blk)(g:GK T k ts):RS T d (ts.length - 1) (YY blk ts) (q32 h (((k:Int),d,0,0),T)) ndR pkR:=by
 unfold q32 q6t;simp only[g.idx,jj,toR,jl];have hgb:=g.b;obtain⟨F,hF⟩:∃F,F=(if(hd ts).k_=2 then(hd ts).T_ else lit []):=⟨_,rfl⟩
 have e1:(if(hd ts).k_=2 then o ((hd ts).a_,(hd ts).T_,((k:Int),d,(0:Int),(0:Int)),T,(0:Int),lit [],(0:Int),(0:Int)) else o ((hd ts).a_,lit [],((k:Int),d,0,0),T,0,lit [],0,0))=o ((hd ts).a_,F,((k:Int),d,0,0),T,0,lit [],0,0):=by
  grind
 have is:∀w:List UInt8,(∃c∈w,isL c=A)->isP w ts=decide (F=lit w):=λw hw=>by rw[hF];exact zuX g hw
 rw[e1];simp only[jj];clear e1 hF;unfold YY;rw[is [102,114,101,101] ⟨102,by simp,rfl⟩,is [108,111,99,107] ⟨108,by simp,rfl⟩,is [117,110,108,111,99,107] ⟨117,by simp,rfl⟩,is [105,102] ⟨105,by simp,rfl⟩,is [119,104,105,108,101] ⟨119,by simp,rfl⟩,is [114,101,116,117,114,110] ⟨114,by simp,rfl⟩,is [97,98,111,114,116] ⟨97,by simp,rfl⟩,is [102,111,114,107] ⟨102,by simp,rfl⟩];have gk:∀w:List UInt8,(∃c∈w,isL c=A)->F=lit w->GK T (k+1) ts.tail/\ts.tail.length+1=ts.length:=λw hw e=>g.is (s:=w) (by grind)
 have hw1:=zw (k:=k) (by omega);by_cases h1:F=lit [102,114,101,101]
 ·obtain⟨g1,l1⟩:=gk _ ⟨102,by simp,rfl⟩ h1;subst h1;simp (decide:=true) only [Z7,hw1,gh,jj,jo,jm,js,jq,jp,jk,jr];refine(yi g1).bd ?_ λm t1 k1 em g2 l2=>?_
  ·rintro⟨v,_⟩ k e a rfl hk he;simp only[Zq hk he,jj];exact⟨_,rfl,rfl⟩
  refine RS.mono (n:=t1.length - 1) ?_ (by omega);obtain⟨t,t',_,e3⟩:=bd_ok em;have:=zar (d:=d) g2 ⟨12,m.T_,m.n_,(hd ts).a_,nilS⟩;rw[yr] at this;cases e3;exact this
 by_cases h2:F=lit [108,111,99,107]
 ·obtain⟨g1,l1⟩:=gk _ ⟨108,by simp,rfl⟩ h2;subst h2;simp (decide:=true) only [Z7,hw1,gh,jj,jo,jm,js,jq,jp,jk,jr];unfold atP Yq;simp only[PR.bd_assoc,PR.bd_ok];refine(yi g1).bd ?_ λm t1 k1 em g2 l2=>?_
  ·rintro⟨v,_⟩ k e a rfl hk he;simp only[Zq hk he,xX hk he,jj];exact⟨_,rfl,rfl⟩
  refine(yh g2 [91]).bd ?_ λ_ t2 k2 _ g3 l3=>?_
  ·rintro _ k e a rfl hk he;simp only[Zq hk he,xX hk he,jj,id];exact⟨_,rfl,rfl⟩
  refine(wM g3).bd ?_ λt t3 k3 _ g4 l4=>?_
  ·rintro⟨v,_⟩ k e a rfl hk he;simp only[Zq hk he,xX hk he,jj,id];exact⟨_,rfl,rfl⟩
  refine(yh g4 [93]).bd ?_ λ_ t5 k5 _ g5 l5=>?_
  ·rintro _ k e a rfl hk he;simp only[Zq hk he,xX hk he,jj,id];exact⟨_,rfl,rfl⟩
  refine RS.mono (n:=t5.length - 1) ?_ (by omega);have:=zar (d:=d) g5 ⟨13,m.T_,1 * t.n_,(hd ts).a_,nilS⟩;rw[yr,wN] at this;rw[wN];exact this
 by_cases h3:F=lit [117,110,108,111,99,107]
 ·obtain⟨g1,l1⟩:=gk _ ⟨117,by simp,rfl⟩ h3;subst h3;simp (decide:=true) only [Z7,hw1,gh,jj,jo,jm,js,jq,jp,jk,jr];unfold atP Yq;simp only[PR.bd_assoc,PR.bd_ok];refine(yi g1).bd ?_ λm t1 k1 em g2 l2=>?_
  ·rintro⟨v,_⟩ k e a rfl hk he;simp only[Zq hk he,xX hk he,jj];exact⟨_,rfl,rfl⟩
  refine(yh g2 [91]).bd ?_ λ_ t2 k2 _ g3 l3=>?_
  ·rintro _ k e a rfl hk he;simp only[Zq hk he,xX hk he,jj,id];exact⟨_,rfl,rfl⟩
  refine(wM g3).bd ?_ λt t3 k3 _ g4 l4=>?_
  ·rintro⟨v,_⟩ k e a rfl hk he;simp only[Zq hk he,xX hk he,jj,id];exact⟨_,rfl,rfl⟩
  refine(yh g4 [93]).bd ?_ λ_ t5 k5 _ g5 l5=>?_
  ·rintro _ k e a rfl hk he;simp only[Zq hk he,xX hk he,jj,id];exact⟨_,rfl,rfl⟩
  refine RS.mono (n:=t5.length - 1) ?_ (by omega);have:=zar (d:=d) g5 ⟨14,m.T_,1 * t.n_,(hd ts).a_,nilS⟩;rw[yr,wN] at this;rw[wN];exact this
 by_cases h4:F=lit [105,102]
 ·obtain⟨g1,l1⟩:=gk _ ⟨105,by simp,rfl⟩ h4;subst h4;simp (decide:=true) only [Z7,hw1,gh,jj,jo,jm,js,jq,jp,jk,jr];refine(zmd hb g1 15 (hd ts).a_).bdq ?_ λm t1 k1 em g2 l2=>?_
  ·rintro⟨v,p,q,w⟩ k e a hm hp hk he;have h3:=zmc hm;simp only[pkR,D.injEq] at hp;obtain⟨rfl,rfl⟩:=hp;obtain⟨wl,wb⟩:=w;simp only[yt hk he,jj,jk,jp];rw[Yr (by grind)];exact⟨_,rfl,rfl⟩
  obtain⟨x,y,z,hk⟩:=zdP em;simp only[ndR,hk,yq];refine Yh g2 (λh5 g3 l3=>?_) λh5=>?_
  ·simp only[jq,gh,jj];refine(hb.g g3).bd ?_ λb t2 k2 eb g4 l4 =>.ok g4 (by omega) ?_
   ·rintro⟨v,p,q,w⟩ k e a hp hk2 he;simp only[pkR,D.injEq] at hp;obtain⟨rfl,rfl⟩:=hp;rw[Yr (by simp)];exact⟨_,rfl,rfl⟩
   ·simp only[ndR,hk,yq,ndT];rw[Yr (by simp)];simp only[jj,jo,UI,H,I,L,Ds];rw[ym b,yq]
  ·simp only[jk,jp,jj];rw[Yr (by simp)];refine .ok g2 (by omega) ?_;simp only[ndR,hk,yq,ndT,jj,jo,UI,H,I,L,Ds,Xr]
 by_cases h5:F=lit [119,104,105,108,101]
 ·obtain⟨g1,l1⟩:=gk _ ⟨119,by simp,rfl⟩ h5;subst h5;simp (decide:=true) only [Z7,hw1,gh,jj,jo,jm,js,jq,jp,jk,jr];rw[show((q1w h (16,(hd ts).a_,(((k+1:Nat):Int),d,0,0),T)).bind λy=>o (y.1,y.2.1,y.2.2.1,y.2.2.2))=q1w h (16,(hd ts).a_,(((k+1:Nat):Int),d,0,0),T) from G _];exact(zmd hb g1 16 (hd ts).a_).mono (by omega)
 by_cases h6:F=lit [114,101,116,117,114,110]
 ·obtain⟨g1,l1⟩:=gk _ ⟨114,by simp,rfl⟩ h6;subst h6;simp (decide:=true) only [Z7,hw1,gh,jj,jo,jm,js,jq,jp,jk,jr,zdT g1];cases h7:isP [59] ts.tail with
  |true=>
   simp only[Dr,jk,jp,jq,jj,jm];have:=zar (d:=d) g1 ⟨17,lit [],0,(hd ts).a_,nilS⟩;rw[yr] at this;exact this.mono (by omega)
  |false=>
   simp only[D8,jk,jp,jq,gh,jj,jm];refine(Wr g1).bd ?_ λx t2 k2 _ g3 l3=>?_
   ·rintro⟨v,_⟩ k e a rfl hk he;simp only[Zq hk he,jj];exact⟨_,rfl,rfl⟩
   have:=zar (d:=d) g3 ⟨17,lit [],0,(hd ts).a_,⟨[x],A⟩⟩;rw[Ws] at this;simp only[zi];exact this.mono (by omega)
 by_cases h7:F=lit [97,98,111,114,116]
 ·obtain⟨g1,l1⟩:=gk _ ⟨97,by simp,rfl⟩ h7;subst h7;simp (decide:=true) only [Z7,hw1,gh,jj,jo,jm,js,jq,jp,jk,jr];have:=zar (d:=d) g1 ⟨18,lit [],0,(hd ts).a_,nilS⟩;rw[yr] at this;exact this.mono (by omega)
 by_cases h8:F=lit [102,111,114,107]
 ·obtain⟨g1,l1⟩:=gk _ ⟨102,by simp,rfl⟩ h8;subst h8;simp (decide:=true) only [Z7,hw1,gh,jj,jo,jm,js,jq,jp,jk,jr];refine(yi g1).bd ?_ λm t1 k1 em g2 l2=>?_
  ·rintro⟨v,_⟩ k e a rfl hk he;obtain⟨w,hw⟩:=zzQ (d:=d) (a:=a) hk he;simp only[hw,Zq hk he,jj];exact⟨_,rfl,rfl⟩
  refine(zl9 g2).bd ?_ λks t2 k2 _ g3 l3=>?_
  ·rintro⟨p,q,w⟩ k e a hp hk he;simp only[D.injEq] at hp;obtain⟨rfl,rfl⟩:=hp;simp only[Zq hk he,jj];exact⟨_,rfl,rfl⟩
  refine RS.mono (n:=t2.length - 1) ?_ (by omega);obtain⟨t,t',_,e3⟩:=bd_ok em;have:=zar (d:=d) g3 ⟨19,m.T_,m.n_,(hd ts).a_,ks⟩;cases e3;exact this
 simp only[h1,h2,h3,h4,h5,h6,h7,h8,gh,jj,jr,jp,jk];rw[<- PR.bd_assoc];refine(zya g).bd ?_ λm t1 k1 em g2 l2=>?_
 ·rintro⟨v,p,q,w⟩ k e a hp hk he;simp only[pkR,D.injEq] at hp;obtain⟨rfl,rfl⟩:=hp;simp only[Zq hk he,jj,jm];exact⟨_,rfl,rfl⟩
 have:=zar (d:=d) g2 m;simp only[jm];exact this.mono (by omega)
end
end
section
section
variable {T:Sl RTk}{d e a:Int}{k n:Nat}{ts:List Tk}
variable {h:zma}{blk:List Tk->PR Nd}
theorem xI{acc:List Nd}{x:RNd}(h:acc.length<=30000):zo 64 (rS (mkS acc)) [x]=o ⟨acc.map rN++[x],A⟩:=by
 rw[yq,yQ (by simp[mkS];omega) (by simp[mkS];omega)];simp[mkS]
theorem zgT(acc:List Nd)(x:Nd):(⟨acc.map rN++[rN x],A⟩:Sl RNd)=rS (mkS (acc++[x])):=by
 rw[yq];simp[mkS]
noncomputable abbrev zdU(h:zma):=q4a q1p q19 q12 q10 (q32 h)
theorem zas(he:e≠0)(p:Int)(u v:Int×U5×Int×Int)(acc:Sl RNd):lpO (zdU h) ((p,d,e,a),T,u,v,acc)=o ((p,d,e,a),T,u,v,acc):=
 zA (by unfold zdU q4a;grind)
theorem zsO (hb:BlkR T d h blk) {u v:Int×U5×Int×Int}:∀(j:Nat) (ts:List Tk) (k:Nat) (acc:List Nd),GK T k ts->ts.length<=j->acc.length+ts.length<=30000->
    RS T d (ts.length - 1) (xH (YY blk) j acc ts) (lpO (zdU h) (((k:Int),d,0,0),T,u,v,rS (mkS acc))) (λl st=>(st.1,st.2,u,v,rS (mkS l))) (λb=>(b.1,b.2.1))
 |0,ts,k,acc,g,hj,ha=>absurd (UT (by omega)) g.g.ne
 |j+1,ts,k,acc,g,hj,ha=>by
  unfold xH;cases h2:isP [125] ts with
  |true=>
   obtain⟨g1,l1⟩:=g.is h2;rw[zA (y:=((((k+1:Nat):Int),d,0,0),T,u,v,rS (mkS acc))) (by unfold zdU q4a;simp only[xf g,h2,jj,js,jq])];exact .ok g1 (by omega) rfl
  |false=>
   simp only[jk,jp];have hs:=zzT hb g;cases es:YY blk ts with
   |error er=>
    rw[es] at hs;obtain⟨⟨w,p,q,ks⟩,k1,e1,hp,h3,h4⟩:=hs;simp only[pkR,D.injEq] at hp;obtain⟨rfl,hq⟩:=hp;obtain rfl:T=q:=hq.symm;have hn:zdU h (((k:Int),d,0,0),T,u,v,rS (mkS acc))=o (.next (((k1:Int),d,er.2,er.1),T,u,v,⟨acc.map rN++[⟨w.1,w.2.1,w.2.2.1,w.2.2.2,ks⟩],A⟩)):=by
     unfold zdU q4a;simp only[xf g,h2,jj,js,jq,jk,jp,e1];rw[xI (acc:=acc) (by omega)];rfl
    rw[zG hn,zas h4];exact⟨_,k1,rfl,rfl,h3,h4⟩
   |ok p=>
    obtain⟨x,t1⟩:=p;rw[es] at hs;obtain⟨k1,e1,g1,l1⟩:=hs;have hn:zdU h (((k:Int),d,0,0),T,u,v,rS (mkS acc))=o (.next (((k1:Int),d,0,0),T,u,v,rS (mkS (acc++[x])))):=by
     unfold zdU q4a;simp only[xf g,h2,jj,js,jq,jk,jp,e1,ndR,ndT];rw[xI (acc:=acc) (by grind),show q6.mk x.k_ x.T_ x.n_ x.a_ (rS x.K_)=rN x from(ym x).symm,zgT];rfl
    have hpos:=DG.2 g.g.ne;rw[zG hn];exact(zsO hb j t1 k1 (acc++[x]) g1 (by omega) (by simp;omega)).mono (by omega)
theorem znT:∀(r:Nat) (j:Nat) (d:Int),d=8 - (r:Int)->0<=d->r+1<=j->BlkR T d (q49 j) (yg r)
 |r,0,d,_,_,hk=>by omega
 |0,j+1,d,hd',h0,hk=>by
  refine⟨λ{ts k} g=>?_,λ{k e a} h1 h2=>znR h1 h2 (by omega) j⟩;show RS T d _ _ (q2g _ _ _ _ _ _) _ _;unfold q2g yg;simp only[g.idx,zdT g,jj,toR];have hw:U8 (d+1)=d+1:=zK (by omega) (by omega);have hw2:U8 (d+1 - 1)=d:=by rw[zK (by omega) (by omega)];omega
  cases e:isP [123] ts with
  |true=>
   have:decide (8<=d)=true:=gm (by omega);simp only[jq,jj,this,V0 g,Zq g.lt (show(21:Int)≠0 by decide)];rw[zas (by decide)];simp only[jj,hw,hw2];exact⟨_,k,rfl,rfl,g.lt,by simp[xV]⟩
  |false=>
   simp only[jk,jp,jj];have hm:zW [123] ts = .error ((hd ts).a_,20):=by unfold zW;rw[e];rfl
   have:=yh (d:=d) g [123];rw[hm] at this;obtain⟨b,k1,e1,rfl,h3,h4⟩:=this;rw[e1];simp only[jj,id];rw[zas h4];simp only[jj,hw,hw2];exact⟨_,k1,rfl,rfl,h3,h4⟩
 |r+1,j+1,d,hd',h0,hk=>by
  refine⟨λ{ts k} g=>?_,λ{k e a} h1 h2=>znR h1 h2 (by omega) j⟩;show RS T d _ _ (q2g _ _ _ _ _ _) _ _;unfold q2g yg;simp only[g.idx,zdT g,jj,toR];have hw:U8 (d+1)=d+1:=zK (by omega) (by omega);have hw2:U8 (d+1 - 1)=d:=by rw[zK (by omega) (by omega)];omega
  have h8:decide (8<=d)=false:=decide_eq_false (by omega);have hb:=znT r j (d+1) (by omega) (by omega) (by omega);have hgb:=g.b;have e1:(if isP [123] ts=A then o (decide (8<=d),((k:Int),d,(0:Int),(0:Int)),T,((0,lit [],0,0):Int×U5×Int×Int),((9,lit [],0,(hd ts).a_):Int×U5×Int×Int)) else o (B,((k:Int),d,0,0),T,(0,lit [],0,0),(9,lit [],0,(hd ts).a_)))=o (B,((k:Int),d,0,0),T,(0,lit [],0,0),(9,lit [],0,(hd ts).a_)):=by
   grind
  rw[e1];simp only[jj,jk,jp];refine(yh g [123]).bd ?_ λ_ t1 k1 _ g1 l1=>?_
  ·rintro _ k e a rfl hk he;simp only[id];rw[zas he];simp only[jj,hw,hw2];exact⟨_,rfl,rfl⟩
  simp only[hw];have lp:=zsO hb (u:=(0,lit [],0,0)) (v:=(9,lit [],0,(hd ts).a_)) t1.length t1 k1 [] g1 (UN _) (by grind);rw[show rS (mkS ([]:List Nd))=⟨[],B⟩ by rw[yq];rfl] at lp;cases es:xH (YY (yg r)) t1.length [] t1 with
  |error er=>
   rw[es] at lp;obtain⟨⟨p,q,w⟩,k2,e2,hp,h3,h4⟩:=lp;simp only[D.injEq] at hp;obtain⟨rfl,hq⟩:=hp;obtain rfl:T=q:=hq.symm;rw[e2];simp only[jj,hw2];exact⟨_,k2,rfl,rfl,h3,h4⟩
  |ok p=>
   obtain⟨l,t2⟩:=p;rw[es] at lp;obtain⟨k2,e2,g2,l2⟩:=lp;rw[e2];simp only[jj,hw2];exact .ok g2 (by omega) rfl
theorem zgU:BlkR T 0 q5f (yg 8):=znT 8 100000 0 (by omega) (by omega) (by omega)
end
end
section
section
variable {T:Sl RTk}{d e a:Int}{k n:Nat}{ts:List Tk}{z hdr:Int×U5×Int×Int}
abbrev LSt:=(Int×Int×Int×Int)×Sl RTk×(Int×U5×Int×Int)×(Int×U5×Int×Int)×Sl RNd
def LQ(T:Sl RTk)(d:Int)(n:Nat)(r:PR (List Nd))(m:U7 LSt)(z hdr:Int×U5×Int×Int):Prop:=match r with
 | .error e=>∃(k:Nat) (w:Sl RNd),m=o (((k:Int),d,e.2,e.1),T,z,hdr,w)/\k < T.xs.length/\e.2≠0/\w.xs.length<=30001
 | .ok (l,ts)=>∃k:Nat,m=o (((k:Int),d,0,0),T,z,hdr,rS (mkS l))/\GK T k ts/\ts.length<=n/\l.length+ts.length<=30001
theorem LQ.bd {r:PR (List Nd)}{f:List Nd->List Tk->PR γ}{m:U7 LSt}{K:LSt->U7 δ}{mk':γ->PS->δ}{pk':δ->PS}(h:LQ T d n r m z hdr)
    (hb:∀(k:Nat) (e a:Int) (w:Sl RNd),k < T.xs.length->e≠0->w.xs.length<=30001->∃c,K (((k:Int),d,e,a),T,z,hdr,w)=o c/\pk' c=(((k:Int),d,e,a),T))
    (hk:∀l ts (k:Nat),r = .ok (l,ts)->GK T k ts->ts.length<=n->l.length+ts.length<=30001->RS T d n' (f l ts) (K (((k:Int),d,0,0),T,z,hdr,rS (mkS l))) mk' pk'):RS T d n' (r.bd f) (m.bind K) mk' pk':=by
 cases r with
 |error e=>
  obtain⟨k,w,rfl,h1,h2,h3⟩:=h;obtain⟨c,e1,e2⟩:=hb k _ _ w h1 h2 h3;exact⟨c,k,e1,e2,h1,h2⟩
 |ok p=>
  obtain⟨l,ts⟩:=p;obtain⟨k,rfl,g,l1,l2⟩:=h;exact hk l ts k rfl g l1 l2
theorem LQ.mono{r:PR (List Nd)}{m:U7 LSt}(h:LQ T d n r m z hdr)(l:n<=n'):LQ T d n' r m z hdr:=by
 cases r with
 |error e=>exact h
 |ok p=>obtain⟨k,h1,h2,h3,h4⟩:=h;exact⟨k,h1,h2,UP h3 l,h4⟩
def zpF(T:Sl RTk)(d:Int)(one:List Tk->PR Nd)(f:PS->U7 (RNd×PS)):Prop:=∀{ts k},GK T k ts->RS T d (ts.length - 1) (one ts) (f (((k:Int),d,0,0),T)) (λn st=>(rN n,st)) E
noncomputable def zgV(st:PS):U7 (RNd×PS):=(q16 st).bind λy5=>(q12 (lit [58],y5.2)).bind λy6=>(q3c y6).bind λy7=>
 o (q6.mk 7 y5.1.2.1 y5.1.2.2.1 y5.1.2.2.2 (C [y7.1] A),y7.2)
theorem zyb:zpF T d xG zgV:=by
 intro ts k g;unfold zgV xG;refine(yi g).bd ?_ λm t1 k1 em g1 l1=>?_
 ·rintro⟨v,_⟩ k e a rfl hk he;obtain⟨w,hw⟩:=zl8 (d:=d) (a:=a) hk he;simp only[Zq hk he,hw,jj];grind
 refine(yh g1 [58]).bd ?_ λ_ t2 k2 _ g2 l2=>?_
 ·rintro _ k e a rfl hk he;obtain⟨w,hw⟩:=zl8 (d:=d) (a:=a) hk he;grind
 refine(zsN g2).bd ?_ λx t3 k3 _ g3 l3 =>.ok g3 (by omega) ?_
 ·grind
 ·rw[Xr,Ws];rfl
noncomputable abbrev V1:=qav q16 q12 q10 q3c q1p q19 q5f
noncomputable def zep(f:PS->U7 (RNd×PS))(cl:U5)(fl:Bool->Bool)(x:PS)(z hdr:Int×U5×Int×Int)(w:Sl RNd):U7 (Step (Bool×LSt) LSt):=
 (f x).bind λy=>(zo 64 w [y.1]).bind λw'=>(q10 (lit [44],y.2)).bind λy9=>
  (if(!y9.1)=A then(q12 (cl,y9.2)).bind λy10=>o (fl y9.1,y10.1,y10.2,z,hdr,w') else o (fl y9.1,y9.2.1,y9.2.2,z,hdr,w')).bind λy11=>o (Step.next y11)
theorem zdV {f:PS->U7 (RNd×PS)}(hf:zpF T d one f) {cl:List UInt8}{fl:Bool->Bool}{body:Bool×LSt->U7 (Step (Bool×LSt) LSt)}
    (h1:∀(k:Nat) w,body (fl A,((k:Int),d,0,0),T,z,hdr,w)=zep f (lit cl) fl (((k:Int),d,0,0),T) z hdr w)
    (h0:∀(p:Int×Int×Int×Int) w,body (fl B,p,T,z,hdr,w)=o (.done (p,T,z,hdr,w))):∀(j:Nat) (ts:List Tk) (k:Nat) (acc:List Nd),GK T k ts->ts.length<=j->acc.length+ts.length<=30000->
    LQ T d (ts.length - 1) ((one ts).bd λa t1=>(Zs one j (acc++[a]) t1).bd λl t2=>(zW cl t2).bd λ_ t3 =>.ok (l,t3)) (lpO body (fl A,((k:Int),d,0,0),T,z,hdr,rS (mkS acc))) z hdr
 |0,ts,k,acc,g,hj,ha=>absurd (UT (by omega)) g.g.ne
 |j+1,ts,k,acc,g,hj,ha=>by
  have hpos:=DG.2 g.g.ne;have hr:=hf g;have hb:=h1 k (rS (mkS acc));unfold zep at hb;cases e:one ts with
  |error er=>
   rw[e] at hr;obtain⟨⟨v,_⟩,k1,e1,rfl,h3,h4⟩:=hr;rw[e1] at hb;simp only[jj] at hb;rw[xI (acc:=acc) (by omega)] at hb;simp only[jj,yt h3 h4,D8,jq,Zq h3 h4] at hb;rw[zG hb,zA (h0 _ _)];exact⟨k1,_,rfl,h3,h4,by simp;omega⟩
  |ok p=>
   obtain⟨x,t1⟩:=p;rw[e] at hr;obtain⟨k1,e1,g1,l1⟩:=hr;rw[e1] at hb;simp only[jj] at hb;rw[xI (acc:=acc) (by omega),zgT] at hb;simp only[jj,xf g1] at hb;rw[PR.bd_ok];unfold Zs;have hpos1:=DG.2 g1.g.ne;cases h44:isP [44] t1 with
   |true=>
    obtain⟨g2,l2⟩:=g1.is h44;rw[h44] at hb;simp only[Dr,jk,jp,jq,jj] at hb;rw[zG hb];simp only[jq,PR.bd_assoc];exact(zdV hf h1 h0 j t1.tail (k1+1) (acc++[x]) g2 (by omega) (by simp;omega)).mono (by omega)
   |false=>
    rw[h44] at hb;simp only[D8,jk,jp,jq,jj] at hb;simp only[jk,jp,PR.bd_ok];have hm:=yh (d:=d) g1 cl;cases em:zW cl t1 with
    |error er=>
     rw[em] at hm;obtain⟨b,k2,e2,hp,h3,h4⟩:=hm;simp only[id] at hp;subst hp;rw[e2] at hb;simp only[jj] at hb;rw[zG hb,zA (h0 _ _)];exact⟨k2,_,rfl,h3,h4,by rw[yq];simp[mkS];omega⟩
    |ok p=>
     obtain⟨u,t2⟩:=p;rw[em] at hm;obtain⟨k2,e2,g2,l2⟩:=hm;rw[e2] at hb;simp only[jj] at hb;rw[zG hb,zA (h0 _ _)];exact⟨k2,rfl,g2,by omega,by simp;omega⟩
theorem zuY(k:Nat)(w:Sl RNd):V1 (B,((k:Int),d,0,0),T,z,hdr,w)=zep zgV (lit [41]) (λb=> !b) (((k:Int),d,0,0),T) z hdr w:=by
 unfold V1 qav zep zgV;simp only[D8,jq,js,jj,gh,zi];congr 1;funext y5;grind
theorem zme(p:Int×Int×Int×Int)(w:Sl RNd):V1 (A,p,T,z,hdr,w)=o (.done (p,T,z,hdr,w)):=rfl
end
end
section
section
variable {T:Sl RTk}{d e a:Int}{k n:Nat}{ts:List Tk}{z hdr:Int×U5×Int×Int}
theorem PR.bd_ite{c:Prop}[Decidable c]{p q:PR α}:PR.bd (if c then p else q) f=if c then p.bd f else q.bd f:=by split<;>rfl
theorem zmf:rS (mkS ([]:List Nd))=⟨[],B⟩:=by rw[yq];rfl
theorem zsP{w:Sl RNd}{x:RNd}(h:w.xs.length<=40000):∃w',zo 64 w [x]=o w'/\w'.xs.length=w.xs.length+1:=by
 rw[yQ (by simp;omega) (by simp;omega)];grind
theorem znU(he:e≠0)(p:Int)(w:Sl RNd):lpO V1 (B,(p,d,e,a),T,z,hdr,w)=o ((p,d,e,a),T,z,hdr,w):=
 zA (by unfold V1 qav;grind)
theorem zuZ (g:GK T k ts) (hl:ts.length<=25000):LQ T d ts.length ((if isP [41] ts=A then .ok ([],ts) else ya xG ts:PR (List Nd)).bd λps t3=>(zW [41] t3).bd λ_ t4 =>.ok (ps,t4))
    ((q10 (lit [41],((k:Int),d,0,0),T)).bind λy2=>lpO V1 (y2.1,y2.2.1,y2.2.2,z,hdr,C [] B)) z hdr:=by
 rw[xf g,jj];cases h:isP [41] ts with
 |true=>
  obtain⟨g1,l1⟩:=g.is h;have hm:zW [41] ts = .ok ((),ts.tail):=by unfold zW;rw[jv h]
  simp only[jq,PR.bd_ok,hm];rw[zA (zme _ _)];exact⟨k+1,by rw[zmf],g1,by omega,by simp;omega⟩
 |false=>
  simp only[jk,jp];unfold ya;rw[PR.bd_assoc,<- zmf];exact(zdV (fl:=λb=> !b) (body:=V1) (z:=z) (hdr:=hdr) zyb zuY zme ts.length ts k [] g (UN _) (by simp;omega)).mono (by omega)
def zmg(t4:List Tk):PR Nd:=if isP [45,62] t4=A then(if isP [38] t4.tail=A then xV 20 t4.tail else Wq t4.tail) else .ok (⟨8,lit [],0,(hd t4).a_,nilS⟩,t4)
theorem zsQ (at_:Int) (ts:List Tk):fnP at_ ts=(Zb ts).bd λn t1=>(zW [40] t1).bd λ_ t2=>
    ((if isP [41] t2=A then .ok ([],t2) else ya xG t2:PR (List Nd)).bd λps t3=>(zW [41] t3).bd λ_ t4 =>.ok (ps,t4)).bd λps t4=>
    (zmg t4).bd λret t5=>(yg 8 t5).bd λb t6 =>.ok (⟨6,n.T_,n.n_,at_,⟨ps++[ret,b],A⟩⟩,t6):=by
 unfold fnP zmg;simp only[PR.bd_assoc,PR.bd_ok]
theorem zB3(g:GK T k ts)(hl:ts.length<=25000)(at_:Int):RS T 0 (ts.length - 1) (fnP at_ ts) (q6u (at_,((k:Int),0,0,0),T)) ndR pkR:=by
 unfold q6u qdp;rw[zsQ]
 have tl:∀{k:Nat} {e a:Int} {w:Sl RNd} {z hdr:Int×U5×Int×Int},k < T.xs.length->e≠0->w.xs.length<=30001->∃c,((za T (k:Int)).bind λy13=>(za T (k:Int)).bind λy14=>(q10 (lit [45,62],((k:Int),0,e,a),T)).bind λy15=>
     (if y15.1=A then(q1p (lit [38],y15.2)).bind λy16=>(if y16.1=A then(q19 (20,y16.2)).bind λy17=>o (y17.1,y17.2,z,hdr,((8,lit [],0,y14.a_):Int×U5×Int×Int),w) else o (y16.2.1,y16.2.2,z,hdr,(8,lit [],0,y14.a_),w)).bind λy18=>
       (q3c (y18.1,y18.2.1)).bind λy19=>o (y19.2.1,y19.2.2,y18.2.2.1,y18.2.2.2.1,kr y19.1,y18.2.2.2.2.2)
     else o (y15.2.1,y15.2.2,z,hdr,q6.mk 8 (lit []) 0 y14.a_ (C [] B),w)).bind λy20=>
     (q5f (y20.1,y20.2.1)).bind λy21=>(zo 64 y20.2.2.2.2.2 [kr y20.2.2.2.2.1]).bind λy22=>
     (zo 64 y22 [q6.mk y21.1.1 y21.1.2.1 y21.1.2.2.1 y21.1.2.2.2 y21.2.2.2]).bind λy23=>o (y20.2.2.2.1,y21.2.1,y21.2.2.1,y23))=o c/\pkR c=(((k:Int),0,e,a),T):=by
  intro k e a w z hdr hk he hw;obtain⟨t,ht⟩:=zcy hk;obtain⟨v2,w2,hb⟩:=zgU.b (a:=a) hk he;simp only[ht,yt hk he,hb,jj,jk,jp];obtain⟨w3,e3,l3⟩:=zsP (w:=w) (x:=q6.mk 8 (lit []) 0 t.a_ (C [] B)) (by omega);obtain⟨w4,e4,l4⟩:=zsP (w:=w3) (x:=q6.mk v2.1 v2.2.1 v2.2.2.1 v2.2.2.2 w2) (by omega);simp only[e3,e4,jj];exact⟨_,rfl,rfl⟩
 refine(yi g).bd ?_ λm t1 k1 em g1 l1=>?_
 ·rintro⟨v,_⟩ k e a rfl hk he;simp only[Zq hk he,yt hk he,jj];rw[znU he];simp only[jj];exact tl hk he (by simp)
 refine(yh g1 [40]).bd ?_ λ_ t2 k2 _ g2 l2=>?_
 ·rintro _ k e a rfl hk he;simp only[yt hk he,jj,id];rw[znU he];simp only[jj];exact tl hk he (by simp)
 rw[<- gh];refine(zuZ g2 (by omega)).bd ?_ λps t4 k4 _ g4 l4 l4b=>?_
 ·intro k e a w hk he hw;exact tl hk he hw
 have hpos:=DG.2 g4.g.ne;simp only[g4.idx,jj,toR]
 have fin:∀{t5:List Tk} {k5:Nat} (ret:Nd),GK T k5 t5->t5.length<=t4.length->RS T 0 (ts.length - 1) ((yg 8 t5).bd λb t6 =>.ok (⟨6,m.T_,m.n_,at_,⟨ps++[ret,b],A⟩⟩,t6))
     ((q5f (((k5:Int),0,0,0),T)).bind λy21=>(zo 64 (rS (mkS ps)) [rN ret]).bind λy22=>
     (zo 64 y22 [q6.mk y21.1.1 y21.1.2.1 y21.1.2.2.1 y21.1.2.2.2 y21.2.2.2]).bind λy23=>o (((6,m.T_,m.n_,at_):Int×U5×Int×Int),y21.2.1,y21.2.2.1,y23)) ndR pkR:=by
  intro t5 k5 ret g5 l5;rw[xI (acc:=ps) (by omega)];refine(zgU.g g5).bd ?_ λb t6 k6 _ g6 l6 =>.ok g6 (by omega) ?_
  ·rintro⟨v,p,q,w⟩ k e a hp hk he;simp only[pkR,D.injEq] at hp;obtain⟨rfl,rfl⟩:=hp;simp only[jj];rw[Yr (by simp;omega)];exact⟨_,rfl,rfl⟩
  ·simp only[jj,ndR,ndT];rw[Yr (by simp;omega),show q6.mk b.k_ b.T_ b.n_ b.a_ (rS b.K_)=rN b from(ym b).symm,yq];simp
 unfold zmg;rw[PR.bd_ite];refine Yh g4 (λh5 g5 l5=>?_) λh5=>?_
 · simp only[jq,zdT g5,jj];cases h6:isP [38] t4.tail with
   |true=>
    simp only[jq,V0 g5,jj];obtain⟨v,hv⟩:=zl8 (d:=0) (a:=(hd t4.tail).a_) g5.lt (show(20:Int)≠0 by decide);obtain⟨v2,w2,hb⟩:=zgU.b (a:=(hd t4.tail).a_) g5.lt (show(20:Int)≠0 by decide);simp only[hv,hb,jj,zi];rw[xI (acc:=ps) (by omega)];simp only[jj];rw[Yr (by simp;omega)];exact⟨_,_,rfl,rfl,g5.lt,by simp[xV]⟩
   |false=>
    simp only[jk,jp,jj,gh];refine(zsN g5).bd ?_ λret t5 k5 _ g6 l6=>?_
    ·rintro⟨v,_⟩ k e a rfl hk he;obtain⟨v2,w2,hb⟩:=zgU.b (a:=a) hk he;simp only[hb,jj,zi];rw[xI (acc:=ps) (by omega)];simp only[jj];rw[Yr (by simp;omega)];exact⟨_,rfl,rfl⟩
    ·simp only[zi];exact fin ret g6 (by omega)
 ·simp only[jk,jp,jj];rw[show q6.mk 8 (lit []) 0 (hd t4).a_ (C [] B)=rN ⟨8,lit [],0,(hd t4).a_,nilS⟩ by rw[Xr,yr]];simp only[zi,PR.bd_ok];exact fin _ g4 (by omega)
end
end
section
section
variable {T:Sl RTk}{d e a:Int}{k n:Nat}{ts:List Tk}{z hdr:Int×U5×Int×Int}
theorem zzU(g:GK T k ts):RS T d (ts.length - 1) (vh ts) (q44 (((k:Int),d,0,0),T)) (λn st=>(rN n,st)) E:=by
 unfold q44 q98 vh;simp only[g.idx,jj,toR];refine Yh g (λh g1 l1=>?_) λh=>?_
 ·simp only[jq];exact .ok g1 (by omega) (by rw[Xr,yr])
 simp only[jk,jp];refine Yh g (λh g1 l1=>?_) λh=>?_
 ·simp only[jq];exact .ok g1 (by omega) (by rw[Xr,yr])
 simp only[jk,jp];have no:∀(i:Int) (s:List UInt8) (z q:Int×U5×Int×Int),za (⟨[lit [99,111,117,110,116,101,100],lit [108,111,99,107],lit [103,117,97,114,100]],A⟩:Sl U5) i=o (lit s)->0<=i->i < 3->isP s ts=B->q3s q10 q16 q19 (i,((k:Int),d,0,0),T,z,q,C [lit [99,111,117,110,116,101,100],lit [108,111,99,107],lit [103,117,97,114,100]] A)=o (.next (i+1,((k:Int),d,0,0),T,z,q,C [lit [99,111,117,110,116,101,100],lit [108,111,99,107],lit [103,117,97,114,100]] A)):=by
  intro i s z q hs h0 h3 hi;unfold q3s;simp only[hs,xf g,hi,jj,jk,jp];rw[jv (by simp[Sl.len];omega),zK (by omega) (by omega)]
 have yes:∀(i:Int) (s:List UInt8),za (⟨[lit [99,111,117,110,116,101,100],lit [108,111,99,107],lit [103,117,97,114,100]],A⟩:Sl U5) i=o (lit s)->0<=i->i < 3->isP s ts=A->
     RS T d (ts.length - 1) ((Zb ts.tail).bd λk t1 =>.ok (⟨2,(hd ts).T_,0,(hd ts).a_,⟨[k],A⟩⟩,t1)) ((lpO (q3s q10 q16 q19) (i,((k:Int),d,0,0),T,((0,lit [],0,0):Int×U5×Int×Int),(2,(hd ts).T_,0,(hd ts).a_),C [lit [99,111,117,110,116,101,100],lit [108,111,99,107],lit [103,117,97,114,100]] A)).bind λy11=>
      Sum.elim (λy12=>o (q6.mk y12.2.2.1.1 y12.2.2.1.2.1 y12.2.2.1.2.2.1 y12.2.2.1.2.2.2 y12.2.2.2,y12.1,y12.2.1)) (λy13=>(q19 (20,y13.1,y13.2.1)).bind λy14=>o (q6.mk y13.2.2.2.1 y13.2.2.2.2.1 y13.2.2.2.2.2.1 y13.2.2.2.2.2.2 (C [] B),y14)) y11) (λn st=>(rN n,st)) E:=by
  intro i s hs h0 h3 hi;obtain⟨g1,l1⟩:=g.is hi
  have hb:q3s q10 q16 q19 (i,((k:Int),d,0,0),T,(0,lit [],0,0),(2,(hd ts).T_,0,(hd ts).a_),C [lit [99,111,117,110,116,101,100],lit [108,111,99,107],lit [103,117,97,114,100]] A) =
      (q16 ((((k+1:Nat):Int),d,0,0),T)).bind λy10=>o (.done (.inl (y10.2.1,y10.2.2,(2,(hd ts).T_,0,(hd ts).a_),C [q6.mk y10.1.1 y10.1.2.1 y10.1.2.2.1 y10.1.2.2.2 (C [] B)] A))):=by
   unfold q3s;simp only[hs,xf g,hi,jj,jq];rw[jv (by simp[Sl.len];omega)]
  have hr:=yi (d:=d) g1;cases e:Zb ts.tail with
  |error er=>
   rw[e] at hr;obtain⟨⟨v,_⟩,k1,e1,rfl,h5,h6⟩:=hr;rw[e1,jj] at hb;rw[zA hb];exact⟨_,k1,rfl,rfl,h5,h6⟩
  |ok p=>
   obtain⟨m,t1⟩:=p;rw[e] at hr;obtain⟨k1,e1,g2,l2⟩:=hr;rw[e1,jj] at hb;rw[zA hb];refine .ok g2 (by omega) ?_;simp only[jj,jo];rw[X6 m (zN e),Xr,Ws]
 cases h3:isP [99,111,117,110,116,101,100] ts with
 |true=>exact yes 0 _ rfl (by omega) (by omega) h3
 |false=>
 rw[zG (no 0 _ _ _ rfl (by omega) (by omega) h3)];simp only[jk,jp];cases h4:isP [108,111,99,107] ts with
 |true=>exact yes (0+1) _ rfl (by omega) (by omega) h4
 |false=>
 rw[zG (no (0+1) _ _ _ rfl (by omega) (by omega) h4)];simp only[jk,jp];cases h5:isP [103,117,97,114,100] ts with
 |true=>exact yes (0+1+1) _ rfl (by omega) (by omega) h5
 |false=>
 rw[zG (no (0+1+1) _ _ _ rfl (by omega) (by omega) h5),zA (y :=.inr (((k:Int),d,0,0),T,_,_)) rfl];simp only[jk,jp,jj,jm,V0 g];exact⟨_,k,rfl,rfl,g.lt,by simp[xV]⟩
noncomputable def zeq(f:PS->U7 ((Int×U5×Int×Int)×(Int×Int×Int×Int)×Sl RTk×Sl RNd))(st:PS):U7 (RNd×PS):=
 (f st).bind λy=>o (q6.mk y.1.1 y.1.2.1 y.1.2.2.1 y.1.2.2.2 y.2.2.2,y.2.1,y.2.2.1)
theorem zsR{f:PS->U7 ((Int×U5×Int×Int)×(Int×Int×Int×Int)×Sl RTk×Sl RNd)}(h:∀{ts k},GK T k ts->RS T d (ts.length - 1) (one ts) (f (((k:Int),d,0,0),T)) ndR pkR):zpF T d one (zeq f):=by
 intro ts k g;have hr:=h g;unfold zeq;cases e:one ts with
 |error er=>
  rw[e] at hr;obtain⟨⟨v,p,q,w⟩,k1,e1,hp,h5,h6⟩:=hr;rw[e1];exact⟨_,k1,rfl,hp,h5,h6⟩
 |ok p=>
  obtain⟨m,t1⟩:=p;rw[e] at hr;obtain⟨k1,e1,g2,l2⟩:=hr;rw[e1];exact .ok g2 l2 (by simp only[jj,ndR,ndT];rw[ym])
theorem zyc(g:GK T k ts):RS T d (ts.length - 1) (xF ts) (q3t (((k:Int),d,0,0),T)) ndR pkR:=by
 unfold q3t qbz xF;refine(yi g).bd ?_ λm t1 k1 em g1 l1=>?_
 ·rintro⟨v,_⟩ k e a rfl hk he;simp only[yt hk he,jj,jk,jp];exact⟨_,rfl,rfl⟩
 refine Yh g1 (λh g2 l2=>?_) λh=>?_
 ·simp only[jq,gh,jj];refine(yi g2).bd ?_ λx t3 k3 ex g3 l3=>?_
  ·rintro⟨v,_⟩ k e a rfl hk he;simp only[Zq hk he,jj];exact⟨_,rfl,rfl⟩
  refine(yh g3 [93]).bd ?_ λ_ t4 k4 _ g4 l4 =>.ok g4 (by omega) ?_
  ·rintro _ k e a rfl hk he;exact⟨_,rfl,rfl⟩
  ·simp only[ndR,Ws];rw[X6 x (zN ex)];rfl
 ·simp only[jk,jp,jj];exact .ok g1 (by omega) (by simp only[ndR,yr];rfl)
noncomputable abbrev Vq:=qd3 q16 q44 q10 q3t q12 q1v
noncomputable abbrev W4:=qd4 q16 q44 q10 q3t q12 q1v
theorem zBs(k:Nat)(w:Sl RNd):Vq (A,((k:Int),d,0,0),T,z,hdr,w)=zep (zeq q3t) (lit [125]) (λb=>b) (((k:Int),d,0,0),T) z hdr w:=by
 unfold Vq qd3 zep zeq;grind
theorem zpG(p:Int×Int×Int×Int)(w:Sl RNd):Vq (B,p,T,z,hdr,w)=o (.done (p,T,z,hdr,w)):=rfl
theorem zBt(p:Int×Int×Int×Int)(w:Sl RNd):W4 (A,p,T,z,hdr,w)=(zeq q1v (p,T)).bind λy=>(zo 64 w [y.1]).bind λw'=>(q10 (lit [44],y.2)).bind λy9=>o (.next (y9.1,y9.2.1,y9.2.2,z,hdr,w')):=by
 unfold W4 qd4 zeq;grind
theorem zjl(p:Int×Int×Int×Int)(w:Sl RNd):W4 (B,p,T,z,hdr,w)=o (.done (p,T,z,hdr,w)):=rfl
theorem zgW:∀(j:Nat) (ts:List Tk) (k:Nat) (acc:List Nd),GK T k ts->ts.length<=j->acc.length+ts.length<=30000->
    LQ T d (ts.length - 1) ((YE ts).bd λa t1=>Zs YE j (acc++[a]) t1) (lpO W4 (A,((k:Int),d,0,0),T,z,hdr,rS (mkS acc))) z hdr
 |0,ts,k,acc,g,hj,ha=>absurd (UT (by omega)) g.g.ne
 |j+1,ts,k,acc,g,hj,ha=>by
  have hpos:=DG.2 g.g.ne;have hr:=zsR (T:=T) (d:=d) (one:=YE) (f:=q1v) (λg=>zsM g) g;have hb:=zBt (T:=T) (z:=z) (hdr:=hdr) ((k:Int),d,0,0) (rS (mkS acc));cases e:YE ts with
  |error er=>
   rw[e] at hr;obtain⟨⟨v,_⟩,k1,e1,rfl,h3,h4⟩:=hr;rw[e1] at hb;simp only[jj] at hb;rw[xI (acc:=acc) (by omega)] at hb;simp only[jj,yt h3 h4] at hb;rw[zG hb,zA (zjl _ _)];exact⟨k1,_,rfl,h3,h4,by simp;omega⟩
  |ok p=>
   obtain⟨x,t1⟩:=p;rw[e] at hr;obtain⟨k1,e1,g1,l1⟩:=hr;rw[e1] at hb;simp only[jj] at hb;rw[xI (acc:=acc) (by omega),zgT] at hb;simp only[jj,xf g1] at hb;rw[PR.bd_ok];unfold Zs;have hpos1:=DG.2 g1.g.ne;cases h44:isP [44] t1 with
   |true=>
    obtain⟨g2,l2⟩:=g1.is h44;rw[h44] at hb;simp only[jq] at hb;rw[zG hb];simp only[jq];exact(zgW j t1.tail (k1+1) (acc++[x]) g2 (by omega) (by simp;omega)).mono (by omega)
   |false=>
    rw[h44] at hb;simp only[jk,jp] at hb;simp only[jk,jp];rw[zG hb,zA (zjl _ _)];exact⟨k1,rfl,g1,by omega,by simp;omega⟩
end
end
section
section
variable {T:Sl RTk}{d e a:Int}{k n:Nat}{ts:List Tk}{z hdr:Int×U5×Int×Int}
theorem V2(p:List Nd):∀(j:Nat) (acc:List Nd) (ts:List Tk),Zs one j (p++acc) ts=(Zs one j acc ts).bd λl t =>.ok (p++l,t)
 |0,acc,ts=>rfl
 |j+1,acc,ts=>by
  unfold Zs;cases isP [44] ts with
  |false=>rfl
  |true=>
   simp only[jq,PR.bd_assoc];congr 1;funext a t;rw[Df];exact V2 p j (acc++[a]) t
theorem zzV{l:List α}(h:l≠[]):mkS l=⟨l,A⟩:=by cases l;exact absurd rfl h;rfl
def W5(s:Nd)(t2:List Tk):PR (List Nd):=if isP [123] t2=A then(ya xF t2.tail).bd λl t3=>(zW [125] t3).bd λ_ t4 =>.ok ([s]++l,t4) else .ok ([s],t2)
def zbq(ks:List Nd)(t5:List Tk):PR (List Nd):=if isP [119,104,101,114,101] t5=A then(ya YE t5.tail).bd λl t6 =>.ok (ks++l,t6) else .ok (ks,t5)
theorem zu0 (g:GK T k ts) (hl:ts.length<=25000) (s:Nd):LQ T d ts.length (W5 s ts)
    ((q10 (lit [123],((k:Int),d,0,0),T)).bind λy2=>lpO Vq (y2.1,y2.2.1,y2.2.2,z,hdr,rS (mkS [s]))) z hdr:=by
 rw[xf g,jj];unfold W5;cases h:isP [123] ts with
 |true=>
  obtain⟨g1,l1⟩:=g.is h;simp only[jq];have:=zdV (d:=d) (fl:=λb=>b) (body:=Vq) (z:=z) (hdr:=hdr) (zsR (one:=xF) (f:=q3t) λg=>zyc g) zBs zpG ts.tail.length ts.tail (k+1) [s] g1 (UN _) (by simp;omega);unfold ya;simp only[V2,PR.bd_assoc,PR.bd_ok] at this |-
  exact this.mono (by omega)
 |false=>
  simp only[jk,jp];rw[zA (zpG _ _)];exact⟨k,rfl,g,UN _,by simp;omega⟩
theorem zu1 (g:GK T k ts) (ks:List Nd) (hl:ks.length+ts.length<=30000):LQ T d ts.length (zbq ks ts)
    ((q10 (lit [119,104,101,114,101],((k:Int),d,0,0),T)).bind λy2=>lpO W4 (y2.1,y2.2.1,y2.2.2,z,hdr,rS (mkS ks))) z hdr:=by
 rw[xf g,jj];unfold zbq;cases h:isP [119,104,101,114,101] ts with
 |true=>
  obtain⟨g1,l1⟩:=g.is h;simp only[jq];have:=zgW (d:=d) (z:=z) (hdr:=hdr) ts.tail.length ts.tail (k+1) ks g1 (UN _) (by omega);unfold ya;simp only[V2,PR.bd_assoc,PR.bd_ok] at this |-
  exact this.mono (by omega)
 |false=>
  simp only[jk,jp];rw[zA (zjl _ _)];exact⟨k,rfl,g,UN _,by omega⟩
theorem znV(at_:Int)(ts:List Tk):zdN at_ ts=(Zb ts).bd λn t1=>(vh t1).bd λs t2=>(W5 s t2).bd λks t5=>(zbq ks t5).bd λks t7=>(zW [59] t7).bd λ_ t8 =>.ok (⟨1,n.T_,n.n_,at_,⟨ks,A⟩⟩,t8):=rfl
theorem zsS{s:Nd}{ts:List Tk}{l:List Nd}(h:W5 s ts = .ok (l,t)):l≠[]:=by
 unfold W5 at h;split at h
 ·obtain⟨a,t1,_,h⟩:=bd_ok h;obtain⟨b,t2,_,h⟩:=bd_ok h;cases h;simp
 grind
theorem zu2{ks:List Nd}{ts:List Tk}{l:List Nd}(hk:ks≠[])(h:zbq ks ts = .ok (l,t)):l≠[]:=by
 unfold zbq at h;split at h
 ·obtain⟨a,t1,_,h⟩:=bd_ok h;cases h;simp[hk]
 grind
theorem zBu(g:GK T k ts)(hl:ts.length<=25000)(at_:Int):RS T d (ts.length - 1) (zdN at_ ts) (q69 (at_,((k:Int),d,0,0),T)) ndR pkR:=by
 unfold q69 qd5;rw[znV];have t2:∀{k:Nat} {e a:Int} {w:Sl RNd} {hdr:Int×U5×Int×Int},k < T.xs.length->e≠0->∃c,(q12 (lit [59],((k:Int),d,e,a),T)).bind (λy16=>o (hdr,y16.1,y16.2,w))=o c/\pkR c=(((k:Int),d,e,a),T):=by
  intro k e a w hdr hk he;rw[Zq hk he];exact⟨_,rfl,rfl⟩
 have tl:∀{k:Nat} {e a:Int} {w:Sl RNd} {z hdr:Int×U5×Int×Int},k < T.xs.length->e≠0->∃c,((q10 (lit [119,104,101,114,101],((k:Int),d,e,a),T)).bind λy10=>(lpO W4 (y10.1,y10.2.1,y10.2.2,z,hdr,w)).bind λy15=>(q12 (lit [59],y15.1,y15.2.1)).bind λy16=>o (y15.2.2.2.1,y16.1,y16.2,y15.2.2.2.2))=o c/\pkR c=(((k:Int),d,e,a),T):=by
  intro k e a w z hdr hk he;rw[yt hk he,jj,zA (zjl _ _),jj];exact t2 hk he
 have ts':∀{k:Nat} {e a:Int} {w:Sl RNd} {z hdr:Int×U5×Int×Int},k < T.xs.length->e≠0->∃c,((q10 (lit [123],((k:Int),d,e,a),T)).bind λy2=>(lpO Vq (y2.1,y2.2.1,y2.2.2,z,hdr,w)).bind λy9=>(q10 (lit [119,104,101,114,101],y9.1,y9.2.1)).bind λy10=>(lpO W4 (y10.1,y10.2.1,y10.2.2,y9.2.2)).bind λy15=>(q12 (lit [59],y15.1,y15.2.1)).bind λy16=>o (y15.2.2.2.1,y16.1,y16.2,y15.2.2.2.2))=o c/\pkR c=(((k:Int),d,e,a),T):=by
  intro k e a w z hdr hk he;rw[yt hk he,jj,zA (zpG _ _),jj];exact tl hk he
 refine(yi g).bd ?_ λm t1 k1 em g1 l1=>?_
 ·rintro⟨v,_⟩ k e a rfl hk he;obtain⟨v2,hv⟩:=zzR (d:=d) (a:=a) hk he;simp only[hv,jj];exact ts' hk he
 refine(zzU g1).bd ?_ λs t2' k2 es g2 l2=>?_
 ·rintro⟨v,_⟩ k e a rfl hk he;exact ts' hk he
 simp only[zi];rw[show(⟨[rN s],A⟩:Sl RNd)=rS (mkS [s]) by rw[yq];rfl,<- gh];refine(zu0 g2 (by omega) s).bd ?_ λks t5 k5 ek g5 l5 l5b=>?_
 ·intro k e a w hk he hw;exact tl hk he
 rw[<- gh];have hpos:=DG.2 g5.g.ne;by_cases hks:ks.length+t5.length<=30000
 ·refine(zu1 g5 ks hks).bd ?_ λks2 t7 k7 ef g7 l7 l7b=>?_
  ·intro k e a w hk he hw;exact t2 hk he
  refine(yh g7 [59]).bd ?_ λ_ t8 k8 _ g8 l8 =>.ok g8 (by omega) ?_
  ·rintro _ k e a rfl hk he;exact⟨_,rfl,rfl⟩
  ·rw[zzV (zu2 (zsS ek) ef)];rfl
 ·exfalso;have:∀(j:Nat) (acc:List Nd) (t:List Tk) (l:List Nd) (t3:List Tk),Zs xF j acc t = .ok (l,t3)->l.length+t3.length<=acc.length+t.length:=by
   intro j
   induction j with
   |zero=>intro acc t l t3 e;cases e;grind
   |succ j ih=>
    intro acc t l t3 e;unfold Zs at e;split at e
    ·rename_i hp;obtain⟨x,t',hx,e⟩:=bd_ok e;have h1:=ih _ _ _ _ e;have h2:=(zdQ _ _ _ hx).2;grind
    grind
  unfold W5 at ek;split at ek
  ·rename_i hp;have h3:=zM hp;obtain⟨l,t3,hx,ek⟩:=bd_ok ek;obtain⟨u,t4,hm,ek⟩:=bd_ok ek;unfold ya at hx;obtain⟨x,t',hx1,hx⟩:=bd_ok hx;have h1:=this _ _ _ _ _ hx;have h2:=(zdQ _ _ _ hx1).2;have h4:=Zp hm;grind
  grind
theorem zmh:∀(k:Nat) (n:Nd),zl n<=k->zl n<=1000000000->q33 k (rN n)=o (zl n:Int)
 |0,n,h,_=>by have:=z6 n;omega
 |k+1,n,h,hb=>by
  obtain⟨a,b,c,d,⟨xs,nn⟩⟩:=n;rw[Xr,yq];show((lpO (q6v (q33 k)) (1,0,q6.mk a b c d ⟨xs.map rN,nn⟩)).bind λy3=>o y3)=_;have hs:zl ⟨a,b,c,d,⟨xs,nn⟩⟩=zd xs+1:=by rw[zk]
  have loop:∀(m i:Nat),i+m=xs.length->lpO (q6v (q33 k)) (((1+zd (xs.take i):Nat):Int),(i:Int),q6.mk a b c d ⟨xs.map rN,nn⟩)=o ((1+zd xs:Nat):Int):=by
   intro m
   induction m with
   |zero=>
    intro i hi;have hf:q6v (q33 k) (((1+zd (xs.take i):Nat):Int),(i:Int),q6.mk a b c d ⟨xs.map rN,nn⟩)=o (.done ((1+zd (xs.take i):Nat):Int)):=by
     show(if decide ((i:Int) < ((xs.map rN).length:Int))=A then _ else _)=_;grind
    rw[zA hf,Dq (by omega)]
   |succ m ih=>
    intro i hi;have hlt:i < xs.length:=by omega
    have hg:za (⟨xs.map rN,nn⟩:Sl RNd) (i:Int)=o (rN xs[i]):=by
     rw[wT];simp[hlt]
    have h1:=zfh hlt;have h2:=zbo xs (i+1);have hr:q33 k (rN xs[i])=o (zl xs[i]:Int):=zmh k xs[i] (by omega) (by omega);have hlen:xs.length<=zd xs:=by
     clear hr h1 h2 hg ih hs hb h hlt hi
     induction xs with
     |nil=>simp
     |cons x r ih=>have:=z6 x;simp only[zd,jz];omega
    have hf:q6v (q33 k) (((1+zd (xs.take i):Nat):Int),(i:Int),q6.mk a b c d ⟨xs.map rN,nn⟩)=o (.next (((1+zd (xs.take (i+1)):Nat):Int),((i+1:Nat):Int),q6.mk a b c d ⟨xs.map rN,nn⟩)):=by
     show(if decide ((i:Int) < ((xs.map rN).length:Int))=A then(za (⟨xs.map rN,nn⟩:Sl RNd) (i:Int)).bind _ else _)=_;rw[jv (by simp;omega),hg];simp only[jj,zi,hr];rw[zK (by omega) (by omega),zK (by omega) (by omega),h1];have e1:((1+zd (xs.take i):Nat):Int)+(zl xs[i]:Int)=((1+(zd (xs.take i)+zl xs[i]):Nat):Int):=by omega
     grind
    rw[zG hf];grind
  have:=loop xs.length 0 (by omega);simp only[List.take_zero,zd,Di] at this;grind
theorem zyd{l:List UInt8}(h:two l=A):∀c∈l.take 2,isL c=false:=by
 unfold two at h;simp only[UR,jl] at h;rcases h with h | h | h<;>rw[h]<;>decide
theorem zye{l:List UInt8}{n:Nat}{v:Int}(h:nxt l = .tok 4 n v):∀c∈l.take n,isL c=false:=by
 unfold nxt at h;split at h
 ·cases h
 rename_i c r;split at h
 ·cases h
 split at h
 ·cases h
 split at h
 ·unfold X0 at h;grind
 split at h
 ·unfold xD at h;grind
 ·unfold xE at h;split at h
  ·cases h
  ·cases h;unfold YL;split
   ·rename_i h2;exact zyd h2
   ·rename_i h2;simp only;grind
theorem zfN:∀(f at_:Nat) (l:List UInt8) (ts:List Tk),Wo f at_ l = .inr ts->∀t∈ts,t.k_=4->∀c∈bs t.T_,isL c=B
 |0,at_,l,ts,h=>by cases h;simp
 |f+1,at_,l,ts,h=>by
  unfold Wo at h;split at h
  ·cases h;simp
  split at h
  ·exact zfN f _ _ ts h
  ·cases h
  ·rename_i k n v hn;split at h
   ·cases h
   ·rename_i ts' hts;cases h;intro t ht hk;rcases De.1 ht with rfl | ht
    ·simp only at hk;subst hk;rw[wx];exact zye hn
    ·exact zfN f _ _ ts' hts t ht hk
theorem zmi(s:U5):∀t∈(Z1 s).2.2.xs,t.k_=4->∀c∈bs t.T_,isL c=false:=by
 unfold Z1;split
 ·simp
 ·split
  ·simp
  ·rename_i ts e;intro t ht hk;simp only[U9,D2] at ht;rcases ht with ht | rfl
   ·exact zfN _ _ _ _ e t ht hk
   ·simp at hk
end
end
section
section
variable {T:Sl RTk}{d e a:Int}{k n:Nat}{ts:List Tk}{z1 z2:Int×U5×Int×Int}
noncomputable abbrev vD:=q86 q6h q10 q6u q12 q69 qa8
theorem zh9(he:e≠0)(p:Int)(w:Sl RNd):lpO vD (z1,(p,d,e,a),z2,T,w)=o (z1,(p,d,e,a),z2,T,w):=
 zA (by unfold vD q86;grind)
theorem zgX:∀(j:Nat) (ts:List Tk) (k:Nat) (acc:List Nd),GK T k ts->ts.length<=25000->ts.length<=j->acc.length+ts.length<=30000->
    match YA j acc ts with
    | .error er=>∃(k1:Nat) (w:Sl RNd),lpO vD (z1,((k:Int),0,0,0),z2,T,rS (mkS acc))=o (z1,((k1:Int),0,er.2,er.1),z2,T,w)/\er.2≠0
    | .ok (l,_)=>∃k1:Nat,lpO vD (z1,((k:Int),0,0,0),z2,T,rS (mkS acc))=o (z1,((k1:Int),0,0,0),z2,T,rS (mkS l))
 |0,ts,k,acc,g,hl,hj,ha=>absurd (UT (by omega)) g.g.ne
 |j+1,ts,k,acc,g,hl,hj,ha=>by
  have hpos:=DG.2 g.g.ne;unfold YA
  have hb:vD (z1,((k:Int),0,0,0),z2,T,rS (mkS acc))=if(hd ts).k_=0 then o (.done (z1,((k:Int),0,0,0),z2,T,rS (mkS acc))) else
      if isP [102,110] ts=A then(q6u ((hd ts).a_,(((k+1:Nat):Int),0,0,0),T)).bind λy8=>(zo 64 (rS (mkS acc)) [q6.mk y8.1.1 y8.1.2.1 y8.1.2.2.1 y8.1.2.2.2 y8.2.2.2]).bind λy9=>o (.next (z1,y8.2.1,z2,y8.2.2.1,y9))
      else(q12 (lit [116,121,112,101],((k:Int),0,0,0),T)).bind λy10=>(if y10.1.2.2.1=0 then(q69 ((hd ts).a_,y10)).bind λy11=>(zo 64 (rS (mkS acc)) [q6.mk y11.1.1 y11.1.2.1 y11.1.2.2.1 y11.1.2.2.2 y11.2.2.2]).bind λy12=>o (z1,y11.2.1,z2,y11.2.2.1,y12) else o (z1,y10.1,z2,y10.2,rS (mkS acc))).bind λy=>o (.next y):=by
   unfold vD q86;simp only[g.idx,jj,js,jq,toR,jl];by_cases h0:(hd ts).k_=0
   ·grind
   · simp only[h0,Dm,ju,jp,jq,xf g,jj];cases h1:isP [102,110] ts with
     |true=>grind
     |false=>grind
  by_cases h0:(hd ts).k_=0
  · rw[jv h0] at hb |-
    exact⟨k,zA hb⟩
  rw[jx h0] at hb |-
  cases h1:isP [102,110] ts with
  |true=>
   obtain⟨g1,l1⟩:=g.is h1;rw[h1] at hb;simp only[jq] at hb |-
   have hr:=zB3 g1 (by omega) (hd ts).a_;cases es:fnP (hd ts).a_ ts.tail with
   |error er=>
    rw[es] at hr;obtain⟨⟨w,p,q,ks⟩,k1,e1,hp,h3,h4⟩:=hr;simp only[pkR,D.injEq] at hp;obtain⟨rfl,hq⟩:=hp;obtain rfl:T=q:=hq.symm;rw[e1,jj,xI (acc:=acc) (by omega)] at hb;exact⟨k1,_,by rw[zG hb,zh9 h4],h4⟩
   |ok p=>
    obtain⟨x,t1⟩:=p;rw[es] at hr;obtain⟨k1,e1,g2,l2⟩:=hr;rw[e1,jj] at hb;simp only[ndR,ndT] at hb;rw[xI (acc:=acc) (by omega),show q6.mk x.k_ x.T_ x.n_ x.a_ (rS x.K_)=rN x from(ym x).symm,zgT] at hb;have ih:=zgX j t1 k1 (acc++[x]) g2 (by omega) (by omega) (by simp;omega);rw[zG hb];exact ih
  |false=>
   rw[h1] at hb;simp only[jk,jp] at hb |-
   have hm:=yh (d:=0) g [116,121,112,101];cases em:zW [116,121,112,101] ts with
   |error er=>
    rw[em] at hm;obtain⟨b,k1,e1,hp,h3,h4⟩:=hm;simp only[id] at hp;subst hp;rw[e1,jj] at hb;simp only[h4,jp,jj] at hb;exact⟨k1,_,by rw[zG hb,zh9 h4],h4⟩
   |ok p=>
    obtain⟨u,t0⟩:=p;rw[em] at hm;obtain⟨k0,e0,g0,l0⟩:=hm;rw[e0,jj] at hb;simp only[jq] at hb;rw[PR.bd_ok];have hr:=zBu (d:=0) g0 (by omega) (hd ts).a_;cases es:zdN (hd ts).a_ t0 with
    |error er=>
     rw[es] at hr;obtain⟨⟨w,p,q,ks⟩,k1,e1,hp,h3,h4⟩:=hr;simp only[pkR,D.injEq] at hp;obtain⟨rfl,hq⟩:=hp;obtain rfl:T=q:=hq.symm;rw[e1,jj,xI (acc:=acc) (by omega)] at hb;exact⟨k1,_,by rw[zG hb,zh9 h4],h4⟩
    |ok p=>
     obtain⟨x,t1⟩:=p;rw[es] at hr;obtain⟨k1,e1,g2,l2⟩:=hr;rw[e1,jj] at hb;simp only[ndR,ndT] at hb;rw[xI (acc:=acc) (by omega),show q6.mk x.k_ x.T_ x.n_ x.a_ (rS x.K_)=rN x from(ym x).symm,zgT] at hb;have ih:=zgX j t1 k1 (acc++[x]) g2 (by omega) (by omega) (by simp;omega);rw[zG hb];exact ih
end
theorem zdW(s:U5):q2o s=o (rN (Xc s).1,(Xc s).2):=by
 unfold q2o qc0;rw[zpD,jj];have hz:rN vi=q6.mk 0 (lit []) 0 0 (C [] B):=by unfold vi;rw[Xr,yr]
 unfold Xc;simp only[jl];by_cases h:(Z1 s).2.1=0
 case neg=>grind
 case pos=>
 rw[jx (by simpa using h),jx (by simpa using h)];obtain⟨g,hn⟩:=zdR h;have hs:=zmi s;generalize hx:(Z1 s).2.2=X at g hn hs;obtain⟨ts,nn⟩:=X;simp only at g hn hs;subst hn;have hlen:=g.len;have gk:GK ⟨ts.map toR,A⟩ 0 ts:=⟨rfl,g,by omega,hs⟩;have lp:=zgX (z1:=(0,lit [],0,0)) (z2:=(0,lit [],0,0)) ts.length ts 0 [] gk (by omega) (UN _) (by simp;omega);rw[zmf] at lp;cases e:YA ts.length [] ts with
 |error er=>
  rw[e] at lp;obtain⟨k1,w,lp,h2⟩:=lp;have lp:lpO vD ((0,lit [],0,0),(0,0,0,0),(0,lit [],0,0),⟨ts.map toR,A⟩,C [] B)=_:=lp;grind
 |ok p=>
  obtain⟨l,t1⟩:=p;rw[e] at lp;obtain⟨k1,lp⟩:=lp;have lp:lpO vD ((0,lit [],0,0),(0,0,0,0),(0,lit [],0,0),⟨ts.map toR,A⟩,C [] B)=_:=lp;rw[lp];have hsz:=zaq _ _ _ _ _ e;simp only[zd] at hsz;have hsize:qa8 (q6.mk 0 (lit []) 0 0 (rS (mkS l)))=o ((zd l+1:Nat):Int):=by
   have:=zmh 100000 ⟨0,lit [],0,0,mkS l⟩ (by rw[zk];simp only[mkS];omega) (by rw[zk];simp only[mkS];omega);rw[zk,Xr] at this;exact this
  simp only[jj,Dm,jt,jp,hsize];by_cases hb:4096 < zd l+1
  ·grind
  ·rw[jx (by omega),jx hb,Xr]
end
end Go.Px
