/- Part Lc. -/
import Derived.Test.YtdmfcbmibjojpaaGreatDoorLb
set_option linter.unusedVariables false
set_option linter.unusedSimpArgs false
namespace Go.Px
open Bool renaming true->A,false->B
open List renaming map_nil->H,map_append->I,cons_append->L
open _root_.Option renaming some->o,bind_fun_some->G
open Prod renaming mk->D,snd->E
open Sl renaming mk->C
variable{n':Nat}{one:List Tk->PR Nd}{t:List Tk}{α β γ δ:Type}{f:α->List Tk->PR β}{m:U3 β}{r:PR α}
section
theorem DB:∀{α : Type _} {l : List α},0 < l.length↔l≠[]:=@List.length_pos_iff
theorem wO(s:Sl α)(i:Nat):za s (i:Int)=s.xs[i]?:=by
 unfold za;grind
theorem zB{s:Type}{f:s->U3 (Step s β)}{x y:s}(h:f x=o (.next y)):lpO f x=lpO f y:=by rw[Zu,h];rfl
theorem zw{s:Type}{f:s->U3 (Step s β)}{x:s}{y:β}(h:f x=o (.done y)):lpO f x=o y:=by rw[Zu,h];rfl
abbrev RTk:=q9
abbrev RNd:=q6
abbrev PS:=(Int×Int×Int×Int)×Sl RTk
mutual
def rN:Nd->RNd
 |⟨k,t,n,a,s⟩=>⟨k,t,n,a,rS s⟩
def rS:Sl Nd->Sl RNd
 |⟨l,b⟩=>⟨rL l,b⟩
def rL:List Nd->List RNd
 |[]=>[]
 |n::l=>rN n::rL l
end
theorem zsd:∀l:List Nd,rL l=l.map rN
 |[]=>by simp[rL]
 |n::l=>by simp[rL,zsd l]
theorem yp(s:Sl Nd):rS s=⟨s.xs.map rN,s.nn⟩:=by cases s;unfold rS;rw[zsd]
theorem yl(n:Nd):rN n=⟨n.k_,n.T_,n.N_,n.a_,rS n.K_⟩:=by cases n;unfold rN;rfl
theorem yq:rS nilS=⟨[],B⟩:=by rw[yp];rfl
theorem zj(a:RNd):kr a=a:=by cases a;rfl
structure GK(T:Sl RTk)(k:Nat)(ts:List Tk):Prop where
 dr:T.xs.drop k=ts.map toR
 g:TGood ts
 b:k+ts.length<=30000
 sg:∀t∈ts,t.k_=4->∀c∈bs t.T_,isL c=B
def RS(T:Sl RTk)(d:Int)(n:Nat)(r:PR α)(m:U3 β)(mk:α->PS->β)(pk:β->PS):Prop:=match r with
 | .error e=>∃(b:β) (k:Nat),m=o b/\pk b=(((k:Int),d,e.2,e.1),T)/\k < T.xs.length/\e.2≠0
 | .ok (a,ts)=>∃k:Nat,m=o (mk a (((k:Int),d,0,0),T))/\GK T k ts/\ts.length<=n
section
variable {T:Sl RTk}{d e a:Int}{k n:Nat}{ts:List Tk}
theorem GK.lt(h:GK T k ts):k < T.xs.length:=by
 have:=congrArg List.length h.dr;have h2:=DB.2 h.g.ne;grind
theorem GK.idx(h:GK T k ts):za T (k:Int)=o (toR (hd ts)):=by
 have h1:=congrArg (λl=>l[0]?) h.dr;simp only[Dh,De,UA] at h1;rw[show za T (k:Int)=T.xs[k]? from wO T k,h1]
 match ts,h.g with
 |[],g=>exact absurd rfl g.ne
 |t::r,_=>rfl
theorem GK.tail(h:GK T k ts)(hk:(hd ts).k_≠0):GK T (k+1) ts.tail/\ts.tail.length+1=ts.length:=by
 have h1:=h.g.tail hk;have h2:=h.g.tail_len;refine⟨⟨?_,h1,?_,λt ht=>h.sg t (List.mem_of_mem_tail ht)⟩,h2⟩
 ·rw[<- List.drop_drop,h.dr]
  match ts with
  |[]=>rfl
  |t::r=>rfl
 ·have:=h.b;omega
theorem zcl(hk:k < T.xs.length):∃t,za T (k:Int)=o t:=⟨T.xs[k],by rw[wO];grind⟩
theorem zx(hk:k < 1000000000):U4 ((k:Int)+1)=((k+1:Nat):Int):=by rw[zD (by omega) (by omega)];rfl
theorem zlW(hk:k < T.xs.length)(he:e≠0)(s:U0):q1n (s,((k:Int),d,e,a),T)=o (B,((k:Int),d,e,a),T):=by
 obtain⟨t,ht⟩:=zcl hk;unfold q1n qas;grind
theorem yr(hk:k < T.xs.length)(he:e≠0)(s:U0):q10 (s,((k:Int),d,e,a),T)=o (B,((k:Int),d,e,a),T):=by
 unfold q10 qa7;simp only[zlW hk he,jj,jk,jp]
theorem zdH(he:e≠0)(c:Int):q19 (c,((k:Int),d,e,a),T)=o (((k:Int),d,e,a),T):=by
 unfold q19 q93;grind
theorem Zq(hk:k < T.xs.length)(he:e≠0)(s:U0):q12 (s,((k:Int),d,e,a),T)=o (((k:Int),d,e,a),T):=by
 unfold q12 q94;simp only[yr hk he,zdH he,jj,D5,jq]
theorem zgC(hk:k < T.xs.length)(he:e≠0):q15 (((k:Int),d,e,a),T)=o ((0,lit [],0,0),((k:Int),d,e,a),T):=by
 obtain⟨t,ht⟩:=zcl hk;unfold q15 q95;simp only[ht,zdH he,jj,Di,he,ju,js,jq]
theorem xU(hk:k < T.xs.length)(he:e≠0):q2d (((k:Int),d,e,a),T)=o (0,((k:Int),d,e,a),T):=by
 obtain⟨t,ht⟩:=zcl hk;unfold q2d q7r;simp only[ht,zdH he,jj,Di,he,ju,js,jq]
theorem zgD(hk:k < T.xs.length)(he:e≠0)(x:RNd):q23 (x,((k:Int),d,e,a),T)=o (x,((k:Int),d,e,a),T):=by
 unfold q23 q96;simp only[yr hk he,jj,jk,jp,zj]
theorem zbc(hk:k < T.xs.length)(he:e≠0):∃v,q1r (((k:Int),d,e,a),T)=o (v,((k:Int),d,e,a),T):=by
 obtain⟨t,ht⟩:=zcl hk;unfold q1r q97;simp only[ht,yr hk he,xU hk he,zgC hk he,zgD hk he,jj,jk,jp];split<;>exact⟨_,rfl⟩
theorem zAS(hk:k < T.xs.length)(he:e≠0):q6c (((k:Int),d,e,a),T)=o (lit [],((k:Int),d,e,a),T):=by
 unfold q6c qa8;have h0:∀i:Int,∀s,za (⟨[lit [60],lit [60,61],lit [61,61]],A⟩:Sl U0) i=o s->0<=i->i < 3->q7e q10 q19 (i,((k:Int),d,e,a),T,C [lit [60],lit [60,61],lit [61,61]] A)=o (.next (i+1,((k:Int),d,e,a),T,C [lit [60],lit [60,61],lit [61,61]] A)):=by
  intro i s hs h0 h3;unfold q7e;simp only[hs,yr hk he,jj,jk,jp];rw[jv (by simp[Sl.len];omega),zD (by omega) (by omega)]
 rw[zB (h0 0 _ rfl (by omega) (by omega)),zB (h0 (0+1) _ rfl (by omega) (by omega)),zB (h0 (0+1+1) _ rfl (by omega) (by omega)),zw (y :=.inr (((k:Int),d,e,a),T)) rfl];simp only[jj,jm,zdH he]
theorem zzg(hk:k < T.xs.length)(he:e≠0):∃w,q3b (((k:Int),d,e,a),T)=o (((k:Int),d,e,a),T,w):=by
 unfold q3b q98;simp only[Zq hk he,yr hk he,jj,jk,jp,Di,he,ju,js,jq];grind
theorem zlX(hk:k < T.xs.length)(he:e≠0):∃v,q3c (((k:Int),d,e,a),T)=o (v,((k:Int),d,e,a),T):=by
 obtain⟨t,ht⟩:=zcl hk;unfold q3c q99;simp only[ht,Zq hk he,yr hk he,zgC hk he,jj,jk,jp,D5,jq];grind
theorem zse(hk:k < T.xs.length)(he:e≠0):∃v,q5z (((k:Int),d,e,a),T)=o (v,((k:Int),d,e,a),T):=by
 obtain⟨t,ht⟩:=zcl hk;obtain⟨v,hv⟩:=zbc (d:=d) (a:=a) hk he;unfold q5z q9a;simp only[ht,hv,Zq hk he,yr hk he,zlW hk he,zgC hk he,zgD hk he,jj,jk,jp];grind
theorem znH(hk:k < T.xs.length)(he:e≠0)(hd : -1000<=d/\d<=1000)(j:Nat):∃v w,q48 (j+1) (((k:Int),d,e,a),T)=o (v,((k:Int),d,e,a),T,w):=by
 obtain⟨t,ht⟩:=zcl hk;show∃v w,q2e _ _ _ _ _ _=_
 unfold q2e;simp only[ht,Zq hk he,zlW hk he,jj,jk,jp];rw[Zu];simp only[q49,he,jr,jk,jp,jj];rw[zD (n:=d+1) (by omega) (by omega),zD (by omega) (by omega),show d+1 - 1=d by omega];grind
theorem zzh(hk:k < T.xs.length)(he:e≠0):∃v,q44 (((k:Int),d,e,a),T)=o (v,((k:Int),d,e,a),T):=by
 obtain⟨t,ht⟩:=zcl hk;unfold q44 q9b;simp only[ht,yr hk he,jj,jk,jp];generalize ((0,lit [],0,0):Int×U0×Int×Int)=z;have h0:∀(i:Int) (s) (q:Int×U0×Int×Int),za (⟨[lit [99,111,117,110,116,101,100],lit [108,111,99,107],lit [103,117,97,114,100]],A⟩:Sl U0) i=o s->0<=i->i < 3->q3u q10 q15 q19 (i,((k:Int),d,e,a),T,z,q,C [lit [99,111,117,110,116,101,100],lit [108,111,99,107],lit [103,117,97,114,100]] A)=o (.next (i+1,((k:Int),d,e,a),T,z,q,C [lit [99,111,117,110,116,101,100],lit [108,111,99,107],lit [103,117,97,114,100]] A)):=by
  intro i s q hs h0 h3;unfold q3u;simp only[hs,yr hk he,jj,jk,jp];rw[jv (by simp[Sl.len];omega),zD (by omega) (by omega)]
 rw[zB (h0 0 _ _ rfl (by omega) (by omega)),zB (h0 (0+1) _ _ rfl (by omega) (by omega)),zB (h0 (0+1+1) _ _ rfl (by omega) (by omega)),zw (y :=.inr (((k:Int),d,e,a),T,z,_)) rfl];simp only[jj,jm,zdH he];grind
end
end
section
section
variable {T:Sl RTk}{d e a:Int}{k n:Nat}{ts:List Tk}
theorem RS.bd {f:α->List Tk->PR γ}{K:β->U3 δ}{mk:α->PS->β}{pk:β->PS}{mk':γ->PS->δ}{pk':δ->PS}(h:RS T d n r m mk pk)
    (hb:∀(b:β) (k:Nat) (e a:Int),pk b=(((k:Int),d,e,a),T)->k < T.xs.length->e≠0->∃c,K b=o c/\pk' c=(((k:Int),d,e,a),T))
    (hk:∀a ts (k:Nat),r = .ok (a,ts)->GK T k ts->ts.length<=n->RS T d n' (f a ts) (K (mk a (((k:Int),d,0,0),T))) mk' pk'):RS T d n' (r.bd f) (m.bind K) mk' pk':=by
 cases r with
 |error e=>
  obtain⟨b,k,rfl,h1,h2,h3⟩:=h;obtain⟨c,e1,e2⟩:=hb b k _ _ h1 h2 h3;exact⟨c,k,e1,e2,h2,h3⟩
 |ok p=>
  obtain⟨a,ts⟩:=p;obtain⟨k,rfl,g,l⟩:=h;exact hk a ts k rfl g l
theorem RS.ok{x:α}{mk:α->PS->β}{pk:β->PS}(g:GK T k ts)(l:ts.length<=n)(h:m=o (mk x (((k:Int),d,0,0),T))):RS T d n (.ok (x,ts)) m mk pk:=⟨k,h,g,l⟩
theorem RS.mono{mk:α->PS->β}{pk:β->PS}(h:RS T d n r m mk pk)(l:n<=n'):RS T d n' r m mk pk:=by
 cases r with
 |error e=>exact h
 |ok p=>obtain⟨k,h1,h2,h3⟩:=h;exact⟨k,h1,h2,UL h3 l⟩
theorem PR.bd_assoc{g:β->List Tk->PR γ}:(r.bd f).bd g=r.bd λa t=>(f a t).bd g:=by
 cases r<;>rfl
theorem PR.bd_ok{x:α}:PR.bd (.ok (x,t)) f=f x t:=rfl
theorem GK.is(g:GK T k ts){s:List UInt8}(h:isP s ts=A):GK T (k+1) ts.tail/\ts.tail.length+1=ts.length:=g.tail (zfv h)
theorem zdI(g:GK T k ts)(s:List UInt8):q1n (lit s,((k:Int),d,0,0),T)=o (isP s ts,((k:Int),d,0,0),T):=by
 unfold q1n qas isP;simp only[g.idx,jj,js,jq,jl,toR];grind
theorem xa(g:GK T k ts)(s:List UInt8):q10 (lit s,((k:Int),d,0,0),T)=o (isP s ts,(((if isP s ts=A then k+1 else k:Nat):Int),d,0,0),T):=by
 unfold q10 qa7;simp only[zdI g,jj];have:=g.b;cases h:isP s ts with
 |true=>simp only[jq,jj];rw[zx (by omega)]
 |false=>rfl
theorem VS(g:GK T k ts)(c:Int):q19 (c,((k:Int),d,0,0),T)=o (((k:Int),d,c,(hd ts).a_),T):=by
 unfold q19 q93;simp only[g.idx,jj,js,jq,toR]
theorem Ye (g:GK T k ts) {s:List UInt8}{K:Bool×PS->U3 β}{p q:PR α}{mk:α->PS->β}{pk:β->PS}(h1:isP s ts=A->GK T (k+1) ts.tail->ts.tail.length+1=ts.length->RS T d n p (K (A,(((k+1:Nat):Int),d,0,0),T)) mk pk)
    (h0:isP s ts=B->RS T d n q (K (B,((k:Int),d,0,0),T)) mk pk):RS T d n (if isP s ts=A then p else q) ((q10 (lit s,((k:Int),d,0,0),T)).bind K) mk pk:=by
 rw[xa g,jj];cases h:isP s ts with
 |true=>simp only[jq];exact h1 h (g.is h).1 (g.is h).2
 |false=>grind
theorem yg(g:GK T k ts)(s:List UInt8):RS T d (ts.length - 1) (zU s ts) (q12 (lit s,((k:Int),d,0,0),T)) (λ_ st=>st) id:=by
 unfold q12 q94 zU;refine Ye g (λh g1 l =>.ok g1 (by omega) rfl) λh=>?_
 simp only[D5,jq,VS g,jj];exact⟨_,k,rfl,rfl,g.lt,by simp[xS]⟩
theorem yh(g:GK T k ts):RS T d (ts.length - 1) (Zb ts) (q15 (((k:Int),d,0,0),T)) (λn st=>(ndT n,st)) E:=by
 unfold q15 q95 Zb ww;simp only[g.idx,jj,Di,jt,jr,jk,jp,toR,jl];have:=g.b;by_cases h:(hd ts).k_=1
 ·obtain⟨g1,l1⟩:=g.tail (by omega);simp only[h,jt,jq,jp];rw[zx (by omega)];exact .ok g1 (by omega) rfl
 ·simp only[h,ju,jq,jp];rw[VS g];exact⟨_,k,rfl,rfl,g.lt,by simp⟩
theorem wH(g:GK T k ts):RS T d (ts.length - 1) (ww 3 ts) (q2d (((k:Int),d,0,0),T)) (λt st=>(t.N_,st)) E:=by
 unfold q2d q7r ww;simp only[g.idx,jj,Di,jt,jr,jk,jp,toR,jl];have:=g.b;by_cases h:(hd ts).k_=3
 ·obtain⟨g1,l1⟩:=g.tail (by omega);simp only[h,jt,jq,jp];rw[zx (by omega)];exact .ok g1 (by omega) rfl
 ·simp only[h,ju,jq,jp];rw[VS g];exact⟨_,k,rfl,rfl,g.lt,by simp[xS]⟩
theorem wI(x:Int):1 * x=x:=by omega
theorem znI{t1:List Tk}{t:Tk}(g:TGood ts)(h:ww 3 ts = .ok (t,t1)):U4 (0 - t.N_) = -1 * t.N_:=by
 have:=ziG g h;rw[zD (by omega) (by omega)];omega
theorem zsf(m:Nd)(v:Int):rN (Nd.num m v)=⟨(rN m).k_,(rN m).T_,v,(rN m).a_,(rN m).K_⟩:=by cases m;simp[Nd.num,rN]
theorem zsg(g:GK T k ts)(m:Nd):RS T d ts.length (xT m ts) (q23 (rN m,((k:Int),d,0,0),T)) (λn st=>(rN n,st)) E:=by
 unfold q23 q96 xT Ym;refine Ye g (λh g1 l=>?_) λh=>?_
 ·simp only[jq,PR.bd_assoc,PR.bd_ok];refine(wH g1).bd ?_ λt t1 k1 et g2 l2 =>.ok g2 (by omega) (by rw[zsf,wI])
  grind
 ·simp only[jk,jp];refine Ye g (λh g1 l=>?_) λh=>?_
  ·simp only[jq,PR.bd_assoc,PR.bd_ok,gh,jj];refine(wH g1).bd ?_ λt t1 k1 et g2 l2 =>.ok g2 (by omega) (by rw[zsf,znI g1.g et])
   grind
  ·exact .ok g (by omega) (by simp only[jk,jp,jj,zj])
theorem X1(n:Nd)(h:n.K_=nilS):q6.mk (ndT n).1 (ndT n).2.1 (ndT n).2.2.1 (ndT n).2.2.2 (C [] B)=rN n:=by rw[yl,h,yq];rfl
theorem Wm(g:GK T k ts):RS T d (ts.length - 1) (Z3 ts) (q1r (((k:Int),d,0,0),T)) (λn st=>(rN n,st)) E:=by
 unfold q1r q97 Z3 Ym;simp only[g.idx,jj,toR,jl];by_cases h3:(hd ts).k_=3
 ·rw[jv h3,jv h3];simp only[PR.bd_assoc,PR.bd_ok];refine(wH g).bd ?_ λt t1 k1 et g2 l2 =>.ok g2 (by omega) (by rw[wI,yl,yq])
  grind
 ·rw[jx h3,jx h3];refine Ye g (λh g1 l=>?_) λh=>?_
  ·simp only[jq,PR.bd_assoc,PR.bd_ok];refine(wH g1).bd ?_ λt t1 k1 et g2 l2 =>.ok g2 (by omega) (by rw[znI g1.g et,yl,yq])
   grind
  ·simp only[jk,jp];refine(yh g).bd ?_ λm t1 k1 em g1 l1=>?_
   ·rintro⟨v,_⟩ k e a rfl hk he;simp only[zgD hk he,jj];grind
   ·rw[X1 m (zN em)];simp only[zj];refine RS.mono (n:=t1.length) ?_ (by omega);rw[show((q23 (rN m,((k1:Int),d,0,0),T)).bind λy8=>o (y8.1,y8.2))=q23 (rN m,((k1:Int),d,0,0),T) from G _];exact zsg g1 m
theorem zAT(g:GK T k ts):RS T d (ts.length - 1) (zcf ts) (q6c (((k:Int),d,0,0),T)) (λs st=>(s,st)) E:=by
 unfold q6c qa8
 have h0:∀(i:Int) (s:List UInt8),za (⟨[lit [60],lit [60,61],lit [61,61]],A⟩:Sl U0) i=o (lit s)->0<=i->i < 3->q7e q10 q19 (i,((k:Int),d,0,0),T,C [lit [60],lit [60,61],lit [61,61]] A) =
     if isP s ts=A then o (.done (.inl (lit s,(((k+1:Nat):Int),d,0,0),T))) else o (.next (i+1,((k:Int),d,0,0),T,C [lit [60],lit [60,61],lit [61,61]] A)):=by
  intro i s hs h0 h3;unfold q7e;simp only[hs,xa g,jj];rw[jv (by simp[Sl.len];omega)];cases h:isP s ts with
  |true=>grind
  |false=>simp only[jk,jp];rw[zD (by omega) (by omega)]
 unfold zcf;have e0:=h0 0 [60] rfl (by omega) (by omega);have e1:=h0 (0+1) [60,61] rfl (by omega) (by omega);have e2:=h0 (0+1+1) [61,61] rfl (by omega) (by omega);cases c0:isP [60] ts with
 |true=>rw[c0] at e0;rw[zw e0];exact .ok (g.is c0).1 (by grind) rfl
 |false=>
  rw[c0] at e0;rw[zB e0];cases c1:isP [60,61] ts with
  |true=>rw[c1] at e1;rw[zw e1];exact .ok (g.is c1).1 (by grind) rfl
  |false=>
   rw[c1] at e1;rw[zB e1];cases c2:isP [61,61] ts with
   |true=>rw[c2] at e2;rw[zw e2];exact .ok (g.is c2).1 (by grind) rfl
   |false=>
    rw[c2] at e2;rw[zB e2,zw (y :=.inr (((k:Int),d,0,0),T)) rfl];simp only[jj,jm,VS g,jk,jp];exact⟨_,k,rfl,rfl,g.lt,by simp⟩
def ndR(n:Nd)(st:PS):(Int×U0×Int×Int)×(Int×Int×Int×Int)×Sl RTk×Sl RNd:=(ndT n,st.1,st.2,rS n.K_)
def pkR(b:(Int×U0×Int×Int)×(Int×Int×Int×Int)×Sl RTk×Sl RNd):PS:=(b.2.1,b.2.2.1)
theorem zsh(g:GK T k ts):RS T d (ts.length - 1) (YB ts) (q1s (((k:Int),d,0,0),T)) ndR pkR:=by
 unfold q1s q6u YB;refine(Wm g).bd ?_ λa t1 k1 ea g1 l1=>?_
 ·rintro⟨v,_⟩ k e a rfl hk he;obtain⟨w,hw⟩:=zbc (d:=d) (a:=a) hk he;simp only[zAS hk he,hw,jj];exact⟨_,rfl,rfl⟩
 refine(zAT g1).bd ?_ λop t2 k2 _ g2 l2=>?_
 ·rintro⟨v,_⟩ k e a rfl hk he;obtain⟨w,hw⟩:=zbc (d:=d) (a:=a) hk he;simp only[hw,jj];exact⟨_,rfl,rfl⟩
 refine(Wm g2).bd ?_ λb t3 k3 eb g3 l3 =>.ok g3 (by omega) ?_
 ·rintro⟨v,_⟩ k e a rfl hk he;exact⟨_,rfl,rfl⟩
 simp only[zj,ndR,ndT,yp,UE,H];rw[show(rN a).a_=a.a_ by rw[yl]]
theorem Yn{acc:List RNd}{x:RNd}(h:acc.length<=60000)(b:Bool):zo 64 (⟨acc,b⟩:Sl RNd) [x]=o ⟨acc++[x],A⟩:=by
 rw[yF (by simp;omega) (by simp;omega)];simp
noncomputable abbrev wP:=q5j q12 q10 q1r
theorem ziL(hk:k < T.xs.length)(he:e≠0)(x:RNd)(acc:Sl RNd):lpO wP (((k:Int),d,e,a),T,x,acc)=o (((k:Int),d,e,a),T,acc):=
 zw (by unfold wP q5j;simp only[yr hk he,jj,D5,jq])
theorem ziM:∀(j:Nat) (ts:List Tk) (k:Nat) (x:RNd) (acc:List Nd),GK T k ts->ts.length<=j->acc.length+ts.length<=30000->
    RS T d ts.length (Zt Z3 j acc ts) (lpO wP (((k:Int),d,0,0),T,x,⟨acc.map rN,A⟩)) (λl st=>(st.1,st.2,⟨l.map rN,A⟩)) (λb=>(b.1,b.2.1))
 |0,ts,k,x,acc,g,hj,ha=>absurd (UP (by omega)) g.g.ne
 |j+1,ts,k,x,acc,g,hj,ha=>by
  unfold Zt;cases h:isP [44] ts with
  |false=>
   rw[zw (y:=(((k:Int),d,0,0),T,⟨acc.map rN,A⟩)) (by unfold wP q5j;simp only[xa g,h,jj,D5,jq,jk,jp])];exact .ok g (UJ _) rfl
  |true=>
   obtain⟨g1,l1⟩:=g.is h;simp only[jq];have ht:=Wm (d:=d) g1;cases e:Z3 ts.tail with
   |error er=>
    rw[e] at ht;obtain⟨⟨v,_⟩,k1,e1,rfl,h2,h3⟩:=ht;have hn:wP (((k:Int),d,0,0),T,x,⟨acc.map rN,A⟩)=o (.next (((k1:Int),d,er.2,er.1),T,v,⟨acc.map rN++[v],A⟩)):=by
     unfold wP q5j;simp only[xa g,h,jj,Dn,jq,jk,jp,e1,zj];rw[Yn (by simp;omega)];rfl
    rw[zB hn,ziL h2 h3];exact⟨_,k1,rfl,rfl,h2,h3⟩
   |ok p=>
    obtain⟨y,t1⟩:=p;rw[e] at ht;obtain⟨k1,e1,g2,l2⟩:=ht;have hn:wP (((k:Int),d,0,0),T,x,⟨acc.map rN,A⟩)=o (.next (((k1:Int),d,0,0),T,rN y,⟨(acc++[y]).map rN,A⟩)):=by
     unfold wP q5j;simp only[xa g,h,jj,Dn,jq,jk,jp,e1,zj];rw[Yn (by simp;omega)];simp
    rw[zB hn];exact(ziM j t1 k1 (rN y) (acc++[y]) g2 (by omega) (by simp;omega)).mono (by omega)
theorem zlY(g:GK T k ts):RS T d (ts.length - 1) (zag ts) (q3b (((k:Int),d,0,0),T)) (λks st=>(st.1,st.2,rS ks)) (λb=>(b.1,b.2.1)):=by
 unfold q3b q98 zag;refine(yg g [40]).bd ?_ λ_ t1 k1 _ g1 l1=>?_
 ·rintro _ k e a rfl hk he;simp only[yr hk he,jj,jk,jp,Di,he,ju,js,jq,id];grind
 refine Ye g1 (λh g2 l2=>?_) λh=>?_
 ·simp only[jq,jj];exact .ok g2 (by omega) (by rw[yq])
 simp only[jk,jp,jj,Di,jt,jr];unfold Z9;rw[PR.bd_assoc];have hb:=g1.b;refine(Wm g1).bd ?_ λx t2 k2 ex g2 l2=>?_
 ·rintro⟨v,_⟩ k e a rfl hk he;simp only[zj];rw[ziL hk he];simp only[jj,Zq hk he];grind
 simp only[zj];refine(ziM (d:=d) t1.length t2 k2 (rN x) [x] g2 (by omega) (by simp;omega)).bd ?_ λl t3 k3 _ g3 l3=>?_
 ·rintro⟨p,q,w⟩ k e a hp hk he;simp only[D.injEq] at hp;obtain⟨rfl,rfl⟩:=hp;simp only[Zq hk he,jj];grind
 refine(yg g3 [41]).bd ?_ λ_ t4 k4 _ g4 l4 =>.ok g4 (by omega) (by rw[yp])
 grind
end
end
section
section
variable {T:Sl RTk}{d e a:Int}{k n:Nat}{ts:List Tk}
theorem Wn(n:Nd):rS ⟨[n],A⟩=⟨[rN n],A⟩:=by rw[yp];rfl
theorem Xq(k:Int)(t:U0)(n a:Int)(s:Sl Nd):rN ⟨k,t,n,a,s⟩=⟨k,t,n,a,rS s⟩:=by unfold rN;rfl
theorem zsi(g:GK T k ts):RS T d (ts.length - 1) (Wl ts) (q3c (((k:Int),d,0,0),T)) (λn st=>(rN n,st)) E:=by
 unfold q3c q99 Wl;simp only[g.idx,jj,toR];refine Ye g (λh g1 l1=>?_) λh=>?_
 ·simp only[jq];exact .ok g1 (by omega) (by rw[yl,yq])
 simp only[jk,jp];refine Ye g (λh g1 l1=>?_) λh=>?_
 ·simp only[Dn,jk,jp,jj];refine(yh g1).bd ?_ λm t1 k1 em g2 l2 =>.ok g2 (by omega) ?_
  ·grind
  ·rw[X1 m (zN em),Xq,Wn]
 simp only[D5,jq,gh];refine(yg g [38]).bd ?_ λ_ t1 k1 _ g1 l1=>?_
 ·rintro _ k e a rfl hk he;simp only[yr hk he,zgC hk he,jj,jk,jp,id];grind
 refine Ye g1 (λh g2 l2=>?_) λh=>?_
 ·simp only[jq,jj];refine(yh g2).bd ?_ λm t2 k2 em g3 l3 =>.ok g3 (by omega) ?_
  ·grind
  ·rw[X1 m (zN em),Xq,Wn]
 ·simp only[jk,jp,jj];refine(yh g1).bd ?_ λm t2 k2 em g3 l3 =>.ok g3 (by omega) ?_
  ·grind
  ·rw[X1 m (zN em),Xq,Wn]
theorem GK.idx1(g:GK T (k+1) ts)(hk:k < 30000):za T (U4 ((k:Int)+1))=o (toR (hd ts)):=by
 rw[zx (by omega),g.idx]
theorem zzi(g:GK T k ts):RS T d (ts.length - 1) (vP ts) (q5z (((k:Int),d,0,0),T)) (λn st=>(rN n,st)) E:=by
 unfold q5z q9a vP;simp only[g.idx,jj,toR];have hb:=g.b;refine Ye g (λh g1 l1=>?_) λh=>?_
 · simp only[jq];unfold Ym;rw[PR.bd_assoc];refine(wH g1).bd ?_ λt t1 k1 et g2 l2 =>.ok g2 (by omega) (by rw[wI,yl,yq])
   grind
 simp only[jk,jp];refine Ye g (λh g1 l1=>?_) λh=>?_
 · simp only[jq];refine(yh g1).bd ?_ λm t1 k1 em g2 l2 =>.ok g2 (by omega) (by rw[yl,yq];rfl)
   grind
 simp only[jk,jp];refine Ye g (λh g1 l1=>?_) λh=>?_
 · simp only[jq];refine Ye g1 (λh g2 l2=>?_) λh=>?_
   · simp only[jq,jj];refine(yh g2).bd ?_ λm t1 k1 em g3 l3 =>.ok g3 (by omega) (by rw[yl,yq];rfl)
     grind
   · simp only[jk,jp,jj];refine(yh g1).bd ?_ λm t1 k1 em g3 l3 =>.ok g3 (by omega) (by rw[yl,yq];rfl)
     grind
 simp only[jk,jp,g.idx,jj,toR,jl,zj];by_cases hk:(hd ts).k_=1
 case neg=>
   simp only[Di,hk,ju,jq,G];rw[show((q1r (((k:Int),d,0,0),T)).bind λy=>o (y.1,y.2))=q1r (((k:Int),d,0,0),T) from G _];exact Wm g
 simp only[Di,hk,jt,jp];refine(yh g).bd ?_ λm t1 k1 em g1 l1=>?_
 ·rintro⟨v,_⟩ k e a rfl hk he;simp only[zlW hk he,yr hk he,zgD hk he,jj,jk,jp];grind
 simp only[zdI g1,jj];cases h4:isP [40] t1 with
 |true=>
  simp only[jq];refine RS.mono (n:=t1.length - 1) ?_ (by omega);refine(zlY g1).bd ?_ λks t2 k2 _ g2 l2 =>.ok g2 (by omega) (by rw[yl];rfl)
  rintro⟨p,q,w⟩ k e a hp hk he;grind
 |false=>
 simp only[jk,jp];refine Ye g1 (λh g2 l2=>?_) λh=>?_
 · simp only[jq];refine(Wm g2).bd ?_ λx t2 k2 _ g3 l3=>?_
   ·rintro⟨v,_⟩ k e a rfl hk he;simp only[Zq hk he,jj];grind
   refine(yg g3 [93]).bd ?_ λ_ t4 k4 _ g4 l4 =>.ok g4 (by omega) (by rw[Xq,Wn];rfl)
   grind
 simp only[jk,jp,zdI g1,jj];have hb1:=g1.b
 have two:∀{g2:GK T (k1+1) t1.tail} (q:Int),RS T d (ts.length - 1) ((Zb t1.tail).bd λb t2 =>.ok ((⟨q,lit [],0,m.a_,⟨[m,b],A⟩⟩:Nd),t2))
     ((q15 ((U4 ((k1:Int)+1),d,0,0),T)).bind λy=>o (q6.mk q (lit []) 0 (ndT m).2.2.2 (C [q6.mk (ndT m).1 (ndT m).2.1 (ndT m).2.2.1 (ndT m).2.2.2 (C [] B),q6.mk y.1.1 y.1.2.1 y.1.2.2.1 y.1.2.2.2 (C [] B)] A),y.2)) (λn st=>(rN n,st)) E:=by
  intro g2 q;rw[zx (by omega)];have:=g2.b;have h0:=DB.2 g1.g.ne;refine(yh g2).bd ?_ λb t2 k2 eb g3 l3 =>.ok g3 (by grind) ?_
  ·grind
  ·rw[X1 m (zN em),X1 b (zN eb),yl ⟨q,_,_,_,_⟩,yp];rfl
 have fin:RS T d (ts.length - 1) (xT m t1) ((q23 (q6.mk (ndT m).1 (ndT m).2.1 (ndT m).2.2.1 (ndT m).2.2.2 (C [] B),((k1:Int),d,0,0),T)).bind λy=>o (y.1,y.2)) (λn st=>(rN n,st)) E:=by
  rw[X1 m (zN em)];rw[show((q23 (rN m,((k1:Int),d,0,0),T)).bind λy=>o (y.1,y.2))=q23 (rN m,((k1:Int),d,0,0),T) from G _];exact(zsg g1 m).mono (by omega)
 cases hp:isP [43] t1 with
 |true=>
  have hm:=zhU hp;obtain⟨g2,l2⟩:=g1.is hp;simp only[hm,jq,UF,jk,false_and,jp,jj,g2.idx1 (by omega),toR,jl];by_cases h1:(hd t1.tail).k_=1
  ·simp only[h1,jq,gh,jj];exact two (g2:=g2) 21
  grind
 |false=>
  cases hq:isP [45] t1 with
  |true=>
   obtain⟨g2,l2⟩:=g1.is hq;simp only[jq,UF,jk,false_and,jp,jj,g2.idx1 (by omega),toR,jl];by_cases h1:(hd t1.tail).k_=1
   ·simp only[h1,jq,gh,jj];exact two (g2:=g2) 22
   grind
  |false=>
   grind
theorem zxC(g:GK T k ts):RS T d (ts.length - 1) ((Zb ts).bd vu) (q6v (((k:Int),d,0,0),T)) ndR pkR:=by
 unfold q6v qbt;refine(yh g).bd ?_ λm t1 k1 em g1 l1=>?_
 ·rintro⟨v,_⟩ k e a rfl hk he;obtain⟨w,hw⟩:=zse (d:=d) (a:=a) hk he;simp only[zlW hk he,yr hk he,Zq hk he,hw,jj,jk,jp];exact⟨_,rfl,rfl⟩
 refine RS.mono (n:=t1.length - 1) ?_ (by omega);have h0:=DB.2 g1.g.ne;unfold vu;simp only[zdI g1,jj];cases h4:isP [40] t1 with
 |true=>
  simp only[jq];refine(zlY g1).bd ?_ λks t2 k2 _ g2 l2 =>.ok g2 (by omega) ?_
  ·rintro⟨p,q,w⟩ k e a hp hk he;simp only[D.injEq] at hp;obtain⟨rfl,rfl⟩:=hp;exact⟨_,rfl,rfl⟩
  ·simp only[ndR,Wn,yl];rfl
 |false=>
 simp only[jk,jp];refine Ye g1 (λh g2 l2=>?_) λh=>?_
 ·simp only[jq];refine(Wm g2).bd ?_ λx t2 k2 _ g3 l3=>?_
  ·rintro⟨v,_⟩ k e a rfl hk he;obtain⟨w,hw⟩:=zbc (d:=d) (a:=a) hk he;simp only[Zq hk he,hw,jj];exact⟨_,rfl,rfl⟩
  refine(yg g3 [93]).bd ?_ λ_ t4 k4 _ g4 l4=>?_
  ·rintro _ k e a rfl hk he;obtain⟨w,hw⟩:=zbc (d:=d) (a:=a) hk he;simp only[Zq hk he,hw,jj,id];exact⟨_,rfl,rfl⟩
  refine(yg g4 [61]).bd ?_ λ_ t5 k5 _ g5 l5=>?_
  ·rintro _ k e a rfl hk he;obtain⟨w,hw⟩:=zbc (d:=d) (a:=a) hk he;simp only[hw,jj,id];exact⟨_,rfl,rfl⟩
  refine(Wm g5).bd ?_ λy t6 k6 _ g6 l6 =>.ok g6 (by omega) ?_
  ·rintro⟨v,_⟩ k e a rfl hk he;exact⟨_,rfl,rfl⟩
  ·simp only[ndR,yp,zj];rfl
 simp only[jk,jp];refine(yg g1 [61]).bd ?_ λ_ t5 k5 _ g5 l5=>?_
 ·rintro _ k e a rfl hk he;obtain⟨w,hw⟩:=zse (d:=d) (a:=a) hk he;simp only[hw,jj,id];exact⟨_,rfl,rfl⟩
 refine(zzi g5).bd ?_ λy t6 k6 _ g6 l6 =>.ok g6 (by omega) ?_
 ·rintro⟨v,_⟩ k e a rfl hk he;exact⟨_,rfl,rfl⟩
 ·simp only[ndR,yp,zj];rfl
end
end
section
section
variable {T:Sl RTk}{d e a:Int}{k n:Nat}{ts:List Tk}
abbrev zlZ:=PS->U3 ((Int×U0×Int×Int)×(Int×Int×Int×Int)×Sl RTk×Sl RNd)
structure BlkR(T:Sl RTk)(d:Int)(h:zlZ)(blk:List Tk->PR Nd):Prop where
 g:∀{ts k},GK T k ts->RS T d (ts.length - 1) (blk ts) (h (((k:Int),d,0,0),T)) ndR pkR
 b:∀{k:Nat} {e a:Int},k < T.xs.length->e≠0->∃v w,h (((k:Int),d,e,a),T)=o (v,((k:Int),d,e,a),T,w)
variable {h:zlZ}{blk:List Tk->PR Nd}
theorem zup{sz:Nat}{s s':Sl RNd}{l:List RNd}(h:zo sz s l=o s'):s'.xs=s.xs++l:=by
 unfold zo at h;grind
theorem RS.bdq {f:α->List Tk->PR γ}{K:β->U3 δ}{mk:α->PS->β}{pk:β->PS}{mk':γ->PS->δ}{pk':δ->PS}(h:RS T d n r m mk pk)
    (hb:∀(b:β) (k:Nat) (e a:Int),m=o b->pk b=(((k:Int),d,e,a),T)->k < T.xs.length->e≠0->∃c,K b=o c/\pk' c=(((k:Int),d,e,a),T))
    (hk:∀a ts (k:Nat),r = .ok (a,ts)->GK T k ts->ts.length<=n->RS T d n' (f a ts) (K (mk a (((k:Int),d,0,0),T))) mk' pk'):RS T d n' (r.bd f) (m.bind K) mk' pk':=by
 cases r with
 |error e=>
  obtain⟨b,k,rfl,h1,h2,h3⟩:=h;obtain⟨c,e1,e2⟩:=hb b k _ _ rfl h1 h2 h3;exact⟨c,k,e1,e2,h2,h3⟩
 |ok p=>
  obtain⟨a,ts⟩:=p;obtain⟨k,rfl,g,l⟩:=h;exact hk a ts k rfl g l
theorem zl0{st:PS}{b}(hb:q1s st=o b):b.2.2.2.xs.length=2:=by
 unfold q1s q6u at hb;obtain⟨x,_,hb⟩:=gd hb;obtain⟨y,_,hb⟩:=gd hb;obtain⟨z,_,hb⟩:=gd hb;cases hb;rfl
theorem zl1{x}{b}(hb:q1t h x=o b):b.2.2.2.xs.length=3:=by
 unfold q1t q4r at hb;obtain⟨x,hx,hb⟩:=gd hb;obtain⟨y,_,hb⟩:=gd hb;obtain⟨z,hz,hb⟩:=gd hb;cases hb;have:=zup hz;have h2:=zl0 hx;grind
theorem zl2(hb:BlkR T d h blk)(g:GK T k ts)(q at_:Int):RS T d (ts.length - 1) (wM blk q at_ ts) (q1t h (q,at_,((k:Int),d,0,0),T)) ndR pkR:=by
 unfold q1t q4r wM;refine(zsh g).bdq ?_ λm t1 k1 em g1 l1=>?_
 ·rintro⟨v,p,q,w⟩ k e a hm hp hk he;have h2:=zl0 hm;simp only[pkR,D.injEq] at hp;obtain⟨rfl,rfl⟩:=hp;obtain⟨v2,w2,hw⟩:=hb.b (a:=a) hk he;obtain⟨wl,wb⟩:=w;simp only[hw,jj];rw[Yn (by grind)];exact⟨_,rfl,rfl⟩
 obtain⟨x,y,hk⟩:=zch em;refine(hb.g g1).bd ?_ λb t2 k2 eb g2 l2 =>.ok g2 (by omega) ?_
 ·rintro⟨v,p,q,w⟩ k e a hp hk2 he;simp only[pkR,D.injEq] at hp;obtain⟨rfl,rfl⟩:=hp;simp only[ndR,hk,yp];rw[Yn (by simp)];exact⟨_,rfl,rfl⟩
 ·simp only[ndR,hk,yp,ndT];rw[Yn (by simp)];simp only[jj,UE,H,I,L,Do];rw[yl b,yp]
theorem Z7(x y:List UInt8):(lit x=lit y)=(x=y):=propext ⟨λh=>by have:=congrArg bs h;simpa[wo] using this,λh=>by rw[h]⟩
theorem zuq(g:GK T k ts){w:List UInt8}(hw:∃c∈w,isL c=A):isP w ts=decide ((if(hd ts).k_=2 then(hd ts).T_ else lit [])=lit w):=by
 obtain⟨c,hc,hl⟩:=hw;unfold isP;by_cases h2:(hd ts).k_=2
 ·simp[h2]
 ·simp only[h2,jr,DA,jp,Z7];have e1:decide ([]=w)=false:=by
   grind
  rw[e1];by_cases h4:(hd ts).k_=4
  ·have hm:hd ts∈ts:=by
    match ts,g.g with
    |[],g=>exact absurd rfl g.ne
    |t::r,_=>simp[hd]
   have hne:¬ (hd ts).T_=lit w:=by
    intro e;have:=g.sg _ hm h4 c (by rw[e,wo];exact hc);grind
   simp[hne]
  ·simp[h4]
theorem zai(g:GK T k ts)(m:Nd):RS T d (ts.length - 1) (WZ m ts) ((q12 (lit [59],((k:Int),d,0,0),T)).bind λy=>o (ndT m,y.1,y.2,rS m.K_)) ndR pkR:=by
 unfold WZ;refine(yg g [59]).bd ?_ λ_ t1 k1 _ g1 l1 =>.ok g1 (by omega) rfl
 rintro _ k e a rfl hk he;exact⟨_,rfl,rfl⟩
end
end
section
section
variable {T:Sl RTk}{d e a:Int}{k n:Nat}{ts:List Tk}
variable {h:zlZ}{blk:List Tk->PR Nd}
set_option maxHeartbeats 2000000 in
theorem zzj(hb:BlkR T d h blk)(g:GK T k ts):RS T d (ts.length - 1) (YU blk ts) (q33 h (((k:Int),d,0,0),T)) ndR pkR:=by
 unfold q33 q6w;simp only[g.idx,jj,toR,jl];have hgb:=g.b;obtain⟨F,hF⟩:∃F,F=(if(hd ts).k_=2 then(hd ts).T_ else lit []):=⟨_,rfl⟩
 have e1:(if(hd ts).k_=2 then o ((hd ts).a_,(hd ts).T_,((k:Int),d,(0:Int),(0:Int)),T,(0:Int),lit [],(0:Int),(0:Int)) else o ((hd ts).a_,lit [],((k:Int),d,0,0),T,0,lit [],0,0))=o ((hd ts).a_,F,((k:Int),d,0,0),T,0,lit [],0,0):=by
  grind
 have is:∀w:List UInt8,(∃c∈w,isL c=A)->isP w ts=decide (F=lit w):=λw hw=>by rw[hF];exact zuq g hw
 rw[e1];simp only[jj];clear e1 hF;unfold YU;rw[is [102,114,101,101] ⟨102,by simp,rfl⟩,is [108,111,99,107] ⟨108,by simp,rfl⟩,is [117,110,108,111,99,107] ⟨117,by simp,rfl⟩,is [105,102] ⟨105,by simp,rfl⟩,is [119,104,105,108,101] ⟨119,by simp,rfl⟩,is [114,101,116,117,114,110] ⟨114,by simp,rfl⟩,is [97,98,111,114,116] ⟨97,by simp,rfl⟩,is [102,111,114,107] ⟨102,by simp,rfl⟩];have gk:∀w:List UInt8,(∃c∈w,isL c=A)->F=lit w->GK T (k+1) ts.tail/\ts.tail.length+1=ts.length:=λw hw e=>g.is (s:=w) (by grind)
 have hw1:=zx (k:=k) (by omega);by_cases h1:F=lit [102,114,101,101]
 ·obtain⟨g1,l1⟩:=gk _ ⟨102,by simp,rfl⟩ h1;subst h1;simp (decide:=true) only [Z7,hw1,gh,jj,jo,jm,js,jq,jp,jk,jr];refine(yh g1).bd ?_ λm t1 k1 em g2 l2=>?_
  ·rintro⟨v,_⟩ k e a rfl hk he;simp only[Zq hk he,jj];exact⟨_,rfl,rfl⟩
  refine RS.mono (n:=t1.length - 1) ?_ (by omega);obtain⟨t,t',_,e3⟩:=bd_ok em;have:=zai (d:=d) g2 ⟨12,m.T_,m.N_,(hd ts).a_,nilS⟩;rw[yq] at this;cases e3;exact this
 by_cases h2:F=lit [108,111,99,107]
 ·obtain⟨g1,l1⟩:=gk _ ⟨108,by simp,rfl⟩ h2;subst h2;simp (decide:=true) only [Z7,hw1,gh,jj,jo,jm,js,jq,jp,jk,jr];unfold atP Ym;simp only[PR.bd_assoc,PR.bd_ok];refine(yh g1).bd ?_ λm t1 k1 em g2 l2=>?_
  ·rintro⟨v,_⟩ k e a rfl hk he;simp only[Zq hk he,xU hk he,jj];exact⟨_,rfl,rfl⟩
  refine(yg g2 [91]).bd ?_ λ_ t2 k2 _ g3 l3=>?_
  ·rintro _ k e a rfl hk he;simp only[Zq hk he,xU hk he,jj,id];exact⟨_,rfl,rfl⟩
  refine(wH g3).bd ?_ λt t3 k3 _ g4 l4=>?_
  ·rintro⟨v,_⟩ k e a rfl hk he;simp only[Zq hk he,xU hk he,jj,id];exact⟨_,rfl,rfl⟩
  refine(yg g4 [93]).bd ?_ λ_ t5 k5 _ g5 l5=>?_
  ·rintro _ k e a rfl hk he;simp only[Zq hk he,xU hk he,jj,id];exact⟨_,rfl,rfl⟩
  refine RS.mono (n:=t5.length - 1) ?_ (by omega);have:=zai (d:=d) g5 ⟨13,m.T_,1 * t.N_,(hd ts).a_,nilS⟩;rw[yq,wI] at this;rw[wI];exact this
 by_cases h3:F=lit [117,110,108,111,99,107]
 ·obtain⟨g1,l1⟩:=gk _ ⟨117,by simp,rfl⟩ h3;subst h3;simp (decide:=true) only [Z7,hw1,gh,jj,jo,jm,js,jq,jp,jk,jr];unfold atP Ym;simp only[PR.bd_assoc,PR.bd_ok];refine(yh g1).bd ?_ λm t1 k1 em g2 l2=>?_
  ·rintro⟨v,_⟩ k e a rfl hk he;simp only[Zq hk he,xU hk he,jj];exact⟨_,rfl,rfl⟩
  refine(yg g2 [91]).bd ?_ λ_ t2 k2 _ g3 l3=>?_
  ·rintro _ k e a rfl hk he;simp only[Zq hk he,xU hk he,jj,id];exact⟨_,rfl,rfl⟩
  refine(wH g3).bd ?_ λt t3 k3 _ g4 l4=>?_
  ·rintro⟨v,_⟩ k e a rfl hk he;simp only[Zq hk he,xU hk he,jj,id];exact⟨_,rfl,rfl⟩
  refine(yg g4 [93]).bd ?_ λ_ t5 k5 _ g5 l5=>?_
  ·rintro _ k e a rfl hk he;simp only[Zq hk he,xU hk he,jj,id];exact⟨_,rfl,rfl⟩
  refine RS.mono (n:=t5.length - 1) ?_ (by omega);have:=zai (d:=d) g5 ⟨14,m.T_,1 * t.N_,(hd ts).a_,nilS⟩;rw[yq,wI] at this;rw[wI];exact this
 by_cases h4:F=lit [105,102]
 ·obtain⟨g1,l1⟩:=gk _ ⟨105,by simp,rfl⟩ h4;subst h4;simp (decide:=true) only [Z7,hw1,gh,jj,jo,jm,js,jq,jp,jk,jr];refine(zl2 hb g1 15 (hd ts).a_).bdq ?_ λm t1 k1 em g2 l2=>?_
  ·rintro⟨v,p,q,w⟩ k e a hm hp hk he;have h3:=zl1 hm;simp only[pkR,D.injEq] at hp;obtain⟨rfl,rfl⟩:=hp;obtain⟨wl,wb⟩:=w;simp only[yr hk he,jj,jk,jp];rw[Yn (by grind)];exact⟨_,rfl,rfl⟩
  obtain⟨x,y,z,hk⟩:=zdE em;simp only[ndR,hk,yp];refine Ye g2 (λh5 g3 l3=>?_) λh5=>?_
  ·simp only[jq,gh,jj];refine(hb.g g3).bd ?_ λb t2 k2 eb g4 l4 =>.ok g4 (by omega) ?_
   ·rintro⟨v,p,q,w⟩ k e a hp hk2 he;simp only[pkR,D.injEq] at hp;obtain⟨rfl,rfl⟩:=hp;rw[Yn (by simp)];exact⟨_,rfl,rfl⟩
   ·simp only[ndR,hk,yp,ndT];rw[Yn (by simp)];simp only[jj,jo,UE,H,I,L,Do];rw[yl b,yp]
  ·simp only[jk,jp,jj];rw[Yn (by simp)];refine .ok g2 (by omega) ?_;simp only[ndR,hk,yp,ndT,jj,jo,UE,H,I,L,Do,Xq]
 by_cases h5:F=lit [119,104,105,108,101]
 ·obtain⟨g1,l1⟩:=gk _ ⟨119,by simp,rfl⟩ h5;subst h5;simp (decide:=true) only [Z7,hw1,gh,jj,jo,jm,js,jq,jp,jk,jr];rw[show((q1t h (16,(hd ts).a_,(((k+1:Nat):Int),d,0,0),T)).bind λy=>o (y.1,y.2.1,y.2.2.1,y.2.2.2))=q1t h (16,(hd ts).a_,(((k+1:Nat):Int),d,0,0),T) from G _];exact(zl2 hb g1 16 (hd ts).a_).mono (by omega)
 by_cases h6:F=lit [114,101,116,117,114,110]
 ·obtain⟨g1,l1⟩:=gk _ ⟨114,by simp,rfl⟩ h6;subst h6;simp (decide:=true) only [Z7,hw1,gh,jj,jo,jm,js,jq,jp,jk,jr,zdI g1];cases h7:isP [59] ts.tail with
  |true=>
   simp only[Dn,jk,jp,jq,jj,jm];have:=zai (d:=d) g1 ⟨17,lit [],0,(hd ts).a_,nilS⟩;rw[yq] at this;exact this.mono (by omega)
  |false=>
   simp only[D5,jk,jp,jq,gh,jj,jm];refine(Wm g1).bd ?_ λx t2 k2 _ g3 l3=>?_
   ·rintro⟨v,_⟩ k e a rfl hk he;simp only[Zq hk he,jj];exact⟨_,rfl,rfl⟩
   have:=zai (d:=d) g3 ⟨17,lit [],0,(hd ts).a_,⟨[x],A⟩⟩;rw[Wn] at this;simp only[zj];exact this.mono (by omega)
 by_cases h7:F=lit [97,98,111,114,116]
 ·obtain⟨g1,l1⟩:=gk _ ⟨97,by simp,rfl⟩ h7;subst h7;simp (decide:=true) only [Z7,hw1,gh,jj,jo,jm,js,jq,jp,jk,jr];have:=zai (d:=d) g1 ⟨18,lit [],0,(hd ts).a_,nilS⟩;rw[yq] at this;exact this.mono (by omega)
 by_cases h8:F=lit [102,111,114,107]
 ·obtain⟨g1,l1⟩:=gk _ ⟨102,by simp,rfl⟩ h8;subst h8;simp (decide:=true) only [Z7,hw1,gh,jj,jo,jm,js,jq,jp,jk,jr];refine(yh g1).bd ?_ λm t1 k1 em g2 l2=>?_
  ·rintro⟨v,_⟩ k e a rfl hk he;obtain⟨w,hw⟩:=zzg (d:=d) (a:=a) hk he;simp only[hw,Zq hk he,jj];exact⟨_,rfl,rfl⟩
  refine(zlY g2).bd ?_ λks t2 k2 _ g3 l3=>?_
  ·rintro⟨p,q,w⟩ k e a hp hk he;simp only[D.injEq] at hp;obtain⟨rfl,rfl⟩:=hp;simp only[Zq hk he,jj];exact⟨_,rfl,rfl⟩
  refine RS.mono (n:=t2.length - 1) ?_ (by omega);obtain⟨t,t',_,e3⟩:=bd_ok em;have:=zai (d:=d) g3 ⟨19,m.T_,m.N_,(hd ts).a_,ks⟩;cases e3;exact this
 simp only[h1,h2,h3,h4,h5,h6,h7,h8,gh,jj,jr,jp,jk];rw[<- PR.bd_assoc];refine(zxC g).bd ?_ λm t1 k1 em g2 l2=>?_
 ·rintro⟨v,p,q,w⟩ k e a hp hk he;simp only[pkR,D.injEq] at hp;obtain⟨rfl,rfl⟩:=hp;simp only[Zq hk he,jj,jm];exact⟨_,rfl,rfl⟩
 have:=zai (d:=d) g2 m;simp only[jm];exact this.mono (by omega)
end
end
section
section
variable {T:Sl RTk}{d e a:Int}{k n:Nat}{ts:List Tk}
variable {h:zlZ}{blk:List Tk->PR Nd}
theorem xE{acc:List Nd}{x:RNd}(h:acc.length<=30000):zo 64 (rS (mkS acc)) [x]=o ⟨acc.map rN++[x],A⟩:=by
 rw[yp,yF (by simp[mkS];omega) (by simp[mkS];omega)];simp[mkS]
theorem zgE(acc:List Nd)(x:Nd):(⟨acc.map rN++[rN x],A⟩:Sl RNd)=rS (mkS (acc++[x])):=by
 rw[yp];simp[mkS]
noncomputable abbrev zdJ(h:zlZ):=q49 q1n q19 q12 q10 (q33 h)
theorem zaj(he:e≠0)(p:Int)(u v:Int×U0×Int×Int)(acc:Sl RNd):lpO (zdJ h) ((p,d,e,a),T,u,v,acc)=o ((p,d,e,a),T,u,v,acc):=
 zw (by unfold zdJ q49;grind)
theorem zsj (hb:BlkR T d h blk) {u v:Int×U0×Int×Int}:∀(j:Nat) (ts:List Tk) (k:Nat) (acc:List Nd),GK T k ts->ts.length<=j->acc.length+ts.length<=30000->
    RS T d (ts.length - 1) (xD (YU blk) j acc ts) (lpO (zdJ h) (((k:Int),d,0,0),T,u,v,rS (mkS acc))) (λl st=>(st.1,st.2,u,v,rS (mkS l))) (λb=>(b.1,b.2.1))
 |0,ts,k,acc,g,hj,ha=>absurd (UP (by omega)) g.g.ne
 |j+1,ts,k,acc,g,hj,ha=>by
  unfold xD;cases h2:isP [125] ts with
  |true=>
   obtain⟨g1,l1⟩:=g.is h2;rw[zw (y:=((((k+1:Nat):Int),d,0,0),T,u,v,rS (mkS acc))) (by unfold zdJ q49;simp only[xa g,h2,jj,js,jq])];exact .ok g1 (by omega) rfl
  |false=>
   simp only[jk,jp];have hs:=zzj hb g;cases es:YU blk ts with
   |error er=>
    rw[es] at hs;obtain⟨⟨w,p,q,ks⟩,k1,e1,hp,h3,h4⟩:=hs;simp only[pkR,D.injEq] at hp;obtain⟨rfl,hq⟩:=hp;obtain rfl:T=q:=hq.symm;have hn:zdJ h (((k:Int),d,0,0),T,u,v,rS (mkS acc))=o (.next (((k1:Int),d,er.2,er.1),T,u,v,⟨acc.map rN++[⟨w.1,w.2.1,w.2.2.1,w.2.2.2,ks⟩],A⟩)):=by
     unfold zdJ q49;simp only[xa g,h2,jj,js,jq,jk,jp,e1];rw[xE (acc:=acc) (by omega)];rfl
    rw[zB hn,zaj h4];exact⟨_,k1,rfl,rfl,h3,h4⟩
   |ok p=>
    obtain⟨x,t1⟩:=p;rw[es] at hs;obtain⟨k1,e1,g1,l1⟩:=hs;have hn:zdJ h (((k:Int),d,0,0),T,u,v,rS (mkS acc))=o (.next (((k1:Int),d,0,0),T,u,v,rS (mkS (acc++[x])))):=by
     unfold zdJ q49;simp only[xa g,h2,jj,js,jq,jk,jp,e1,ndR,ndT];rw[xE (acc:=acc) (by grind),show q6.mk x.k_ x.T_ x.N_ x.a_ (rS x.K_)=rN x from(yl x).symm,zgE];rfl
    have hpos:=DB.2 g.g.ne;rw[zB hn];exact(zsj hb j t1 k1 (acc++[x]) g1 (by omega) (by simp;omega)).mono (by omega)
theorem znJ:∀(r:Nat) (j:Nat) (d:Int),d=8 - (r:Int)->0<=d->r+1<=j->BlkR T d (q48 j) (yf r)
 |r,0,d,_,_,hk=>by omega
 |0,j+1,d,hd',h0,hk=>by
  refine⟨λ{ts k} g=>?_,λ{k e a} h1 h2=>znH h1 h2 (by omega) j⟩;show RS T d _ _ (q2e _ _ _ _ _ _) _ _;unfold q2e yf;simp only[g.idx,zdI g,jj,toR];have hw:U4 (d+1)=d+1:=zD (by omega) (by omega);have hw2:U4 (d+1 - 1)=d:=by rw[zD (by omega) (by omega)];omega
  cases e:isP [123] ts with
  |true=>
   have:decide (8<=d)=true:=gm (by omega);simp only[jq,jj,this,VS g,Zq g.lt (show(21:Int)≠0 by decide)];rw[zaj (by decide)];simp only[jj,hw,hw2];exact⟨_,k,rfl,rfl,g.lt,by simp[xS]⟩
  |false=>
   simp only[jk,jp,jj];have hm:zU [123] ts = .error ((hd ts).a_,20):=by unfold zU;rw[e];rfl
   have:=yg (d:=d) g [123];rw[hm] at this;obtain⟨b,k1,e1,rfl,h3,h4⟩:=this;rw[e1];simp only[jj,id];rw[zaj h4];simp only[jj,hw,hw2];exact⟨_,k1,rfl,rfl,h3,h4⟩
 |r+1,j+1,d,hd',h0,hk=>by
  refine⟨λ{ts k} g=>?_,λ{k e a} h1 h2=>znH h1 h2 (by omega) j⟩;show RS T d _ _ (q2e _ _ _ _ _ _) _ _;unfold q2e yf;simp only[g.idx,zdI g,jj,toR];have hw:U4 (d+1)=d+1:=zD (by omega) (by omega);have hw2:U4 (d+1 - 1)=d:=by rw[zD (by omega) (by omega)];omega
  have h8:decide (8<=d)=false:=decide_eq_false (by omega);have hb:=znJ r j (d+1) (by omega) (by omega) (by omega);have hgb:=g.b;have e1:(if isP [123] ts=A then o (decide (8<=d),((k:Int),d,(0:Int),(0:Int)),T,((0,lit [],0,0):Int×U0×Int×Int),((9,lit [],0,(hd ts).a_):Int×U0×Int×Int)) else o (B,((k:Int),d,0,0),T,(0,lit [],0,0),(9,lit [],0,(hd ts).a_)))=o (B,((k:Int),d,0,0),T,(0,lit [],0,0),(9,lit [],0,(hd ts).a_)):=by
   grind
  rw[e1];simp only[jj,jk,jp];refine(yg g [123]).bd ?_ λ_ t1 k1 _ g1 l1=>?_
  ·rintro _ k e a rfl hk he;simp only[id];rw[zaj he];simp only[jj,hw,hw2];exact⟨_,rfl,rfl⟩
  simp only[hw];have lp:=zsj hb (u:=(0,lit [],0,0)) (v:=(9,lit [],0,(hd ts).a_)) t1.length t1 k1 [] g1 (UJ _) (by grind);rw[show rS (mkS ([]:List Nd))=⟨[],B⟩ by rw[yp];rfl] at lp;cases es:xD (YU (yf r)) t1.length [] t1 with
  |error er=>
   rw[es] at lp;obtain⟨⟨p,q,w⟩,k2,e2,hp,h3,h4⟩:=lp;simp only[D.injEq] at hp;obtain⟨rfl,hq⟩:=hp;obtain rfl:T=q:=hq.symm;rw[e2];simp only[jj,hw2];exact⟨_,k2,rfl,rfl,h3,h4⟩
  |ok p=>
   obtain⟨l,t2⟩:=p;rw[es] at lp;obtain⟨k2,e2,g2,l2⟩:=lp;rw[e2];simp only[jj,hw2];exact .ok g2 (by omega) rfl
theorem zgF:BlkR T 0 q5k (yf 8):=znJ 8 100000 0 (by omega) (by omega) (by omega)
end
end
section
section
variable {T:Sl RTk}{d e a:Int}{k n:Nat}{ts:List Tk}{z hdr:Int×U0×Int×Int}
abbrev LSt:=(Int×Int×Int×Int)×Sl RTk×(Int×U0×Int×Int)×(Int×U0×Int×Int)×Sl RNd
def LQ(T:Sl RTk)(d:Int)(n:Nat)(r:PR (List Nd))(m:U3 LSt)(z hdr:Int×U0×Int×Int):Prop:=match r with
 | .error e=>∃(k:Nat) (w:Sl RNd),m=o (((k:Int),d,e.2,e.1),T,z,hdr,w)/\k < T.xs.length/\e.2≠0/\w.xs.length<=30001
 | .ok (l,ts)=>∃k:Nat,m=o (((k:Int),d,0,0),T,z,hdr,rS (mkS l))/\GK T k ts/\ts.length<=n/\l.length+ts.length<=30001
theorem LQ.bd {r:PR (List Nd)}{f:List Nd->List Tk->PR γ}{m:U3 LSt}{K:LSt->U3 δ}{mk':γ->PS->δ}{pk':δ->PS}(h:LQ T d n r m z hdr)
    (hb:∀(k:Nat) (e a:Int) (w:Sl RNd),k < T.xs.length->e≠0->w.xs.length<=30001->∃c,K (((k:Int),d,e,a),T,z,hdr,w)=o c/\pk' c=(((k:Int),d,e,a),T))
    (hk:∀l ts (k:Nat),r = .ok (l,ts)->GK T k ts->ts.length<=n->l.length+ts.length<=30001->RS T d n' (f l ts) (K (((k:Int),d,0,0),T,z,hdr,rS (mkS l))) mk' pk'):RS T d n' (r.bd f) (m.bind K) mk' pk':=by
 cases r with
 |error e=>
  obtain⟨k,w,rfl,h1,h2,h3⟩:=h;obtain⟨c,e1,e2⟩:=hb k _ _ w h1 h2 h3;exact⟨c,k,e1,e2,h1,h2⟩
 |ok p=>
  obtain⟨l,ts⟩:=p;obtain⟨k,rfl,g,l1,l2⟩:=h;exact hk l ts k rfl g l1 l2
theorem LQ.mono{r:PR (List Nd)}{m:U3 LSt}(h:LQ T d n r m z hdr)(l:n<=n'):LQ T d n' r m z hdr:=by
 cases r with
 |error e=>exact h
 |ok p=>obtain⟨k,h1,h2,h3,h4⟩:=h;exact⟨k,h1,h2,UL h3 l,h4⟩
def zpo(T:Sl RTk)(d:Int)(one:List Tk->PR Nd)(f:PS->U3 (RNd×PS)):Prop:=∀{ts k},GK T k ts->RS T d (ts.length - 1) (one ts) (f (((k:Int),d,0,0),T)) (λn st=>(rN n,st)) E
noncomputable def zgG(st:PS):U3 (RNd×PS):=(q15 st).bind λy5=>(q12 (lit [58],y5.2)).bind λy6=>(q3c y6).bind λy7=>
 o (q6.mk 7 y5.1.2.1 y5.1.2.2.1 y5.1.2.2.2 (C [y7.1] A),y7.2)
theorem zxD:zpo T d xC zgG:=by
 intro ts k g;unfold zgG xC;refine(yh g).bd ?_ λm t1 k1 em g1 l1=>?_
 ·rintro⟨v,_⟩ k e a rfl hk he;obtain⟨w,hw⟩:=zlX (d:=d) (a:=a) hk he;simp only[Zq hk he,hw,jj];grind
 refine(yg g1 [58]).bd ?_ λ_ t2 k2 _ g2 l2=>?_
 ·rintro _ k e a rfl hk he;obtain⟨w,hw⟩:=zlX (d:=d) (a:=a) hk he;grind
 refine(zsi g2).bd ?_ λx t3 k3 _ g3 l3 =>.ok g3 (by omega) ?_
 ·grind
 ·rw[Xq,Wn];rfl
noncomputable abbrev VT:=qat q15 q12 q10 q3c q1n q19 q5k
noncomputable def zea(f:PS->U3 (RNd×PS))(cl:U0)(fl:Bool->Bool)(x:PS)(z hdr:Int×U0×Int×Int)(w:Sl RNd):U3 (Step (Bool×LSt) LSt):=
 (f x).bind λy=>(zo 64 w [y.1]).bind λw'=>(q10 (lit [44],y.2)).bind λy9=>
  (if(!y9.1)=A then(q12 (cl,y9.2)).bind λy10=>o (fl y9.1,y10.1,y10.2,z,hdr,w') else o (fl y9.1,y9.2.1,y9.2.2,z,hdr,w')).bind λy11=>o (Step.next y11)
theorem zdK {f:PS->U3 (RNd×PS)}(hf:zpo T d one f) {cl:List UInt8}{fl:Bool->Bool}{body:Bool×LSt->U3 (Step (Bool×LSt) LSt)}
    (h1:∀(k:Nat) w,body (fl A,((k:Int),d,0,0),T,z,hdr,w)=zea f (lit cl) fl (((k:Int),d,0,0),T) z hdr w)
    (h0:∀(p:Int×Int×Int×Int) w,body (fl B,p,T,z,hdr,w)=o (.done (p,T,z,hdr,w))):∀(j:Nat) (ts:List Tk) (k:Nat) (acc:List Nd),GK T k ts->ts.length<=j->acc.length+ts.length<=30000->
    LQ T d (ts.length - 1) ((one ts).bd λa t1=>(Zt one j (acc++[a]) t1).bd λl t2=>(zU cl t2).bd λ_ t3 =>.ok (l,t3)) (lpO body (fl A,((k:Int),d,0,0),T,z,hdr,rS (mkS acc))) z hdr
 |0,ts,k,acc,g,hj,ha=>absurd (UP (by omega)) g.g.ne
 |j+1,ts,k,acc,g,hj,ha=>by
  have hpos:=DB.2 g.g.ne;have hr:=hf g;have hb:=h1 k (rS (mkS acc));unfold zea at hb;cases e:one ts with
  |error er=>
   rw[e] at hr;obtain⟨⟨v,_⟩,k1,e1,rfl,h3,h4⟩:=hr;rw[e1] at hb;simp only[jj] at hb;rw[xE (acc:=acc) (by omega)] at hb;simp only[jj,yr h3 h4,D5,jq,Zq h3 h4] at hb;rw[zB hb,zw (h0 _ _)];exact⟨k1,_,rfl,h3,h4,by simp;omega⟩
  |ok p=>
   obtain⟨x,t1⟩:=p;rw[e] at hr;obtain⟨k1,e1,g1,l1⟩:=hr;rw[e1] at hb;simp only[jj] at hb;rw[xE (acc:=acc) (by omega),zgE] at hb;simp only[jj,xa g1] at hb;rw[PR.bd_ok];unfold Zt;have hpos1:=DB.2 g1.g.ne;cases h44:isP [44] t1 with
   |true=>
    obtain⟨g2,l2⟩:=g1.is h44;rw[h44] at hb;simp only[Dn,jk,jp,jq,jj] at hb;rw[zB hb];simp only[jq,PR.bd_assoc];exact(zdK hf h1 h0 j t1.tail (k1+1) (acc++[x]) g2 (by omega) (by simp;omega)).mono (by omega)
   |false=>
    rw[h44] at hb;simp only[D5,jk,jp,jq,jj] at hb;simp only[jk,jp,PR.bd_ok];have hm:=yg (d:=d) g1 cl;cases em:zU cl t1 with
    |error er=>
     rw[em] at hm;obtain⟨b,k2,e2,hp,h3,h4⟩:=hm;simp only[id] at hp;subst hp;rw[e2] at hb;simp only[jj] at hb;rw[zB hb,zw (h0 _ _)];exact⟨k2,_,rfl,h3,h4,by rw[yp];simp[mkS];omega⟩
    |ok p=>
     obtain⟨u,t2⟩:=p;rw[em] at hm;obtain⟨k2,e2,g2,l2⟩:=hm;rw[e2] at hb;simp only[jj] at hb;rw[zB hb,zw (h0 _ _)];exact⟨k2,rfl,g2,by omega,by simp;omega⟩
theorem zur(k:Nat)(w:Sl RNd):VT (B,((k:Int),d,0,0),T,z,hdr,w)=zea zgG (lit [41]) (λb=> !b) (((k:Int),d,0,0),T) z hdr w:=by
 unfold VT qat zea zgG;simp only[D5,jq,js,jj,gh,zj];congr 1;funext y5;grind
theorem zl3(p:Int×Int×Int×Int)(w:Sl RNd):VT (A,p,T,z,hdr,w)=o (.done (p,T,z,hdr,w)):=rfl
end
end
section
section
variable {T:Sl RTk}{d e a:Int}{k n:Nat}{ts:List Tk}{z hdr:Int×U0×Int×Int}
theorem PR.bd_ite{c:Prop}[Decidable c]{p q:PR α}:PR.bd (if c then p else q) f=if c then p.bd f else q.bd f:=by split<;>rfl
theorem zl4:rS (mkS ([]:List Nd))=⟨[],B⟩:=by rw[yp];rfl
theorem zsk{w:Sl RNd}{x:RNd}(h:w.xs.length<=40000):∃w',zo 64 w [x]=o w'/\w'.xs.length=w.xs.length+1:=by
 rw[yF (by simp;omega) (by simp;omega)];grind
theorem znK(he:e≠0)(p:Int)(w:Sl RNd):lpO VT (B,(p,d,e,a),T,z,hdr,w)=o ((p,d,e,a),T,z,hdr,w):=
 zw (by unfold VT qat;grind)
theorem zus (g:GK T k ts) (hl:ts.length<=25000):LQ T d ts.length ((if isP [41] ts=A then .ok ([],ts) else Z9 xC ts:PR (List Nd)).bd λps t3=>(zU [41] t3).bd λ_ t4 =>.ok (ps,t4))
    ((q10 (lit [41],((k:Int),d,0,0),T)).bind λy2=>lpO VT (y2.1,y2.2.1,y2.2.2,z,hdr,C [] B)) z hdr:=by
 rw[xa g,jj];cases h:isP [41] ts with
 |true=>
  obtain⟨g1,l1⟩:=g.is h;have hm:zU [41] ts = .ok ((),ts.tail):=by unfold zU;rw[jv h]
  simp only[jq,PR.bd_ok,hm];rw[zw (zl3 _ _)];exact⟨k+1,by rw[zl4],g1,by omega,by simp;omega⟩
 |false=>
  simp only[jk,jp];unfold Z9;rw[PR.bd_assoc,<- zl4];exact(zdK (fl:=λb=> !b) (body:=VT) (z:=z) (hdr:=hdr) zxD zur zl3 ts.length ts k [] g (UJ _) (by simp;omega)).mono (by omega)
def zl5(t4:List Tk):PR Nd:=if isP [45,62] t4=A then(if isP [38] t4.tail=A then xS 20 t4.tail else Wl t4.tail) else .ok (⟨8,lit [],0,(hd t4).a_,nilS⟩,t4)
theorem zsl (at_:Int) (ts:List Tk):fnP at_ ts=(Zb ts).bd λn t1=>(zU [40] t1).bd λ_ t2=>
    ((if isP [41] t2=A then .ok ([],t2) else Z9 xC t2:PR (List Nd)).bd λps t3=>(zU [41] t3).bd λ_ t4 =>.ok (ps,t4)).bd λps t4=>
    (zl5 t4).bd λret t5=>(yf 8 t5).bd λb t6 =>.ok (⟨6,n.T_,n.N_,at_,⟨ps++[ret,b],A⟩⟩,t6):=by
 unfold fnP zl5;simp only[PR.bd_assoc,PR.bd_ok]
theorem zBy(g:GK T k ts)(hl:ts.length<=25000)(at_:Int):RS T 0 (ts.length - 1) (fnP at_ ts) (q6x (at_,((k:Int),0,0,0),T)) ndR pkR:=by
 unfold q6x qdc;rw[zsl]
 have tl:∀{k:Nat} {e a:Int} {w:Sl RNd} {z hdr:Int×U0×Int×Int},k < T.xs.length->e≠0->w.xs.length<=30001->∃c,((za T (k:Int)).bind λy13=>(za T (k:Int)).bind λy14=>(q10 (lit [45,62],((k:Int),0,e,a),T)).bind λy15=>
     (if y15.1=A then(q1n (lit [38],y15.2)).bind λy16=>(if y16.1=A then(q19 (20,y16.2)).bind λy17=>o (y17.1,y17.2,z,hdr,((8,lit [],0,y14.a_):Int×U0×Int×Int),w) else o (y16.2.1,y16.2.2,z,hdr,(8,lit [],0,y14.a_),w)).bind λy18=>
       (q3c (y18.1,y18.2.1)).bind λy19=>o (y19.2.1,y19.2.2,y18.2.2.1,y18.2.2.2.1,kr y19.1,y18.2.2.2.2.2)
     else o (y15.2.1,y15.2.2,z,hdr,q6.mk 8 (lit []) 0 y14.a_ (C [] B),w)).bind λy20=>
     (q5k (y20.1,y20.2.1)).bind λy21=>(zo 64 y20.2.2.2.2.2 [kr y20.2.2.2.2.1]).bind λy22=>
     (zo 64 y22 [q6.mk y21.1.1 y21.1.2.1 y21.1.2.2.1 y21.1.2.2.2 y21.2.2.2]).bind λy23=>o (y20.2.2.2.1,y21.2.1,y21.2.2.1,y23))=o c/\pkR c=(((k:Int),0,e,a),T):=by
  intro k e a w z hdr hk he hw;obtain⟨t,ht⟩:=zcl hk;obtain⟨v2,w2,hb⟩:=zgF.b (a:=a) hk he;simp only[ht,yr hk he,hb,jj,jk,jp];obtain⟨w3,e3,l3⟩:=zsk (w:=w) (x:=q6.mk 8 (lit []) 0 t.a_ (C [] B)) (by omega);obtain⟨w4,e4,l4⟩:=zsk (w:=w3) (x:=q6.mk v2.1 v2.2.1 v2.2.2.1 v2.2.2.2 w2) (by omega);simp only[e3,e4,jj];exact⟨_,rfl,rfl⟩
 refine(yh g).bd ?_ λm t1 k1 em g1 l1=>?_
 ·rintro⟨v,_⟩ k e a rfl hk he;simp only[Zq hk he,yr hk he,jj];rw[znK he];simp only[jj];exact tl hk he (by simp)
 refine(yg g1 [40]).bd ?_ λ_ t2 k2 _ g2 l2=>?_
 ·rintro _ k e a rfl hk he;simp only[yr hk he,jj,id];rw[znK he];simp only[jj];exact tl hk he (by simp)
 rw[<- gh];refine(zus g2 (by omega)).bd ?_ λps t4 k4 _ g4 l4 l4b=>?_
 ·intro k e a w hk he hw;exact tl hk he hw
 have hpos:=DB.2 g4.g.ne;simp only[g4.idx,jj,toR]
 have fin:∀{t5:List Tk} {k5:Nat} (ret:Nd),GK T k5 t5->t5.length<=t4.length->RS T 0 (ts.length - 1) ((yf 8 t5).bd λb t6 =>.ok (⟨6,m.T_,m.N_,at_,⟨ps++[ret,b],A⟩⟩,t6))
     ((q5k (((k5:Int),0,0,0),T)).bind λy21=>(zo 64 (rS (mkS ps)) [rN ret]).bind λy22=>
     (zo 64 y22 [q6.mk y21.1.1 y21.1.2.1 y21.1.2.2.1 y21.1.2.2.2 y21.2.2.2]).bind λy23=>o (((6,m.T_,m.N_,at_):Int×U0×Int×Int),y21.2.1,y21.2.2.1,y23)) ndR pkR:=by
  intro t5 k5 ret g5 l5;rw[xE (acc:=ps) (by omega)];refine(zgF.g g5).bd ?_ λb t6 k6 _ g6 l6 =>.ok g6 (by omega) ?_
  ·rintro⟨v,p,q,w⟩ k e a hp hk he;simp only[pkR,D.injEq] at hp;obtain⟨rfl,rfl⟩:=hp;simp only[jj];rw[Yn (by simp;omega)];exact⟨_,rfl,rfl⟩
  ·simp only[jj,ndR,ndT];rw[Yn (by simp;omega),show q6.mk b.k_ b.T_ b.N_ b.a_ (rS b.K_)=rN b from(yl b).symm,yp];simp
 unfold zl5;rw[PR.bd_ite];refine Ye g4 (λh5 g5 l5=>?_) λh5=>?_
 · simp only[jq,zdI g5,jj];cases h6:isP [38] t4.tail with
   |true=>
    simp only[jq,VS g5,jj];obtain⟨v,hv⟩:=zlX (d:=0) (a:=(hd t4.tail).a_) g5.lt (show(20:Int)≠0 by decide);obtain⟨v2,w2,hb⟩:=zgF.b (a:=(hd t4.tail).a_) g5.lt (show(20:Int)≠0 by decide);simp only[hv,hb,jj,zj];rw[xE (acc:=ps) (by omega)];simp only[jj];rw[Yn (by simp;omega)];exact⟨_,_,rfl,rfl,g5.lt,by simp[xS]⟩
   |false=>
    simp only[jk,jp,jj,gh];refine(zsi g5).bd ?_ λret t5 k5 _ g6 l6=>?_
    ·rintro⟨v,_⟩ k e a rfl hk he;obtain⟨v2,w2,hb⟩:=zgF.b (a:=a) hk he;simp only[hb,jj,zj];rw[xE (acc:=ps) (by omega)];simp only[jj];rw[Yn (by simp;omega)];exact⟨_,rfl,rfl⟩
    ·simp only[zj];exact fin ret g6 (by omega)
 ·simp only[jk,jp,jj];rw[show q6.mk 8 (lit []) 0 (hd t4).a_ (C [] B)=rN ⟨8,lit [],0,(hd t4).a_,nilS⟩ by rw[Xq,yq]];simp only[zj,PR.bd_ok];exact fin _ g4 (by omega)
end
end
section
section
variable {T:Sl RTk}{d e a:Int}{k n:Nat}{ts:List Tk}{z hdr:Int×U0×Int×Int}
theorem zzk(g:GK T k ts):RS T d (ts.length - 1) (vd ts) (q44 (((k:Int),d,0,0),T)) (λn st=>(rN n,st)) E:=by
 unfold q44 q9b vd;simp only[g.idx,jj,toR];refine Ye g (λh g1 l1=>?_) λh=>?_
 ·simp only[jq];exact .ok g1 (by omega) (by rw[Xq,yq])
 simp only[jk,jp];refine Ye g (λh g1 l1=>?_) λh=>?_
 ·simp only[jq];exact .ok g1 (by omega) (by rw[Xq,yq])
 simp only[jk,jp];have no:∀(i:Int) (s:List UInt8) (z q:Int×U0×Int×Int),za (⟨[lit [99,111,117,110,116,101,100],lit [108,111,99,107],lit [103,117,97,114,100]],A⟩:Sl U0) i=o (lit s)->0<=i->i < 3->isP s ts=B->q3u q10 q15 q19 (i,((k:Int),d,0,0),T,z,q,C [lit [99,111,117,110,116,101,100],lit [108,111,99,107],lit [103,117,97,114,100]] A)=o (.next (i+1,((k:Int),d,0,0),T,z,q,C [lit [99,111,117,110,116,101,100],lit [108,111,99,107],lit [103,117,97,114,100]] A)):=by
  intro i s z q hs h0 h3 hi;unfold q3u;simp only[hs,xa g,hi,jj,jk,jp];rw[jv (by simp[Sl.len];omega),zD (by omega) (by omega)]
 have yes:∀(i:Int) (s:List UInt8),za (⟨[lit [99,111,117,110,116,101,100],lit [108,111,99,107],lit [103,117,97,114,100]],A⟩:Sl U0) i=o (lit s)->0<=i->i < 3->isP s ts=A->
     RS T d (ts.length - 1) ((Zb ts.tail).bd λk t1 =>.ok (⟨2,(hd ts).T_,0,(hd ts).a_,⟨[k],A⟩⟩,t1)) ((lpO (q3u q10 q15 q19) (i,((k:Int),d,0,0),T,((0,lit [],0,0):Int×U0×Int×Int),(2,(hd ts).T_,0,(hd ts).a_),C [lit [99,111,117,110,116,101,100],lit [108,111,99,107],lit [103,117,97,114,100]] A)).bind λy11=>
      Sum.elim (λy12=>o (q6.mk y12.2.2.1.1 y12.2.2.1.2.1 y12.2.2.1.2.2.1 y12.2.2.1.2.2.2 y12.2.2.2,y12.1,y12.2.1)) (λy13=>(q19 (20,y13.1,y13.2.1)).bind λy14=>o (q6.mk y13.2.2.2.1 y13.2.2.2.2.1 y13.2.2.2.2.2.1 y13.2.2.2.2.2.2 (C [] B),y14)) y11) (λn st=>(rN n,st)) E:=by
  intro i s hs h0 h3 hi;obtain⟨g1,l1⟩:=g.is hi
  have hb:q3u q10 q15 q19 (i,((k:Int),d,0,0),T,(0,lit [],0,0),(2,(hd ts).T_,0,(hd ts).a_),C [lit [99,111,117,110,116,101,100],lit [108,111,99,107],lit [103,117,97,114,100]] A) =
      (q15 ((((k+1:Nat):Int),d,0,0),T)).bind λy10=>o (.done (.inl (y10.2.1,y10.2.2,(2,(hd ts).T_,0,(hd ts).a_),C [q6.mk y10.1.1 y10.1.2.1 y10.1.2.2.1 y10.1.2.2.2 (C [] B)] A))):=by
   unfold q3u;simp only[hs,xa g,hi,jj,jq];rw[jv (by simp[Sl.len];omega)]
  have hr:=yh (d:=d) g1;cases e:Zb ts.tail with
  |error er=>
   rw[e] at hr;obtain⟨⟨v,_⟩,k1,e1,rfl,h5,h6⟩:=hr;rw[e1,jj] at hb;rw[zw hb];exact⟨_,k1,rfl,rfl,h5,h6⟩
  |ok p=>
   obtain⟨m,t1⟩:=p;rw[e] at hr;obtain⟨k1,e1,g2,l2⟩:=hr;rw[e1,jj] at hb;rw[zw hb];refine .ok g2 (by omega) ?_;simp only[jj,jo];rw[X1 m (zN e),Xq,Wn]
 cases h3:isP [99,111,117,110,116,101,100] ts with
 |true=>exact yes 0 _ rfl (by omega) (by omega) h3
 |false=>
 rw[zB (no 0 _ _ _ rfl (by omega) (by omega) h3)];simp only[jk,jp];cases h4:isP [108,111,99,107] ts with
 |true=>exact yes (0+1) _ rfl (by omega) (by omega) h4
 |false=>
 rw[zB (no (0+1) _ _ _ rfl (by omega) (by omega) h4)];simp only[jk,jp];cases h5:isP [103,117,97,114,100] ts with
 |true=>exact yes (0+1+1) _ rfl (by omega) (by omega) h5
 |false=>
 rw[zB (no (0+1+1) _ _ _ rfl (by omega) (by omega) h5),zw (y :=.inr (((k:Int),d,0,0),T,_,_)) rfl];simp only[jk,jp,jj,jm,VS g];exact⟨_,k,rfl,rfl,g.lt,by simp[xS]⟩
noncomputable def zeb(f:PS->U3 ((Int×U0×Int×Int)×(Int×Int×Int×Int)×Sl RTk×Sl RNd))(st:PS):U3 (RNd×PS):=
 (f st).bind λy=>o (q6.mk y.1.1 y.1.2.1 y.1.2.2.1 y.1.2.2.2 y.2.2.2,y.2.1,y.2.2.1)
theorem zsm{f:PS->U3 ((Int×U0×Int×Int)×(Int×Int×Int×Int)×Sl RTk×Sl RNd)}(h:∀{ts k},GK T k ts->RS T d (ts.length - 1) (one ts) (f (((k:Int),d,0,0),T)) ndR pkR):zpo T d one (zeb f):=by
 intro ts k g;have hr:=h g;unfold zeb;cases e:one ts with
 |error er=>
  rw[e] at hr;obtain⟨⟨v,p,q,w⟩,k1,e1,hp,h5,h6⟩:=hr;rw[e1];exact⟨_,k1,rfl,hp,h5,h6⟩
 |ok p=>
  obtain⟨m,t1⟩:=p;rw[e] at hr;obtain⟨k1,e1,g2,l2⟩:=hr;rw[e1];exact .ok g2 l2 (by simp only[jj,ndR,ndT];rw[yl])
theorem zxE(g:GK T k ts):RS T d (ts.length - 1) (xB ts) (q3v (((k:Int),d,0,0),T)) ndR pkR:=by
 unfold q3v qbu xB;refine(yh g).bd ?_ λm t1 k1 em g1 l1=>?_
 ·rintro⟨v,_⟩ k e a rfl hk he;simp only[yr hk he,jj,jk,jp];exact⟨_,rfl,rfl⟩
 refine Ye g1 (λh g2 l2=>?_) λh=>?_
 ·simp only[jq,gh,jj];refine(yh g2).bd ?_ λx t3 k3 ex g3 l3=>?_
  ·rintro⟨v,_⟩ k e a rfl hk he;simp only[Zq hk he,jj];exact⟨_,rfl,rfl⟩
  refine(yg g3 [93]).bd ?_ λ_ t4 k4 _ g4 l4 =>.ok g4 (by omega) ?_
  ·rintro _ k e a rfl hk he;exact⟨_,rfl,rfl⟩
  ·simp only[ndR,Wn];rw[X1 x (zN ex)];rfl
 ·simp only[jk,jp,jj];exact .ok g1 (by omega) (by simp only[ndR,yq];rfl)
noncomputable abbrev Vi:=qct q15 q44 q10 q3v q12 q1s
noncomputable abbrev W0:=qcu q15 q44 q10 q3v q12 q1s
theorem zAU(k:Nat)(w:Sl RNd):Vi (A,((k:Int),d,0,0),T,z,hdr,w)=zea (zeb q3v) (lit [125]) (λb=>b) (((k:Int),d,0,0),T) z hdr w:=by
 unfold Vi qct zea zeb;grind
theorem zpp(p:Int×Int×Int×Int)(w:Sl RNd):Vi (B,p,T,z,hdr,w)=o (.done (p,T,z,hdr,w)):=rfl
theorem zAV(p:Int×Int×Int×Int)(w:Sl RNd):W0 (A,p,T,z,hdr,w)=(zeb q1s (p,T)).bind λy=>(zo 64 w [y.1]).bind λw'=>(q10 (lit [44],y.2)).bind λy9=>o (.next (y9.1,y9.2.1,y9.2.2,z,hdr,w')):=by
 unfold W0 qcu zeb;grind
theorem zi9(p:Int×Int×Int×Int)(w:Sl RNd):W0 (B,p,T,z,hdr,w)=o (.done (p,T,z,hdr,w)):=rfl
theorem zgH:∀(j:Nat) (ts:List Tk) (k:Nat) (acc:List Nd),GK T k ts->ts.length<=j->acc.length+ts.length<=30000->
    LQ T d (ts.length - 1) ((YB ts).bd λa t1=>Zt YB j (acc++[a]) t1) (lpO W0 (A,((k:Int),d,0,0),T,z,hdr,rS (mkS acc))) z hdr
 |0,ts,k,acc,g,hj,ha=>absurd (UP (by omega)) g.g.ne
 |j+1,ts,k,acc,g,hj,ha=>by
  have hpos:=DB.2 g.g.ne;have hr:=zsm (T:=T) (d:=d) (one:=YB) (f:=q1s) (λg=>zsh g) g;have hb:=zAV (T:=T) (z:=z) (hdr:=hdr) ((k:Int),d,0,0) (rS (mkS acc));cases e:YB ts with
  |error er=>
   rw[e] at hr;obtain⟨⟨v,_⟩,k1,e1,rfl,h3,h4⟩:=hr;rw[e1] at hb;simp only[jj] at hb;rw[xE (acc:=acc) (by omega)] at hb;simp only[jj,yr h3 h4] at hb;rw[zB hb,zw (zi9 _ _)];exact⟨k1,_,rfl,h3,h4,by simp;omega⟩
  |ok p=>
   obtain⟨x,t1⟩:=p;rw[e] at hr;obtain⟨k1,e1,g1,l1⟩:=hr;rw[e1] at hb;simp only[jj] at hb;rw[xE (acc:=acc) (by omega),zgE] at hb;simp only[jj,xa g1] at hb;rw[PR.bd_ok];unfold Zt;have hpos1:=DB.2 g1.g.ne;cases h44:isP [44] t1 with
   |true=>
    obtain⟨g2,l2⟩:=g1.is h44;rw[h44] at hb;simp only[jq] at hb;rw[zB hb];simp only[jq];exact(zgH j t1.tail (k1+1) (acc++[x]) g2 (by omega) (by simp;omega)).mono (by omega)
   |false=>
    rw[h44] at hb;simp only[jk,jp] at hb;simp only[jk,jp];rw[zB hb,zw (zi9 _ _)];exact⟨k1,rfl,g1,by omega,by simp;omega⟩
end
end
section
section
variable {T:Sl RTk}{d e a:Int}{k n:Nat}{ts:List Tk}{z hdr:Int×U0×Int×Int}
theorem VU(p:List Nd):∀(j:Nat) (acc:List Nd) (ts:List Tk),Zt one j (p++acc) ts=(Zt one j acc ts).bd λl t =>.ok (p++l,t)
 |0,acc,ts=>rfl
 |j+1,acc,ts=>by
  unfold Zt;cases isP [44] ts with
  |false=>rfl
  |true=>
   simp only[jq,PR.bd_assoc];congr 1;funext a t;rw[Db];exact VU p j (acc++[a]) t
theorem zzl{l:List α}(h:l≠[]):mkS l=⟨l,A⟩:=by cases l;exact absurd rfl h;rfl
def W1(s:Nd)(t2:List Tk):PR (List Nd):=if isP [123] t2=A then(Z9 xB t2.tail).bd λl t3=>(zU [125] t3).bd λ_ t4 =>.ok ([s]++l,t4) else .ok ([s],t2)
def zbd(ks:List Nd)(t5:List Tk):PR (List Nd):=if isP [119,104,101,114,101] t5=A then(Z9 YB t5.tail).bd λl t6 =>.ok (ks++l,t6) else .ok (ks,t5)
theorem zut (g:GK T k ts) (hl:ts.length<=25000) (s:Nd):LQ T d ts.length (W1 s ts)
    ((q10 (lit [123],((k:Int),d,0,0),T)).bind λy2=>lpO Vi (y2.1,y2.2.1,y2.2.2,z,hdr,rS (mkS [s]))) z hdr:=by
 rw[xa g,jj];unfold W1;cases h:isP [123] ts with
 |true=>
  obtain⟨g1,l1⟩:=g.is h;simp only[jq];have:=zdK (d:=d) (fl:=λb=>b) (body:=Vi) (z:=z) (hdr:=hdr) (zsm (one:=xB) (f:=q3v) λg=>zxE g) zAU zpp ts.tail.length ts.tail (k+1) [s] g1 (UJ _) (by simp;omega);unfold Z9;simp only[VU,PR.bd_assoc,PR.bd_ok] at this |-
  exact this.mono (by omega)
 |false=>
  simp only[jk,jp];rw[zw (zpp _ _)];exact⟨k,rfl,g,UJ _,by simp;omega⟩
theorem zuu (g:GK T k ts) (ks:List Nd) (hl:ks.length+ts.length<=30000):LQ T d ts.length (zbd ks ts)
    ((q10 (lit [119,104,101,114,101],((k:Int),d,0,0),T)).bind λy2=>lpO W0 (y2.1,y2.2.1,y2.2.2,z,hdr,rS (mkS ks))) z hdr:=by
 rw[xa g,jj];unfold zbd;cases h:isP [119,104,101,114,101] ts with
 |true=>
  obtain⟨g1,l1⟩:=g.is h;simp only[jq];have:=zgH (d:=d) (z:=z) (hdr:=hdr) ts.tail.length ts.tail (k+1) ks g1 (UJ _) (by omega);unfold Z9;simp only[VU,PR.bd_assoc,PR.bd_ok] at this |-
  exact this.mono (by omega)
 |false=>
  simp only[jk,jp];rw[zw (zi9 _ _)];exact⟨k,rfl,g,UJ _,by omega⟩
theorem znL(at_:Int)(ts:List Tk):zdC at_ ts=(Zb ts).bd λn t1=>(vd t1).bd λs t2=>(W1 s t2).bd λks t5=>(zbd ks t5).bd λks t7=>(zU [59] t7).bd λ_ t8 =>.ok (⟨1,n.T_,n.N_,at_,⟨ks,A⟩⟩,t8):=rfl
theorem zsn{s:Nd}{ts:List Tk}{l:List Nd}(h:W1 s ts = .ok (l,t)):l≠[]:=by
 unfold W1 at h;split at h
 ·obtain⟨a,t1,_,h⟩:=bd_ok h;obtain⟨b,t2,_,h⟩:=bd_ok h;cases h;simp
 grind
theorem zuv{ks:List Nd}{ts:List Tk}{l:List Nd}(hk:ks≠[])(h:zbd ks ts = .ok (l,t)):l≠[]:=by
 unfold zbd at h;split at h
 ·obtain⟨a,t1,_,h⟩:=bd_ok h;cases h;simp[hk]
 grind
theorem zAW(g:GK T k ts)(hl:ts.length<=25000)(at_:Int):RS T d (ts.length - 1) (zdC at_ ts) (q6d (at_,((k:Int),d,0,0),T)) ndR pkR:=by
 unfold q6d qcv;rw[znL];have t2:∀{k:Nat} {e a:Int} {w:Sl RNd} {hdr:Int×U0×Int×Int},k < T.xs.length->e≠0->∃c,(q12 (lit [59],((k:Int),d,e,a),T)).bind (λy16=>o (hdr,y16.1,y16.2,w))=o c/\pkR c=(((k:Int),d,e,a),T):=by
  intro k e a w hdr hk he;rw[Zq hk he];exact⟨_,rfl,rfl⟩
 have tl:∀{k:Nat} {e a:Int} {w:Sl RNd} {z hdr:Int×U0×Int×Int},k < T.xs.length->e≠0->∃c,((q10 (lit [119,104,101,114,101],((k:Int),d,e,a),T)).bind λy10=>(lpO W0 (y10.1,y10.2.1,y10.2.2,z,hdr,w)).bind λy15=>(q12 (lit [59],y15.1,y15.2.1)).bind λy16=>o (y15.2.2.2.1,y16.1,y16.2,y15.2.2.2.2))=o c/\pkR c=(((k:Int),d,e,a),T):=by
  intro k e a w z hdr hk he;rw[yr hk he,jj,zw (zi9 _ _),jj];exact t2 hk he
 have ts':∀{k:Nat} {e a:Int} {w:Sl RNd} {z hdr:Int×U0×Int×Int},k < T.xs.length->e≠0->∃c,((q10 (lit [123],((k:Int),d,e,a),T)).bind λy2=>(lpO Vi (y2.1,y2.2.1,y2.2.2,z,hdr,w)).bind λy9=>(q10 (lit [119,104,101,114,101],y9.1,y9.2.1)).bind λy10=>(lpO W0 (y10.1,y10.2.1,y10.2.2,y9.2.2)).bind λy15=>(q12 (lit [59],y15.1,y15.2.1)).bind λy16=>o (y15.2.2.2.1,y16.1,y16.2,y15.2.2.2.2))=o c/\pkR c=(((k:Int),d,e,a),T):=by
  intro k e a w z hdr hk he;rw[yr hk he,jj,zw (zpp _ _),jj];exact tl hk he
 refine(yh g).bd ?_ λm t1 k1 em g1 l1=>?_
 ·rintro⟨v,_⟩ k e a rfl hk he;obtain⟨v2,hv⟩:=zzh (d:=d) (a:=a) hk he;simp only[hv,jj];exact ts' hk he
 refine(zzk g1).bd ?_ λs t2' k2 es g2 l2=>?_
 ·rintro⟨v,_⟩ k e a rfl hk he;exact ts' hk he
 simp only[zj];rw[show(⟨[rN s],A⟩:Sl RNd)=rS (mkS [s]) by rw[yp];rfl,<- gh];refine(zut g2 (by omega) s).bd ?_ λks t5 k5 ek g5 l5 l5b=>?_
 ·intro k e a w hk he hw;exact tl hk he
 rw[<- gh];have hpos:=DB.2 g5.g.ne;by_cases hks:ks.length+t5.length<=30000
 ·refine(zuu g5 ks hks).bd ?_ λks2 t7 k7 ef g7 l7 l7b=>?_
  ·intro k e a w hk he hw;exact t2 hk he
  refine(yg g7 [59]).bd ?_ λ_ t8 k8 _ g8 l8 =>.ok g8 (by omega) ?_
  ·rintro _ k e a rfl hk he;exact⟨_,rfl,rfl⟩
  ·rw[zzl (zuv (zsn ek) ef)];rfl
 ·exfalso;have:∀(j:Nat) (acc:List Nd) (t:List Tk) (l:List Nd) (t3:List Tk),Zt xB j acc t = .ok (l,t3)->l.length+t3.length<=acc.length+t.length:=by
   intro j
   induction j with
   |zero=>intro acc t l t3 e;cases e;grind
   |succ j ih=>
    intro acc t l t3 e;unfold Zt at e;split at e
    ·rename_i hp;obtain⟨x,t',hx,e⟩:=bd_ok e;have h1:=ih _ _ _ _ e;have h2:=(zdF _ _ _ hx).2;grind
    grind
  unfold W1 at ek;split at ek
  ·rename_i hp;have h3:=zM hp;obtain⟨l,t3,hx,ek⟩:=bd_ok ek;obtain⟨u,t4,hm,ek⟩:=bd_ok ek;unfold Z9 at hx;obtain⟨x,t',hx1,hx⟩:=bd_ok hx;have h1:=this _ _ _ _ _ hx;have h2:=(zdF _ _ _ hx1).2;have h4:=Zp hm;grind
  grind
theorem zl6:∀(k:Nat) (n:Nd),zl n<=k->zl n<=1000000000->q34 k (rN n)=o (zl n:Int)
 |0,n,h,_=>by have:=zZ n;omega
 |k+1,n,h,hb=>by
  obtain⟨a,b,c,d,⟨xs,nn⟩⟩:=n;rw[Xq,yp];show((lpO (q6y (q34 k)) (1,0,q6.mk a b c d ⟨xs.map rN,nn⟩)).bind λy3=>o y3)=_;have hs:zl ⟨a,b,c,d,⟨xs,nn⟩⟩=zd xs+1:=by rw[zk]
  have loop:∀(m i:Nat),i+m=xs.length->lpO (q6y (q34 k)) (((1+zd (xs.take i):Nat):Int),(i:Int),q6.mk a b c d ⟨xs.map rN,nn⟩)=o ((1+zd xs:Nat):Int):=by
   intro m
   induction m with
   |zero=>
    intro i hi;have hf:q6y (q34 k) (((1+zd (xs.take i):Nat):Int),(i:Int),q6.mk a b c d ⟨xs.map rN,nn⟩)=o (.done ((1+zd (xs.take i):Nat):Int)):=by
     show(if decide ((i:Int) < ((xs.map rN).length:Int))=A then _ else _)=_;grind
    rw[zw hf,Dm (by omega)]
   |succ m ih=>
    intro i hi;have hlt:i < xs.length:=by omega
    have hg:za (⟨xs.map rN,nn⟩:Sl RNd) (i:Int)=o (rN xs[i]):=by
     rw[wO];simp[hlt]
    have h1:=ze1 hlt;have h2:=zbb xs (i+1);have hr:q34 k (rN xs[i])=o (zl xs[i]:Int):=zl6 k xs[i] (by omega) (by omega);have hlen:xs.length<=zd xs:=by
     clear hr h1 h2 hg ih hs hb h hlt hi
     induction xs with
     |nil=>simp
     |cons x r ih=>have:=zZ x;simp only[zd,jz];omega
    have hf:q6y (q34 k) (((1+zd (xs.take i):Nat):Int),(i:Int),q6.mk a b c d ⟨xs.map rN,nn⟩)=o (.next (((1+zd (xs.take (i+1)):Nat):Int),((i+1:Nat):Int),q6.mk a b c d ⟨xs.map rN,nn⟩)):=by
     show(if decide ((i:Int) < ((xs.map rN).length:Int))=A then(za (⟨xs.map rN,nn⟩:Sl RNd) (i:Int)).bind _ else _)=_;rw[jv (by simp;omega),hg];simp only[jj,zj,hr];rw[zD (by omega) (by omega),zD (by omega) (by omega),h1];have e1:((1+zd (xs.take i):Nat):Int)+(zl xs[i]:Int)=((1+(zd (xs.take i)+zl xs[i]):Nat):Int):=by omega
     grind
    rw[zB hf];grind
  have:=loop xs.length 0 (by omega);simp only[List.take_zero,zd,De] at this;grind
theorem zxF{l:List UInt8}(h:two l=A):∀c∈l.take 2,isL c=false:=by
 unfold two at h;simp only[UN,jl] at h;rcases h with h | h | h<;>rw[h]<;>decide
theorem zxG{l:List UInt8}{n:Nat}{v:Int}(h:nxt l = .tok 4 n v):∀c∈l.take n,isL c=false:=by
 unfold nxt at h;split at h
 ·cases h
 rename_i c r;split at h
 ·cases h
 split at h
 ·cases h
 split at h
 ·unfold XX at h;grind
 split at h
 ·unfold xz at h;grind
 ·unfold xA at h;split at h
  ·cases h
  ·cases h;unfold YI;split
   ·rename_i h2;exact zxF h2
   ·rename_i h2;simp only;grind
theorem zfz:∀(f at_:Nat) (l:List UInt8) (ts:List Tk),Wj f at_ l = .inr ts->∀t∈ts,t.k_=4->∀c∈bs t.T_,isL c=B
 |0,at_,l,ts,h=>by cases h;simp
 |f+1,at_,l,ts,h=>by
  unfold Wj at h;split at h
  ·cases h;simp
  split at h
  ·exact zfz f _ _ ts h
  ·cases h
  ·rename_i k n v hn;split at h
   ·cases h
   ·rename_i ts' hts;cases h;intro t ht hk;rcases Da.1 ht with rfl | ht
    ·simp only at hk;subst hk;rw[wo];exact zxG hn
    ·exact zfz f _ _ ts' hts t ht hk
theorem zl7(s:U0):∀t∈(Z1 s).2.2.xs,t.k_=4->∀c∈bs t.T_,isL c=false:=by
 unfold Z1;split
 ·simp
 ·split
  ·simp
  ·rename_i ts e;intro t ht hk;simp only[U5,Dy] at ht;rcases ht with ht | rfl
   ·exact zfz _ _ _ _ e t ht hk
   ·simp at hk
end
end
section
section
variable {T:Sl RTk}{d e a:Int}{k n:Nat}{ts:List Tk}{z1 z2:Int×U0×Int×Int}
noncomputable abbrev vw:=q86 q6j q10 q6x q12 q6d qa9
theorem zhW(he:e≠0)(p:Int)(w:Sl RNd):lpO vw (z1,(p,d,e,a),z2,T,w)=o (z1,(p,d,e,a),z2,T,w):=
 zw (by unfold vw q86;grind)
theorem zgI:∀(j:Nat) (ts:List Tk) (k:Nat) (acc:List Nd),GK T k ts->ts.length<=25000->ts.length<=j->acc.length+ts.length<=30000->
    match Yw j acc ts with
    | .error er=>∃(k1:Nat) (w:Sl RNd),lpO vw (z1,((k:Int),0,0,0),z2,T,rS (mkS acc))=o (z1,((k1:Int),0,er.2,er.1),z2,T,w)/\er.2≠0
    | .ok (l,_)=>∃k1:Nat,lpO vw (z1,((k:Int),0,0,0),z2,T,rS (mkS acc))=o (z1,((k1:Int),0,0,0),z2,T,rS (mkS l))
 |0,ts,k,acc,g,hl,hj,ha=>absurd (UP (by omega)) g.g.ne
 |j+1,ts,k,acc,g,hl,hj,ha=>by
  have hpos:=DB.2 g.g.ne;unfold Yw
  have hb:vw (z1,((k:Int),0,0,0),z2,T,rS (mkS acc))=if(hd ts).k_=0 then o (.done (z1,((k:Int),0,0,0),z2,T,rS (mkS acc))) else
      if isP [102,110] ts=A then(q6x ((hd ts).a_,(((k+1:Nat):Int),0,0,0),T)).bind λy8=>(zo 64 (rS (mkS acc)) [q6.mk y8.1.1 y8.1.2.1 y8.1.2.2.1 y8.1.2.2.2 y8.2.2.2]).bind λy9=>o (.next (z1,y8.2.1,z2,y8.2.2.1,y9))
      else(q12 (lit [116,121,112,101],((k:Int),0,0,0),T)).bind λy10=>(if y10.1.2.2.1=0 then(q6d ((hd ts).a_,y10)).bind λy11=>(zo 64 (rS (mkS acc)) [q6.mk y11.1.1 y11.1.2.1 y11.1.2.2.1 y11.1.2.2.2 y11.2.2.2]).bind λy12=>o (z1,y11.2.1,z2,y11.2.2.1,y12) else o (z1,y10.1,z2,y10.2,rS (mkS acc))).bind λy=>o (.next y):=by
   unfold vw q86;simp only[g.idx,jj,js,jq,toR,jl];by_cases h0:(hd ts).k_=0
   ·grind
   · simp only[h0,Di,ju,jp,jq,xa g,jj];cases h1:isP [102,110] ts with
     |true=>grind
     |false=>grind
  by_cases h0:(hd ts).k_=0
  · rw[jv h0] at hb |-
    exact⟨k,zw hb⟩
  rw[jx h0] at hb |-
  cases h1:isP [102,110] ts with
  |true=>
   obtain⟨g1,l1⟩:=g.is h1;rw[h1] at hb;simp only[jq] at hb |-
   have hr:=zBy g1 (by omega) (hd ts).a_;cases es:fnP (hd ts).a_ ts.tail with
   |error er=>
    rw[es] at hr;obtain⟨⟨w,p,q,ks⟩,k1,e1,hp,h3,h4⟩:=hr;simp only[pkR,D.injEq] at hp;obtain⟨rfl,hq⟩:=hp;obtain rfl:T=q:=hq.symm;rw[e1,jj,xE (acc:=acc) (by omega)] at hb;exact⟨k1,_,by rw[zB hb,zhW h4],h4⟩
   |ok p=>
    obtain⟨x,t1⟩:=p;rw[es] at hr;obtain⟨k1,e1,g2,l2⟩:=hr;rw[e1,jj] at hb;simp only[ndR,ndT] at hb;rw[xE (acc:=acc) (by omega),show q6.mk x.k_ x.T_ x.N_ x.a_ (rS x.K_)=rN x from(yl x).symm,zgE] at hb;have ih:=zgI j t1 k1 (acc++[x]) g2 (by omega) (by omega) (by simp;omega);rw[zB hb];exact ih
  |false=>
   rw[h1] at hb;simp only[jk,jp] at hb |-
   have hm:=yg (d:=0) g [116,121,112,101];cases em:zU [116,121,112,101] ts with
   |error er=>
    rw[em] at hm;obtain⟨b,k1,e1,hp,h3,h4⟩:=hm;simp only[id] at hp;subst hp;rw[e1,jj] at hb;simp only[h4,jp,jj] at hb;exact⟨k1,_,by rw[zB hb,zhW h4],h4⟩
   |ok p=>
    obtain⟨u,t0⟩:=p;rw[em] at hm;obtain⟨k0,e0,g0,l0⟩:=hm;rw[e0,jj] at hb;simp only[jq] at hb;rw[PR.bd_ok];have hr:=zAW (d:=0) g0 (by omega) (hd ts).a_;cases es:zdC (hd ts).a_ t0 with
    |error er=>
     rw[es] at hr;obtain⟨⟨w,p,q,ks⟩,k1,e1,hp,h3,h4⟩:=hr;simp only[pkR,D.injEq] at hp;obtain⟨rfl,hq⟩:=hp;obtain rfl:T=q:=hq.symm;rw[e1,jj,xE (acc:=acc) (by omega)] at hb;exact⟨k1,_,by rw[zB hb,zhW h4],h4⟩
    |ok p=>
     obtain⟨x,t1⟩:=p;rw[es] at hr;obtain⟨k1,e1,g2,l2⟩:=hr;rw[e1,jj] at hb;simp only[ndR,ndT] at hb;rw[xE (acc:=acc) (by omega),show q6.mk x.k_ x.T_ x.N_ x.a_ (rS x.K_)=rN x from(yl x).symm,zgE] at hb;have ih:=zgI j t1 k1 (acc++[x]) g2 (by omega) (by omega) (by simp;omega);rw[zB hb];exact ih
end
theorem zdL(s:U0):q2m s=o (rN (Xa s).1,(Xa s).2):=by
 unfold q2m qbv;rw[zpm,jj];have hz:rN ve=q6.mk 0 (lit []) 0 0 (C [] B):=by unfold ve;rw[Xq,yq]
 unfold Xa;simp only[jl];by_cases h:(Z1 s).2.1=0
 case neg=>grind
 case pos=>
 rw[jx (by simpa using h),jx (by simpa using h)];obtain⟨g,hn⟩:=zdG h;have hs:=zl7 s;generalize hx:(Z1 s).2.2=X at g hn hs;obtain⟨ts,nn⟩:=X;simp only at g hn hs;subst hn;have hlen:=g.len;have gk:GK ⟨ts.map toR,A⟩ 0 ts:=⟨rfl,g,by omega,hs⟩;have lp:=zgI (z1:=(0,lit [],0,0)) (z2:=(0,lit [],0,0)) ts.length ts 0 [] gk (by omega) (UJ _) (by simp;omega);rw[zl4] at lp;cases e:Yw ts.length [] ts with
 |error er=>
  rw[e] at lp;obtain⟨k1,w,lp,h2⟩:=lp;have lp:lpO vw ((0,lit [],0,0),(0,0,0,0),(0,lit [],0,0),⟨ts.map toR,A⟩,C [] B)=_:=lp;grind
 |ok p=>
  obtain⟨l,t1⟩:=p;rw[e] at lp;obtain⟨k1,lp⟩:=lp;have lp:lpO vw ((0,lit [],0,0),(0,0,0,0),(0,lit [],0,0),⟨ts.map toR,A⟩,C [] B)=_:=lp;rw[lp];have hsz:=zah _ _ _ _ _ e;simp only[zd] at hsz;have hsize:qa9 (q6.mk 0 (lit []) 0 0 (rS (mkS l)))=o ((zd l+1:Nat):Int):=by
   have:=zl6 100000 ⟨0,lit [],0,0,mkS l⟩ (by rw[zk];simp only[mkS];omega) (by rw[zk];simp only[mkS];omega);rw[zk,Xq] at this;exact this
  simp only[jj,Di,jt,jp,hsize];by_cases hb:4096 < zd l+1
  ·grind
  ·rw[jx (by omega),jx hb,Xq]
end
end Go.Px
