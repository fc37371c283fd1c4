/- Part Lc: Px22PA Px22PB Px22PC Px22PD Px22PE Px22PF Px2 -/
import Derived.Test.YtpcipfnohfefhaaGreatDoorLb
set_option linter.unusedVariables false
set_option linter.unusedSimpArgs false
namespace Go.Px
open Bool renaming true->A,false->B
open List renaming map_nil->H,cons_append->I
open _root_.Option renaming some->o,bind_fun_some->G
open Prod renaming mk->D,snd->E
open Sl renaming mk->C
variable{n':Nat}{one:List Tk->PR Nd}{t:List Tk}{α β γ δ:Type}{f:α->List Tk->PR β}{m:Us β}{r:PR α}
section
theorem Dy:∀{α : Type _} {l : List α},0 < l.length↔l≠[]:=@List.length_pos_iff
theorem wF(s:Sl α)(i:Nat):zb s (i:Int)=s.xs[i]?:=by
 unfold zb;grind
theorem zE{s:Type}{f:s->Us (Step s β)}{x y:s}(h:f x=o (.next y)):lpO f x=lpO f y:=by rw[Zs,h];rfl
theorem zx{s:Type}{f:s->Us (Step s β)}{x:s}{y:β}(h:f x=o (.done y)):lpO f x=o y:=by rw[Zs,h];rfl
abbrev RTk:=q9
abbrev RNd:=q7
abbrev PS:=(Int×Int×Int×Int)×Sl RTk
mutual
def rN:Nd->RNd
 |⟨k,t,n,a,s⟩=>⟨k,t,n,a,rS s⟩
def rS:Sl Nd->Sl RNd
 |⟨l,b⟩=>⟨rL l,b⟩
def rL:List Nd->List RNd
 |[]=>[]
 |n::l=>rN n::rL l
end
theorem zrv:∀l:List Nd,rL l=l.map rN
 |[]=>by simp[rL]
 |n::l=>by simp[rL,zrv l]
theorem yo(s:Sl Nd):rS s=⟨s.xs.map rN,s.nn⟩:=by cases s;unfold rS;rw[zrv]
theorem yk(n:Nd):rN n=⟨n.k_,n.T_,n.n_,n.a_,rS n.K_⟩:=by cases n;unfold rN;rfl
theorem yp:rS nilS=⟨[],B⟩:=by rw[yo];rfl
theorem zk(a:RNd):kr a=a:=by cases a;rfl
structure GK(T:Sl RTk)(k:Nat)(ts:List Tk):Prop where
 dr:T.xs.drop k=ts.map toR
 g:TGood ts
 b:k+ts.length<=30000
 sg:∀t∈ts,t.k_=4->∀c∈bs t.T_,isL c=B
def RS(T:Sl RTk)(d:Int)(n:Nat)(r:PR α)(m:Us β)(mk:α->PS->β)(pk:β->PS):Prop:=match r with
 | .error e=>∃(b:β) (k:Nat),m=o b/\pk b=(((k:Int),d,e.2,e.1),T)/\k < T.xs.length/\e.2≠0
 | .ok (a,ts)=>∃k:Nat,m=o (mk a (((k:Int),d,0,0),T))/\GK T k ts/\ts.length<=n
section
variable {T:Sl RTk}{d e a:Int}{k n:Nat}{ts:List Tk}
theorem GK.lt(h:GK T k ts):k < T.xs.length:=by
 have:=congrArg List.length h.dr;have h2:=Dy.2 h.g.ne;grind
theorem GK.idx(h:GK T k ts):zb T (k:Int)=o (toR (hd ts)):=by
 have h1:=congrArg (λl=>l[0]?) h.dr;simp only[UV,US,Uz] at h1;rw[show zb T (k:Int)=T.xs[k]? from wF T k,h1]
 match ts,h.g with
 |[],g=>exact absurd rfl g.ne
 |t::r,_=>rfl
theorem GK.tail(h:GK T k ts)(hk:(hd ts).k_≠0):GK T (k+1) ts.tail/\ts.tail.length+1=ts.length:=by
 have h1:=h.g.tail hk;have h2:=h.g.tail_len;refine⟨⟨?_,h1,?_,λt ht=>h.sg t (List.mem_of_mem_tail ht)⟩,h2⟩
 ·rw[<- List.drop_drop,h.dr]
  match ts with
  |[]=>rfl
  |t::r=>rfl
 ·have:=h.b;omega
theorem zb7(hk:k < T.xs.length):∃t,zb T (k:Int)=o t:=⟨T.xs[k],by rw[wF];grind⟩
theorem zw(hk:k < 1000000000):Ut ((k:Int)+1)=((k+1:Nat):Int):=by rw[zK (by omega) (by omega)];rfl
theorem zld(hk:k < T.xs.length)(he:e≠0)(s:Uq):q1j (s,((k:Int),d,e,a),T)=o (B,((k:Int),d,e,a),T):=by
 obtain⟨t,ht⟩:=zb7 hk;unfold q1j qal;grind
theorem yq(hk:k < T.xs.length)(he:e≠0)(s:Uq):qu (s,((k:Int),d,e,a),T)=o (B,((k:Int),d,e,a),T):=by
 unfold qu qa0;simp only[zld hk he,ji,jj,jo]
theorem zdn(he:e≠0)(c:Int):q15 (c,((k:Int),d,e,a),T)=o (((k:Int),d,e,a),T):=by
 unfold q15 q8v;grind
theorem Zp(hk:k < T.xs.length)(he:e≠0)(s:Uq):qz (s,((k:Int),d,e,a),T)=o (((k:Int),d,e,a),T):=by
 unfold qz q8w;simp only[yq hk he,zdn he,ji,Dq,jp]
theorem zgh(hk:k < T.xs.length)(he:e≠0):q12 (((k:Int),d,e,a),T)=o ((0,lit [],0,0),((k:Int),d,e,a),T):=by
 obtain⟨t,ht⟩:=zb7 hk;unfold q12 q8x;simp only[ht,zdn he,ji,UW,he,jt,jr,jp]
theorem xO(hk:k < T.xs.length)(he:e≠0):q28 (((k:Int),d,e,a),T)=o (0,((k:Int),d,e,a),T):=by
 obtain⟨t,ht⟩:=zb7 hk;unfold q28 q7h;simp only[ht,zdn he,ji,UW,he,jt,jr,jp]
theorem zgi(hk:k < T.xs.length)(he:e≠0)(x:RNd):q1z (x,((k:Int),d,e,a),T)=o (x,((k:Int),d,e,a),T):=by
 unfold q1z q8y;simp only[yq hk he,ji,jj,jo,zk]
theorem za3(hk:k < T.xs.length)(he:e≠0):∃v,q1n (((k:Int),d,e,a),T)=o (v,((k:Int),d,e,a),T):=by
 obtain⟨t,ht⟩:=zb7 hk;unfold q1n q8z;simp only[ht,yq hk he,xO hk he,zgh hk he,zgi hk he,ji,jj,jo];split<;>exact⟨_,rfl⟩
theorem zAA(hk:k < T.xs.length)(he:e≠0):q62 (((k:Int),d,e,a),T)=o (lit [],((k:Int),d,e,a),T):=by
 unfold q62 qa1;have h0:∀i:Int,∀s,zb (⟨[lit [60],lit [60,61],lit [61,61]],A⟩:Sl Uq) i=o s->0<=i->i < 3->q73 qu q15 (i,((k:Int),d,e,a),T,C [lit [60],lit [60,61],lit [61,61]] A)=o (.next (i+1,((k:Int),d,e,a),T,C [lit [60],lit [60,61],lit [61,61]] A)):=by
  intro i s hs h0 h3;unfold q73;simp only[hs,yq hk he,ji,jj,jo];rw[ju (by simp[Sl.len];omega),zK (by omega) (by omega)]
 rw[zE (h0 0 _ rfl (by omega) (by omega)),zE (h0 (0+1) _ rfl (by omega) (by omega)),zE (h0 (0+1+1) _ rfl (by omega) (by omega)),zx (y :=.inr (((k:Int),d,e,a),T)) rfl];simp only[ji,jl,zdn he]
theorem zyU(hk:k < T.xs.length)(he:e≠0):∃w,q34 (((k:Int),d,e,a),T)=o (((k:Int),d,e,a),T,w):=by
 unfold q34 q90;simp only[Zp hk he,yq hk he,ji,jj,jo,UW,he,jt,jr,jp];grind
theorem zle(hk:k < T.xs.length)(he:e≠0):∃v,q35 (((k:Int),d,e,a),T)=o (v,((k:Int),d,e,a),T):=by
 obtain⟨t,ht⟩:=zb7 hk;unfold q35 q91;simp only[ht,Zp hk he,yq hk he,zgh hk he,ji,jj,jo,Dq,jp];grind
theorem zrw(hk:k < T.xs.length)(he:e≠0):∃v,q5p (((k:Int),d,e,a),T)=o (v,((k:Int),d,e,a),T):=by
 obtain⟨t,ht⟩:=zb7 hk;obtain⟨v,hv⟩:=za3 (d:=d) (a:=a) hk he;unfold q5p q92;simp only[ht,hv,Zp hk he,yq hk he,zld hk he,zgh hk he,zgi hk he,ji,jj,jo];grind
theorem zmW(hk:k < T.xs.length)(he:e≠0)(hd : -1000<=d/\d<=1000)(j:Nat):∃v w,q44 (j+1) (((k:Int),d,e,a),T)=o (v,((k:Int),d,e,a),T,w):=by
 obtain⟨t,ht⟩:=zb7 hk;show∃v w,q29 _ _ _ _ _ _=_
 unfold q29;simp only[ht,Zp hk he,zld hk he,ji,jj,jo];rw[Zs];simp only[q45,he,jq,jj,jo,ji];rw[zK (n:=d+1) (by omega) (by omega),zK (by omega) (by omega),show d+1 - 1=d by omega];grind
theorem zyV(hk:k < T.xs.length)(he:e≠0):∃v,q3y (((k:Int),d,e,a),T)=o (v,((k:Int),d,e,a),T):=by
 obtain⟨t,ht⟩:=zb7 hk;unfold q3y q93;simp only[ht,yq hk he,ji,jj,jo];generalize ((0,lit [],0,0):Int×Uq×Int×Int)=z;have h0:∀(i:Int) (s) (q:Int×Uq×Int×Int),zb (⟨[lit [99,111,117,110,116,101,100],lit [108,111,99,107],lit [103,117,97,114,100]],A⟩:Sl Uq) i=o s->0<=i->i < 3->q3p qu q12 q15 (i,((k:Int),d,e,a),T,z,q,C [lit [99,111,117,110,116,101,100],lit [108,111,99,107],lit [103,117,97,114,100]] A)=o (.next (i+1,((k:Int),d,e,a),T,z,q,C [lit [99,111,117,110,116,101,100],lit [108,111,99,107],lit [103,117,97,114,100]] A)):=by
  intro i s q hs h0 h3;unfold q3p;simp only[hs,yq hk he,ji,jj,jo];rw[ju (by simp[Sl.len];omega),zK (by omega) (by omega)]
 rw[zE (h0 0 _ _ rfl (by omega) (by omega)),zE (h0 (0+1) _ _ rfl (by omega) (by omega)),zE (h0 (0+1+1) _ _ rfl (by omega) (by omega)),zx (y :=.inr (((k:Int),d,e,a),T,z,_)) rfl];simp only[ji,jl,zdn he];grind
end
end
section
section
variable {T:Sl RTk}{d e a:Int}{k n:Nat}{ts:List Tk}
theorem RS.bd {f:α->List Tk->PR γ}{K:β->Us δ}{mk:α->PS->β}{pk:β->PS}{mk':γ->PS->δ}{pk':δ->PS}(h:RS T d n r m mk pk)
    (hb:∀(b:β) (k:Nat) (e a:Int),pk b=(((k:Int),d,e,a),T)->k < T.xs.length->e≠0->∃c,K b=o c/\pk' c=(((k:Int),d,e,a),T))
    (hk:∀a ts (k:Nat),r = .ok (a,ts)->GK T k ts->ts.length<=n->RS T d n' (f a ts) (K (mk a (((k:Int),d,0,0),T))) mk' pk'):RS T d n' (r.bd f) (m.bind K) mk' pk':=by
  cases r with
  |error e=>
    obtain⟨b,k,rfl,h1,h2,h3⟩:=h;obtain⟨c,e1,e2⟩:=hb b k _ _ h1 h2 h3;exact⟨c,k,e1,e2,h2,h3⟩
  |ok p=>
    obtain⟨a,ts⟩:=p;obtain⟨k,rfl,g,l⟩:=h;exact hk a ts k rfl g l
theorem RS.ok{x:α}{mk:α->PS->β}{pk:β->PS}(g:GK T k ts)(l:ts.length<=n)(h:m=o (mk x (((k:Int),d,0,0),T))):RS T d n (.ok (x,ts)) m mk pk:=⟨k,h,g,l⟩
theorem RS.mono{mk:α->PS->β}{pk:β->PS}(h:RS T d n r m mk pk)(l:n<=n'):RS T d n' r m mk pk:=by
 cases r with
 |error e=>exact h
 |ok p=>obtain⟨k,h1,h2,h3⟩:=h;exact⟨k,h1,h2,U9 h3 l⟩
theorem PR.bd_assoc{g:β->List Tk->PR γ}:(r.bd f).bd g=r.bd λa t=>(f a t).bd g:=by
 cases r<;>rfl
theorem PR.bd_ok{x:α}:PR.bd (.ok (x,t)) f=f x t:=rfl
theorem GK.is(g:GK T k ts){s:List UInt8}(h:isP s ts=A):GK T (k+1) ts.tail/\ts.tail.length+1=ts.length:=g.tail (zfe h)
theorem zdo(g:GK T k ts)(s:List UInt8):q1j (lit s,((k:Int),d,0,0),T)=o (isP s ts,((k:Int),d,0,0),T):=by
 unfold q1j qal isP;simp only[g.idx,ji,jr,jp,jk,toR];grind
theorem Y6(g:GK T k ts)(s:List UInt8):qu (lit s,((k:Int),d,0,0),T)=o (isP s ts,(((if isP s ts=A then k+1 else k:Nat):Int),d,0,0),T):=by
 unfold qu qa0;simp only[zdo g,ji];have:=g.b;cases h:isP s ts with
 |true=>simp only[jp,ji];rw[zw (by omega)]
 |false=>rfl
theorem VD(g:GK T k ts)(c:Int):q15 (c,((k:Int),d,0,0),T)=o (((k:Int),d,c,(hd ts).a_),T):=by
 unfold q15 q8v;simp only[g.idx,ji,jr,jp,toR]
theorem Yb (g:GK T k ts) {s:List UInt8}{K:Bool×PS->Us β}{p q:PR α}{mk:α->PS->β}{pk:β->PS}(h1:isP s ts=A->GK T (k+1) ts.tail->ts.tail.length+1=ts.length->RS T d n p (K (A,(((k+1:Nat):Int),d,0,0),T)) mk pk)
    (h0:isP s ts=B->RS T d n q (K (B,((k:Int),d,0,0),T)) mk pk):RS T d n (if isP s ts=A then p else q) ((qu (lit s,((k:Int),d,0,0),T)).bind K) mk pk:=by
  rw[Y6 g,ji];cases h:isP s ts with
  |true=>simp only[jp];exact h1 h (g.is h).1 (g.is h).2
  |false=>grind
theorem yf(g:GK T k ts)(s:List UInt8):RS T d (ts.length - 1) (zY s ts) (qz (lit s,((k:Int),d,0,0),T)) (λ_ st=>st) id:=by
 unfold qz q8w zY;refine Yb g (λh g1 l =>.ok g1 (by omega) rfl) λh=>?_
 simp only[Dq,jp,VD g,ji];exact⟨_,k,rfl,rfl,g.lt,by simp[xM]⟩
theorem yg(g:GK T k ts):RS T d (ts.length - 1) (Za ts) (q12 (((k:Int),d,0,0),T)) (λn st=>(ndT n,st)) E:=by
 unfold q12 q8x Za wa;simp only[g.idx,ji,UW,js,jq,jj,jo,toR,jk];have:=g.b;by_cases h:(hd ts).k_=1
 ·obtain⟨g1,l1⟩:=g.tail (by omega);simp only[h,js,jp,jo];rw[zw (by omega)];exact .ok g1 (by omega) rfl
 ·simp only[h,jt,jp,jo];rw[VD g];exact⟨_,k,rfl,rfl,g.lt,by simp⟩
theorem wv(g:GK T k ts):RS T d (ts.length - 1) (wa 3 ts) (q28 (((k:Int),d,0,0),T)) (λt st=>(t.n_,st)) E:=by
 unfold q28 q7h wa;simp only[g.idx,ji,UW,js,jq,jj,jo,toR,jk];have:=g.b;by_cases h:(hd ts).k_=3
 ·obtain⟨g1,l1⟩:=g.tail (by omega);simp only[h,js,jp,jo];rw[zw (by omega)];exact .ok g1 (by omega) rfl
 ·simp only[h,jt,jp,jo];rw[VD g];exact⟨_,k,rfl,rfl,g.lt,by simp[xM]⟩
theorem ww(x:Int):1 * x=x:=by omega
theorem zmX{t1:List Tk}{t:Tk}(g:TGood ts)(h:wa 3 ts = .ok (t,t1)):Ut (0 - t.n_) = -1 * t.n_:=by
 have:=zif g h;rw[zK (by omega) (by omega)];omega
theorem zrx(m:Nd)(v:Int):rN (Nd.num m v)=⟨(rN m).k_,(rN m).T_,v,(rN m).a_,(rN m).K_⟩:=by cases m;simp[Nd.num,rN]
theorem zry(g:GK T k ts)(m:Nd):RS T d ts.length (xN m ts) (q1z (rN m,((k:Int),d,0,0),T)) (λn st=>(rN n,st)) E:=by
 unfold q1z q8y xN Ym;refine Yb g (λh g1 l=>?_) λh=>?_
 ·simp only[jp,PR.bd_assoc,PR.bd_ok];refine(wv g1).bd ?_ λt t1 k1 et g2 l2 =>.ok g2 (by omega) (by rw[zrx,ww])
  grind
 ·simp only[jj,jo];refine Yb g (λh g1 l=>?_) λh=>?_
  ·simp only[jp,PR.bd_assoc,PR.bd_ok,gh,ji];refine(wv g1).bd ?_ λt t1 k1 et g2 l2 =>.ok g2 (by omega) (by rw[zrx,zmX g1.g et])
   grind
  ·exact .ok g (by omega) (by simp only[jj,jo,ji,zk])
theorem XQ(n:Nd)(h:n.K_=nilS):q7.mk (ndT n).1 (ndT n).2.1 (ndT n).2.2.1 (ndT n).2.2.2 (C [] B)=rN n:=by rw[yk,h,yp];rfl
theorem w9(g:GK T k ts):RS T d (ts.length - 1) (Z2 ts) (q1n (((k:Int),d,0,0),T)) (λn st=>(rN n,st)) E:=by
 unfold q1n q8z Z2 Ym;simp only[g.idx,ji,toR,jk];by_cases h3:(hd ts).k_=3
 ·rw[ju h3,ju h3];simp only[PR.bd_assoc,PR.bd_ok];refine(wv g).bd ?_ λt t1 k1 et g2 l2 =>.ok g2 (by omega) (by rw[ww,yk,yp])
  grind
 ·rw[jv h3,jv h3];refine Yb g (λh g1 l=>?_) λh=>?_
  ·simp only[jp,PR.bd_assoc,PR.bd_ok];refine(wv g1).bd ?_ λt t1 k1 et g2 l2 =>.ok g2 (by omega) (by rw[zmX g1.g et,yk,yp])
   grind
  ·simp only[jj,jo];refine(yg g).bd ?_ λm t1 k1 em g1 l1=>?_
   ·rintro⟨v,_⟩ k e a rfl hk he;simp only[zgi hk he,ji];grind
   ·rw[XQ m (zN em)];simp only[zk];refine RS.mono (n:=t1.length) ?_ (by omega);rw[show((q1z (rN m,((k1:Int),d,0,0),T)).bind λy8=>o (y8.1,y8.2))=q1z (rN m,((k1:Int),d,0,0),T) from G _];exact zry g1 m
theorem zAB(g:GK T k ts):RS T d (ts.length - 1) (zb1 ts) (q62 (((k:Int),d,0,0),T)) (λs st=>(s,st)) E:=by
  unfold q62 qa1
  have h0:∀(i:Int) (s:List UInt8),zb (⟨[lit [60],lit [60,61],lit [61,61]],A⟩:Sl Uq) i=o (lit s)->0<=i->i < 3->q73 qu q15 (i,((k:Int),d,0,0),T,C [lit [60],lit [60,61],lit [61,61]] A) =
      if isP s ts=A then o (.done (.inl (lit s,(((k+1:Nat):Int),d,0,0),T))) else o (.next (i+1,((k:Int),d,0,0),T,C [lit [60],lit [60,61],lit [61,61]] A)):=by
    intro i s hs h0 h3;unfold q73;simp only[hs,Y6 g,ji];rw[ju (by simp[Sl.len];omega)];cases h:isP s ts with
    |true=>grind
    |false=>simp only[jj,jo];rw[zK (by omega) (by omega)]
  unfold zb1;have e0:=h0 0 [60] rfl (by omega) (by omega);have e1:=h0 (0+1) [60,61] rfl (by omega) (by omega);have e2:=h0 (0+1+1) [61,61] rfl (by omega) (by omega);cases c0:isP [60] ts with
  |true=>rw[c0] at e0;rw[zx e0];exact .ok (g.is c0).1 (by grind) rfl
  |false=>
    rw[c0] at e0;rw[zE e0];cases c1:isP [60,61] ts with
    |true=>rw[c1] at e1;rw[zx e1];exact .ok (g.is c1).1 (by grind) rfl
    |false=>
      rw[c1] at e1;rw[zE e1];cases c2:isP [61,61] ts with
      |true=>rw[c2] at e2;rw[zx e2];exact .ok (g.is c2).1 (by grind) rfl
      |false=>
        rw[c2] at e2;rw[zE e2,zx (y :=.inr (((k:Int),d,0,0),T)) rfl];simp only[ji,jl,VD g,jj,jo];exact⟨_,k,rfl,rfl,g.lt,by simp⟩
def ndR(n:Nd)(st:PS):(Int×Uq×Int×Int)×(Int×Int×Int×Int)×Sl RTk×Sl RNd:=(ndT n,st.1,st.2,rS n.K_)
def pkR(b:(Int×Uq×Int×Int)×(Int×Int×Int×Int)×Sl RTk×Sl RNd):PS:=(b.2.1,b.2.2.1)
theorem zrz(g:GK T k ts):RS T d (ts.length - 1) (Yy ts) (q1o (((k:Int),d,0,0),T)) ndR pkR:=by
 unfold q1o q6j Yy;refine(w9 g).bd ?_ λa t1 k1 ea g1 l1=>?_
 ·rintro⟨v,_⟩ k e a rfl hk he;obtain⟨w,hw⟩:=za3 (d:=d) (a:=a) hk he;simp only[zAA hk he,hw,ji];exact⟨_,rfl,rfl⟩
 refine(zAB g1).bd ?_ λop t2 k2 _ g2 l2=>?_
 ·rintro⟨v,_⟩ k e a rfl hk he;obtain⟨w,hw⟩:=za3 (d:=d) (a:=a) hk he;simp only[hw,ji];exact⟨_,rfl,rfl⟩
 refine(w9 g2).bd ?_ λb t3 k3 eb g3 l3 =>.ok g3 (by omega) ?_
 ·rintro⟨v,_⟩ k e a rfl hk he;exact⟨_,rfl,rfl⟩
 simp only[zk,ndR,ndT,yo,U3,H];rw[show(rN a).a_=a.a_ by rw[yk]]
theorem Yn{acc:List RNd}{x:RNd}(h:acc.length<=60000)(b:Bool):zp 64 (⟨acc,b⟩:Sl RNd) [x]=o ⟨acc++[x],A⟩:=by
 rw[yP (by simp;omega) (by simp;omega)];simp
noncomputable abbrev wG:=q59 qz qu q1n
theorem zik(hk:k < T.xs.length)(he:e≠0)(x:RNd)(acc:Sl RNd):lpO wG (((k:Int),d,e,a),T,x,acc)=o (((k:Int),d,e,a),T,acc):=
 zx (by unfold wG q59;simp only[yq hk he,ji,Dq,jp])
theorem zil:∀(j:Nat) (ts:List Tk) (k:Nat) (x:RNd) (acc:List Nd),GK T k ts->ts.length<=j->acc.length+ts.length<=30000->
    RS T d ts.length (Zr Z2 j acc ts) (lpO wG (((k:Int),d,0,0),T,x,⟨acc.map rN,A⟩)) (λl st=>(st.1,st.2,⟨l.map rN,A⟩)) (λb=>(b.1,b.2.1))
  |0,ts,k,x,acc,g,hj,ha=>absurd (UD (by omega)) g.g.ne
  |j+1,ts,k,x,acc,g,hj,ha=>by
    unfold Zr;cases h:isP [44] ts with
    |false=>
      rw[zx (y:=(((k:Int),d,0,0),T,⟨acc.map rN,A⟩)) (by unfold wG q59;simp only[Y6 g,h,ji,Dq,jp,jj,jo])];exact .ok g (U7 _) rfl
    |true=>
      obtain⟨g1,l1⟩:=g.is h;simp only[jp];have ht:=w9 (d:=d) g1;cases e:Z2 ts.tail with
      |error er=>
        rw[e] at ht;obtain⟨⟨v,_⟩,k1,e1,rfl,h2,h3⟩:=ht;have hn:wG (((k:Int),d,0,0),T,x,⟨acc.map rN,A⟩)=o (.next (((k1:Int),d,er.2,er.1),T,v,⟨acc.map rN++[v],A⟩)):=by
          unfold wG q59;simp only[Y6 g,h,ji,Da,jp,jj,jo,e1,zk];rw[Yn (by simp;omega)];rfl
        rw[zE hn,zik h2 h3];exact⟨_,k1,rfl,rfl,h2,h3⟩
      |ok p=>
        obtain⟨y,t1⟩:=p;rw[e] at ht;obtain⟨k1,e1,g2,l2⟩:=ht;have hn:wG (((k:Int),d,0,0),T,x,⟨acc.map rN,A⟩)=o (.next (((k1:Int),d,0,0),T,rN y,⟨(acc++[y]).map rN,A⟩)):=by
          unfold wG q59;simp only[Y6 g,h,ji,Da,jp,jj,jo,e1,zk];rw[Yn (by simp;omega)];simp
        rw[zE hn];exact(zil j t1 k1 (rN y) (acc++[y]) g2 (by omega) (by simp;omega)).mono (by omega)
theorem zlf(g:GK T k ts):RS T d (ts.length - 1) (V6 ts) (q34 (((k:Int),d,0,0),T)) (λks st=>(st.1,st.2,rS ks)) (λb=>(b.1,b.2.1)):=by
 unfold q34 q90 V6;refine(yf g [40]).bd ?_ λ_ t1 k1 _ g1 l1=>?_
 ·rintro _ k e a rfl hk he;simp only[yq hk he,ji,jj,jo,UW,he,jt,jr,jp,id];grind
 refine Yb g1 (λh g2 l2=>?_) λh=>?_
 ·simp only[jp,ji];exact .ok g2 (by omega) (by rw[yp])
 simp only[jj,jo,ji,UW,js,jq];unfold Z9;rw[PR.bd_assoc];have hb:=g1.b;refine(w9 g1).bd ?_ λx t2 k2 ex g2 l2=>?_
 ·rintro⟨v,_⟩ k e a rfl hk he;simp only[zk];rw[zik hk he];simp only[ji,Zp hk he];grind
 simp only[zk];refine(zil (d:=d) t1.length t2 k2 (rN x) [x] g2 (by omega) (by simp;omega)).bd ?_ λl t3 k3 _ g3 l3=>?_
 ·rintro⟨p,q,w⟩ k e a hp hk he;simp only[D.injEq] at hp;obtain⟨rfl,rfl⟩:=hp;simp only[Zp hk he,ji];grind
 refine(yf g3 [41]).bd ?_ λ_ t4 k4 _ g4 l4 =>.ok g4 (by omega) (by rw[yo])
 grind
end
end
section
section
variable {T:Sl RTk}{d e a:Int}{k n:Nat}{ts:List Tk}
theorem Wa(n:Nd):rS ⟨[n],A⟩=⟨[rN n],A⟩:=by rw[yo];rfl
theorem Xh(k:Int)(t:Uq)(n a:Int)(s:Sl Nd):rN ⟨k,t,n,a,s⟩=⟨k,t,n,a,rS s⟩:=by unfold rN;rfl
theorem zrA(g:GK T k ts):RS T d (ts.length - 1) (w8 ts) (q35 (((k:Int),d,0,0),T)) (λn st=>(rN n,st)) E:=by
 unfold q35 q91 w8;simp only[g.idx,ji,toR];refine Yb g (λh g1 l1=>?_) λh=>?_
 ·simp only[jp];exact .ok g1 (by omega) (by rw[yk,yp])
 simp only[jj,jo];refine Yb g (λh g1 l1=>?_) λh=>?_
 ·simp only[Da,jj,jo,ji];refine(yg g1).bd ?_ λm t1 k1 em g2 l2 =>.ok g2 (by omega) ?_
  ·grind
  ·rw[XQ m (zN em),Xh,Wa]
 simp only[Dq,jp,gh];refine(yf g [38]).bd ?_ λ_ t1 k1 _ g1 l1=>?_
 ·rintro _ k e a rfl hk he;simp only[yq hk he,zgh hk he,ji,jj,jo,id];grind
 refine Yb g1 (λh g2 l2=>?_) λh=>?_
 ·simp only[jp,ji];refine(yg g2).bd ?_ λm t2 k2 em g3 l3 =>.ok g3 (by omega) ?_
  ·grind
  ·rw[XQ m (zN em),Xh,Wa]
 ·simp only[jj,jo,ji];refine(yg g1).bd ?_ λm t2 k2 em g3 l3 =>.ok g3 (by omega) ?_
  ·grind
  ·rw[XQ m (zN em),Xh,Wa]
theorem GK.idx1(g:GK T (k+1) ts)(hk:k < 30000):zb T (Ut ((k:Int)+1))=o (toR (hd ts)):=by
 rw[zw (by omega),g.idx]
theorem zyW(g:GK T k ts):RS T d (ts.length - 1) (vy ts) (q5p (((k:Int),d,0,0),T)) (λn st=>(rN n,st)) E:=by
  unfold q5p q92 vy;simp only[g.idx,ji,toR];have hb:=g.b;refine Yb g (λh g1 l1=>?_) λh=>?_
  · simp only[jp];unfold Ym;rw[PR.bd_assoc];refine(wv g1).bd ?_ λt t1 k1 et g2 l2 =>.ok g2 (by omega) (by rw[ww,yk,yp])
    grind
  simp only[jj,jo];refine Yb g (λh g1 l1=>?_) λh=>?_
  · simp only[jp];refine(yg g1).bd ?_ λm t1 k1 em g2 l2 =>.ok g2 (by omega) (by rw[yk,yp];rfl)
    grind
  simp only[jj,jo];refine Yb g (λh g1 l1=>?_) λh=>?_
  · simp only[jp];refine Yb g1 (λh g2 l2=>?_) λh=>?_
    · simp only[jp,ji];refine(yg g2).bd ?_ λm t1 k1 em g3 l3 =>.ok g3 (by omega) (by rw[yk,yp];rfl)
      grind
    · simp only[jj,jo,ji];refine(yg g1).bd ?_ λm t1 k1 em g3 l3 =>.ok g3 (by omega) (by rw[yk,yp];rfl)
      grind
  simp only[jj,jo,g.idx,ji,toR,jk,zk];by_cases hk:(hd ts).k_=1
  case neg=>
    simp only[UW,hk,jt,jp,G];rw[show((q1n (((k:Int),d,0,0),T)).bind λy=>o (y.1,y.2))=q1n (((k:Int),d,0,0),T) from G _];exact w9 g
  simp only[UW,hk,js,jo];refine(yg g).bd ?_ λm t1 k1 em g1 l1=>?_
  ·rintro⟨v,_⟩ k e a rfl hk he;simp only[zld hk he,yq hk he,zgi hk he,ji,jj,jo];grind
  simp only[zdo g1,ji];cases h4:isP [40] t1 with
  |true=>
    simp only[jp];refine RS.mono (n:=t1.length - 1) ?_ (by omega);refine(zlf g1).bd ?_ λks t2 k2 _ g2 l2 =>.ok g2 (by omega) (by rw[yk];rfl)
    rintro⟨p,q,w⟩ k e a hp hk he;grind
  |false=>
  simp only[jj,jo];refine Yb g1 (λh g2 l2=>?_) λh=>?_
  · simp only[jp];refine(w9 g2).bd ?_ λx t2 k2 _ g3 l3=>?_
    ·rintro⟨v,_⟩ k e a rfl hk he;simp only[Zp hk he,ji];grind
    refine(yf g3 [93]).bd ?_ λ_ t4 k4 _ g4 l4 =>.ok g4 (by omega) (by rw[Xh,Wa];rfl)
    grind
  simp only[jj,jo,zdo g1,ji];have hb1:=g1.b
  have two:∀{g2:GK T (k1+1) t1.tail} (q:Int),RS T d (ts.length - 1) ((Za t1.tail).bd λb t2 =>.ok ((⟨q,lit [],0,m.a_,⟨[m,b],A⟩⟩:Nd),t2))
      ((q12 ((Ut ((k1:Int)+1),d,0,0),T)).bind λy=>o (q7.mk q (lit []) 0 (ndT m).2.2.2 (C [q7.mk (ndT m).1 (ndT m).2.1 (ndT m).2.2.1 (ndT m).2.2.2 (C [] B),q7.mk y.1.1 y.1.2.1 y.1.2.2.1 y.1.2.2.2 (C [] B)] A),y.2)) (λn st=>(rN n,st)) E:=by
    intro g2 q;rw[zw (by omega)];have:=g2.b;have h0:=Dy.2 g1.g.ne;refine(yg g2).bd ?_ λb t2 k2 eb g3 l3 =>.ok g3 (by grind) ?_
    ·grind
    ·rw[XQ m (zN em),XQ b (zN eb),yk ⟨q,_,_,_,_⟩,yo];rfl
  have fin:RS T d (ts.length - 1) (xN m t1) ((q1z (q7.mk (ndT m).1 (ndT m).2.1 (ndT m).2.2.1 (ndT m).2.2.2 (C [] B),((k1:Int),d,0,0),T)).bind λy=>o (y.1,y.2)) (λn st=>(rN n,st)) E:=by
    rw[XQ m (zN em)];rw[show((q1z (rN m,((k1:Int),d,0,0),T)).bind λy=>o (y.1,y.2))=q1z (rN m,((k1:Int),d,0,0),T) from G _];exact(zry g1 m).mono (by omega)
  cases hp:isP [43] t1 with
  |true=>
    have hm:=zht hp;obtain⟨g2,l2⟩:=g1.is hp;simp only[hm,jp,U4,jj,false_and,jo,ji,g2.idx1 (by omega),toR,jk];by_cases h1:(hd t1.tail).k_=1
    ·simp only[h1,jp,gh,ji];exact two (g2:=g2) 21
    grind
  |false=>
    cases hq:isP [45] t1 with
    |true=>
      obtain⟨g2,l2⟩:=g1.is hq;simp only[jp,U4,jj,false_and,jo,ji,g2.idx1 (by omega),toR,jk];by_cases h1:(hd t1.tail).k_=1
      ·simp only[h1,jp,gh,ji];exact two (g2:=g2) 22
      grind
    |false=>
      grind
theorem zwY(g:GK T k ts):RS T d (ts.length - 1) ((Za ts).bd W8) (q6k (((k:Int),d,0,0),T)) ndR pkR:=by
 unfold q6k qbe;refine(yg g).bd ?_ λm t1 k1 em g1 l1=>?_
 ·rintro⟨v,_⟩ k e a rfl hk he;obtain⟨w,hw⟩:=zrw (d:=d) (a:=a) hk he;simp only[zld hk he,yq hk he,Zp hk he,hw,ji,jj,jo];exact⟨_,rfl,rfl⟩
 refine RS.mono (n:=t1.length - 1) ?_ (by omega);have h0:=Dy.2 g1.g.ne;unfold W8;simp only[zdo g1,ji];cases h4:isP [40] t1 with
 |true=>
  simp only[jp];refine(zlf g1).bd ?_ λks t2 k2 _ g2 l2 =>.ok g2 (by omega) ?_
  ·rintro⟨p,q,w⟩ k e a hp hk he;simp only[D.injEq] at hp;obtain⟨rfl,rfl⟩:=hp;exact⟨_,rfl,rfl⟩
  ·simp only[ndR,Wa,yk];rfl
 |false=>
 simp only[jj,jo];refine Yb g1 (λh g2 l2=>?_) λh=>?_
 ·simp only[jp];refine(w9 g2).bd ?_ λx t2 k2 _ g3 l3=>?_
  ·rintro⟨v,_⟩ k e a rfl hk he;obtain⟨w,hw⟩:=za3 (d:=d) (a:=a) hk he;simp only[Zp hk he,hw,ji];exact⟨_,rfl,rfl⟩
  refine(yf g3 [93]).bd ?_ λ_ t4 k4 _ g4 l4=>?_
  ·rintro _ k e a rfl hk he;obtain⟨w,hw⟩:=za3 (d:=d) (a:=a) hk he;simp only[Zp hk he,hw,ji,id];exact⟨_,rfl,rfl⟩
  refine(yf g4 [61]).bd ?_ λ_ t5 k5 _ g5 l5=>?_
  ·rintro _ k e a rfl hk he;obtain⟨w,hw⟩:=za3 (d:=d) (a:=a) hk he;simp only[hw,ji,id];exact⟨_,rfl,rfl⟩
  refine(w9 g5).bd ?_ λy t6 k6 _ g6 l6 =>.ok g6 (by omega) ?_
  ·rintro⟨v,_⟩ k e a rfl hk he;exact⟨_,rfl,rfl⟩
  ·simp only[ndR,yo,zk];rfl
 simp only[jj,jo];refine(yf g1 [61]).bd ?_ λ_ t5 k5 _ g5 l5=>?_
 ·rintro _ k e a rfl hk he;obtain⟨w,hw⟩:=zrw (d:=d) (a:=a) hk he;simp only[hw,ji,id];exact⟨_,rfl,rfl⟩
 refine(zyW g5).bd ?_ λy t6 k6 _ g6 l6 =>.ok g6 (by omega) ?_
 ·rintro⟨v,_⟩ k e a rfl hk he;exact⟨_,rfl,rfl⟩
 ·simp only[ndR,yo,zk];rfl
end
end
section
section
variable {T:Sl RTk}{d e a:Int}{k n:Nat}{ts:List Tk}
abbrev zlg:=PS->Us ((Int×Uq×Int×Int)×(Int×Int×Int×Int)×Sl RTk×Sl RNd)
structure BlkR(T:Sl RTk)(d:Int)(h:zlg)(blk:List Tk->PR Nd):Prop where
 g:∀{ts k},GK T k ts->RS T d (ts.length - 1) (blk ts) (h (((k:Int),d,0,0),T)) ndR pkR
 b:∀{k:Nat} {e a:Int},k < T.xs.length->e≠0->∃v w,h (((k:Int),d,e,a),T)=o (v,((k:Int),d,e,a),T,w)
variable {h:zlg}{blk:List Tk->PR Nd}
theorem ztN{sz:Nat}{s s':Sl RNd}{l:List RNd}(h:zp sz s l=o s'):s'.xs=s.xs++l:=by
 unfold zp at h;grind
theorem RS.bdq {f:α->List Tk->PR γ}{K:β->Us δ}{mk:α->PS->β}{pk:β->PS}{mk':γ->PS->δ}{pk':δ->PS}(h:RS T d n r m mk pk)
    (hb:∀(b:β) (k:Nat) (e a:Int),m=o b->pk b=(((k:Int),d,e,a),T)->k < T.xs.length->e≠0->∃c,K b=o c/\pk' c=(((k:Int),d,e,a),T))
    (hk:∀a ts (k:Nat),r = .ok (a,ts)->GK T k ts->ts.length<=n->RS T d n' (f a ts) (K (mk a (((k:Int),d,0,0),T))) mk' pk'):RS T d n' (r.bd f) (m.bind K) mk' pk':=by
  cases r with
  |error e=>
    obtain⟨b,k,rfl,h1,h2,h3⟩:=h;obtain⟨c,e1,e2⟩:=hb b k _ _ rfl h1 h2 h3;exact⟨c,k,e1,e2,h2,h3⟩
  |ok p=>
    obtain⟨a,ts⟩:=p;obtain⟨k,rfl,g,l⟩:=h;exact hk a ts k rfl g l
theorem zlh{st:PS}{b}(hb:q1o st=o b):b.2.2.2.xs.length=2:=by
 unfold q1o q6j at hb;obtain⟨x,_,hb⟩:=gc hb;obtain⟨y,_,hb⟩:=gc hb;obtain⟨z,_,hb⟩:=gc hb;cases hb;rfl
theorem zli{x}{b}(hb:q1p h x=o b):b.2.2.2.xs.length=3:=by
 unfold q1p q4g at hb;obtain⟨x,hx,hb⟩:=gc hb;obtain⟨y,_,hb⟩:=gc hb;obtain⟨z,hz,hb⟩:=gc hb;cases hb;have:=ztN hz;have h2:=zlh hx;grind
theorem zlj(hb:BlkR T d h blk)(g:GK T k ts)(q at_:Int):RS T d (ts.length - 1) (wD blk q at_ ts) (q1p h (q,at_,((k:Int),d,0,0),T)) ndR pkR:=by
 unfold q1p q4g wD;refine(zrz g).bdq ?_ λm t1 k1 em g1 l1=>?_
 ·rintro⟨v,p,q,w⟩ k e a hm hp hk he;have h2:=zlh hm;simp only[pkR,D.injEq] at hp;obtain⟨rfl,rfl⟩:=hp;obtain⟨v2,w2,hw⟩:=hb.b (a:=a) hk he;obtain⟨wl,wb⟩:=w;simp only[hw,ji];rw[Yn (by grind)];exact⟨_,rfl,rfl⟩
 obtain⟨x,y,hk⟩:=zb3 em;refine(hb.g g1).bd ?_ λb t2 k2 eb g2 l2 =>.ok g2 (by omega) ?_
 ·rintro⟨v,p,q,w⟩ k e a hp hk2 he;simp only[pkR,D.injEq] at hp;obtain⟨rfl,rfl⟩:=hp;simp only[ndR,hk,yo];rw[Yn (by simp)];exact⟨_,rfl,rfl⟩
 ·simp only[ndR,hk,yo,ndT];rw[Yn (by simp)];simp only[ji,U3,H,Dv,I,Db];rw[yk b,yo]
theorem Zy(x y:List UInt8):(lit x=lit y)=(x=y):=propext ⟨λh=>by have:=congrArg bs h;simpa[X4] using this,λh=>by rw[h]⟩
theorem ztO(g:GK T k ts){w:List UInt8}(hw:∃c∈w,isL c=A):isP w ts=decide ((if(hd ts).k_=2 then(hd ts).T_ else lit [])=lit w):=by
 obtain⟨c,hc,hl⟩:=hw;unfold isP;by_cases h2:(hd ts).k_=2
 ·simp[h2]
 ·simp only[h2,jq,Dx,jo,Zy];have e1:decide ([]=w)=false:=by
   grind
  rw[e1];by_cases h4:(hd ts).k_=4
  ·have hm:hd ts∈ts:=by
    match ts,g.g with
    |[],g=>exact absurd rfl g.ne
    |t::r,_=>simp[hd]
   have hne:¬ (hd ts).T_=lit w:=by
    intro e;have:=g.sg _ hm h4 c (by rw[e,X4];exact hc);grind
   simp[hne]
  ·simp[h4]
theorem V8(g:GK T k ts)(m:Nd):RS T d (ts.length - 1) (WE m ts) ((qz (lit [59],((k:Int),d,0,0),T)).bind λy=>o (ndT m,y.1,y.2,rS m.K_)) ndR pkR:=by
 unfold WE;refine(yf g [59]).bd ?_ λ_ t1 k1 _ g1 l1 =>.ok g1 (by omega) rfl
 rintro _ k e a rfl hk he;exact⟨_,rfl,rfl⟩
end
end
section
section
variable {T:Sl RTk}{d e a:Int}{k n:Nat}{ts:List Tk}
variable {h:zlg}{blk:List Tk->PR Nd}
set_option maxHeartbeats 2000000 in
theorem zyX(hb:BlkR T d h blk)(g:GK T k ts):RS T d (ts.length - 1) (YQ blk ts) (q2u h (((k:Int),d,0,0),T)) ndR pkR:=by
 unfold q2u q6l;simp only[g.idx,ji,toR,jk];have hgb:=g.b;obtain⟨F,hF⟩:∃F,F=(if(hd ts).k_=2 then(hd ts).T_ else lit []):=⟨_,rfl⟩
 have e1:(if(hd ts).k_=2 then o ((hd ts).a_,(hd ts).T_,((k:Int),d,(0:Int),(0:Int)),T,(0:Int),lit [],(0:Int),(0:Int)) else o ((hd ts).a_,lit [],((k:Int),d,0,0),T,0,lit [],0,0))=o ((hd ts).a_,F,((k:Int),d,0,0),T,0,lit [],0,0):=by
  grind
 have is:∀w:List UInt8,(∃c∈w,isL c=A)->isP w ts=decide (F=lit w):=λw hw=>by rw[hF];exact ztO g hw
 rw[e1];simp only[ji];clear e1 hF;unfold YQ;rw[is [102,114,101,101] ⟨102,by simp,rfl⟩,is [108,111,99,107] ⟨108,by simp,rfl⟩,is [117,110,108,111,99,107] ⟨117,by simp,rfl⟩,is [105,102] ⟨105,by simp,rfl⟩,is [119,104,105,108,101] ⟨119,by simp,rfl⟩,is [114,101,116,117,114,110] ⟨114,by simp,rfl⟩,is [97,98,111,114,116] ⟨97,by simp,rfl⟩,is [102,111,114,107] ⟨102,by simp,rfl⟩];have gk:∀w:List UInt8,(∃c∈w,isL c=A)->F=lit w->GK T (k+1) ts.tail/\ts.tail.length+1=ts.length:=λw hw e=>g.is (s:=w) (by grind)
 have hw1:=zw (k:=k) (by omega);by_cases h1:F=lit [102,114,101,101]
 ·obtain⟨g1,l1⟩:=gk _ ⟨102,by simp,rfl⟩ h1;subst h1;simp (decide:=true) only [Zy,hw1,gh,ji,jm,jl,jr,jp,jo,jj,jq];refine(yg g1).bd ?_ λm t1 k1 em g2 l2=>?_
  ·rintro⟨v,_⟩ k e a rfl hk he;simp only[Zp hk he,ji];exact⟨_,rfl,rfl⟩
  refine RS.mono (n:=t1.length - 1) ?_ (by omega);obtain⟨t,t',_,e3⟩:=bd_ok em;have:=V8 (d:=d) g2 ⟨12,m.T_,m.n_,(hd ts).a_,nilS⟩;rw[yp] at this;cases e3;exact this
 by_cases h2:F=lit [108,111,99,107]
 ·obtain⟨g1,l1⟩:=gk _ ⟨108,by simp,rfl⟩ h2;subst h2;simp (decide:=true) only [Zy,hw1,gh,ji,jm,jl,jr,jp,jo,jj,jq];unfold atP Ym;simp only[PR.bd_assoc,PR.bd_ok];refine(yg g1).bd ?_ λm t1 k1 em g2 l2=>?_
  ·rintro⟨v,_⟩ k e a rfl hk he;simp only[Zp hk he,xO hk he,ji];exact⟨_,rfl,rfl⟩
  refine(yf g2 [91]).bd ?_ λ_ t2 k2 _ g3 l3=>?_
  ·rintro _ k e a rfl hk he;simp only[Zp hk he,xO hk he,ji,id];exact⟨_,rfl,rfl⟩
  refine(wv g3).bd ?_ λt t3 k3 _ g4 l4=>?_
  ·rintro⟨v,_⟩ k e a rfl hk he;simp only[Zp hk he,xO hk he,ji,id];exact⟨_,rfl,rfl⟩
  refine(yf g4 [93]).bd ?_ λ_ t5 k5 _ g5 l5=>?_
  ·rintro _ k e a rfl hk he;simp only[Zp hk he,xO hk he,ji,id];exact⟨_,rfl,rfl⟩
  refine RS.mono (n:=t5.length - 1) ?_ (by omega);have:=V8 (d:=d) g5 ⟨13,m.T_,1 * t.n_,(hd ts).a_,nilS⟩;rw[yp,ww] at this;rw[ww];exact this
 by_cases h3:F=lit [117,110,108,111,99,107]
 ·obtain⟨g1,l1⟩:=gk _ ⟨117,by simp,rfl⟩ h3;subst h3;simp (decide:=true) only [Zy,hw1,gh,ji,jm,jl,jr,jp,jo,jj,jq];unfold atP Ym;simp only[PR.bd_assoc,PR.bd_ok];refine(yg g1).bd ?_ λm t1 k1 em g2 l2=>?_
  ·rintro⟨v,_⟩ k e a rfl hk he;simp only[Zp hk he,xO hk he,ji];exact⟨_,rfl,rfl⟩
  refine(yf g2 [91]).bd ?_ λ_ t2 k2 _ g3 l3=>?_
  ·rintro _ k e a rfl hk he;simp only[Zp hk he,xO hk he,ji,id];exact⟨_,rfl,rfl⟩
  refine(wv g3).bd ?_ λt t3 k3 _ g4 l4=>?_
  ·rintro⟨v,_⟩ k e a rfl hk he;simp only[Zp hk he,xO hk he,ji,id];exact⟨_,rfl,rfl⟩
  refine(yf g4 [93]).bd ?_ λ_ t5 k5 _ g5 l5=>?_
  ·rintro _ k e a rfl hk he;simp only[Zp hk he,xO hk he,ji,id];exact⟨_,rfl,rfl⟩
  refine RS.mono (n:=t5.length - 1) ?_ (by omega);have:=V8 (d:=d) g5 ⟨14,m.T_,1 * t.n_,(hd ts).a_,nilS⟩;rw[yp,ww] at this;rw[ww];exact this
 by_cases h4:F=lit [105,102]
 ·obtain⟨g1,l1⟩:=gk _ ⟨105,by simp,rfl⟩ h4;subst h4;simp (decide:=true) only [Zy,hw1,gh,ji,jm,jl,jr,jp,jo,jj,jq];refine(zlj hb g1 15 (hd ts).a_).bdq ?_ λm t1 k1 em g2 l2=>?_
  ·rintro⟨v,p,q,w⟩ k e a hm hp hk he;have h3:=zli hm;simp only[pkR,D.injEq] at hp;obtain⟨rfl,rfl⟩:=hp;obtain⟨wl,wb⟩:=w;simp only[yq hk he,ji,jj,jo];rw[Yn (by grind)];exact⟨_,rfl,rfl⟩
  obtain⟨x,y,z,hk⟩:=zdk em;simp only[ndR,hk,yo];refine Yb g2 (λh5 g3 l3=>?_) λh5=>?_
  ·simp only[jp,gh,ji];refine(hb.g g3).bd ?_ λb t2 k2 eb g4 l4 =>.ok g4 (by omega) ?_
   ·rintro⟨v,p,q,w⟩ k e a hp hk2 he;simp only[pkR,D.injEq] at hp;obtain⟨rfl,rfl⟩:=hp;rw[Yn (by simp)];exact⟨_,rfl,rfl⟩
   ·simp only[ndR,hk,yo,ndT];rw[Yn (by simp)];simp only[ji,jm,U3,H,Dv,I,Db];rw[yk b,yo]
  ·simp only[jj,jo,ji];rw[Yn (by simp)];refine .ok g2 (by omega) ?_;simp only[ndR,hk,yo,ndT,ji,jm,U3,H,Dv,I,Db,Xh]
 by_cases h5:F=lit [119,104,105,108,101]
 ·obtain⟨g1,l1⟩:=gk _ ⟨119,by simp,rfl⟩ h5;subst h5;simp (decide:=true) only [Zy,hw1,gh,ji,jm,jl,jr,jp,jo,jj,jq];rw[show((q1p h (16,(hd ts).a_,(((k+1:Nat):Int),d,0,0),T)).bind λy=>o (y.1,y.2.1,y.2.2.1,y.2.2.2))=q1p h (16,(hd ts).a_,(((k+1:Nat):Int),d,0,0),T) from G _];exact(zlj hb g1 16 (hd ts).a_).mono (by omega)
 by_cases h6:F=lit [114,101,116,117,114,110]
 ·obtain⟨g1,l1⟩:=gk _ ⟨114,by simp,rfl⟩ h6;subst h6;simp (decide:=true) only [Zy,hw1,gh,ji,jm,jl,jr,jp,jo,jj,jq,zdo g1];cases h7:isP [59] ts.tail with
  |true=>
   simp only[Da,jj,jo,jp,ji,jl];have:=V8 (d:=d) g1 ⟨17,lit [],0,(hd ts).a_,nilS⟩;rw[yp] at this;exact this.mono (by omega)
  |false=>
   simp only[Dq,jj,jo,jp,gh,ji,jl];refine(w9 g1).bd ?_ λx t2 k2 _ g3 l3=>?_
   ·rintro⟨v,_⟩ k e a rfl hk he;simp only[Zp hk he,ji];exact⟨_,rfl,rfl⟩
   have:=V8 (d:=d) g3 ⟨17,lit [],0,(hd ts).a_,⟨[x],A⟩⟩;rw[Wa] at this;simp only[zk];exact this.mono (by omega)
 by_cases h7:F=lit [97,98,111,114,116]
 ·obtain⟨g1,l1⟩:=gk _ ⟨97,by simp,rfl⟩ h7;subst h7;simp (decide:=true) only [Zy,hw1,gh,ji,jm,jl,jr,jp,jo,jj,jq];have:=V8 (d:=d) g1 ⟨18,lit [],0,(hd ts).a_,nilS⟩;rw[yp] at this;exact this.mono (by omega)
 by_cases h8:F=lit [102,111,114,107]
 ·obtain⟨g1,l1⟩:=gk _ ⟨102,by simp,rfl⟩ h8;subst h8;simp (decide:=true) only [Zy,hw1,gh,ji,jm,jl,jr,jp,jo,jj,jq];refine(yg g1).bd ?_ λm t1 k1 em g2 l2=>?_
  ·rintro⟨v,_⟩ k e a rfl hk he;obtain⟨w,hw⟩:=zyU (d:=d) (a:=a) hk he;simp only[hw,Zp hk he,ji];exact⟨_,rfl,rfl⟩
  refine(zlf g2).bd ?_ λks t2 k2 _ g3 l3=>?_
  ·rintro⟨p,q,w⟩ k e a hp hk he;simp only[D.injEq] at hp;obtain⟨rfl,rfl⟩:=hp;simp only[Zp hk he,ji];exact⟨_,rfl,rfl⟩
  refine RS.mono (n:=t2.length - 1) ?_ (by omega);obtain⟨t,t',_,e3⟩:=bd_ok em;have:=V8 (d:=d) g3 ⟨19,m.T_,m.n_,(hd ts).a_,ks⟩;cases e3;exact this
 simp only[h1,h2,h3,h4,h5,h6,h7,h8,gh,ji,jq,jo,jj];rw[<- PR.bd_assoc];refine(zwY g).bd ?_ λm t1 k1 em g2 l2=>?_
 ·rintro⟨v,p,q,w⟩ k e a hp hk he;simp only[pkR,D.injEq] at hp;obtain⟨rfl,rfl⟩:=hp;simp only[Zp hk he,ji,jl];exact⟨_,rfl,rfl⟩
 have:=V8 (d:=d) g2 m;simp only[jl];exact this.mono (by omega)
end
end
section
section
variable {T:Sl RTk}{d e a:Int}{k n:Nat}{ts:List Tk}
variable {h:zlg}{blk:List Tk->PR Nd}
theorem xA{acc:List Nd}{x:RNd}(h:acc.length<=30000):zp 64 (rS (mkS acc)) [x]=o ⟨acc.map rN++[x],A⟩:=by
 rw[yo,yP (by simp[mkS];omega) (by simp[mkS];omega)];simp[mkS]
theorem zgj(acc:List Nd)(x:Nd):(⟨acc.map rN++[rN x],A⟩:Sl RNd)=rS (mkS (acc++[x])):=by
 rw[yo];simp[mkS]
noncomputable abbrev zdp(h:zlg):=q45 q1j q15 qz qu (q2u h)
theorem V9(he:e≠0)(p:Int)(u v:Int×Uq×Int×Int)(acc:Sl RNd):lpO (zdp h) ((p,d,e,a),T,u,v,acc)=o ((p,d,e,a),T,u,v,acc):=
 zx (by unfold zdp q45;grind)
theorem zrB (hb:BlkR T d h blk) {u v:Int×Uq×Int×Int}:∀(j:Nat) (ts:List Tk) (k:Nat) (acc:List Nd),GK T k ts->ts.length<=j->acc.length+ts.length<=30000->
    RS T d (ts.length - 1) (xz (YQ blk) j acc ts) (lpO (zdp h) (((k:Int),d,0,0),T,u,v,rS (mkS acc))) (λl st=>(st.1,st.2,u,v,rS (mkS l))) (λb=>(b.1,b.2.1))
  |0,ts,k,acc,g,hj,ha=>absurd (UD (by omega)) g.g.ne
  |j+1,ts,k,acc,g,hj,ha=>by
    unfold xz;cases h2:isP [125] ts with
    |true=>
      obtain⟨g1,l1⟩:=g.is h2;rw[zx (y:=((((k+1:Nat):Int),d,0,0),T,u,v,rS (mkS acc))) (by unfold zdp q45;simp only[Y6 g,h2,ji,jr,jp])];exact .ok g1 (by omega) rfl
    |false=>
      simp only[jj,jo];have hs:=zyX hb g;cases es:YQ blk ts with
      |error er=>
        rw[es] at hs;obtain⟨⟨w,p,q,ks⟩,k1,e1,hp,h3,h4⟩:=hs;simp only[pkR,D.injEq] at hp;obtain⟨rfl,hq⟩:=hp;obtain rfl:T=q:=hq.symm;have hn:zdp h (((k:Int),d,0,0),T,u,v,rS (mkS acc))=o (.next (((k1:Int),d,er.2,er.1),T,u,v,⟨acc.map rN++[⟨w.1,w.2.1,w.2.2.1,w.2.2.2,ks⟩],A⟩)):=by
          unfold zdp q45;simp only[Y6 g,h2,ji,jr,jp,jj,jo,e1];rw[xA (acc:=acc) (by omega)];rfl
        rw[zE hn,V9 h4];exact⟨_,k1,rfl,rfl,h3,h4⟩
      |ok p=>
        obtain⟨x,t1⟩:=p;rw[es] at hs;obtain⟨k1,e1,g1,l1⟩:=hs;have hn:zdp h (((k:Int),d,0,0),T,u,v,rS (mkS acc))=o (.next (((k1:Int),d,0,0),T,u,v,rS (mkS (acc++[x])))):=by
          unfold zdp q45;simp only[Y6 g,h2,ji,jr,jp,jj,jo,e1,ndR,ndT];rw[xA (acc:=acc) (by grind),show q7.mk x.k_ x.T_ x.n_ x.a_ (rS x.K_)=rN x from(yk x).symm,zgj];rfl
        have hpos:=Dy.2 g.g.ne;rw[zE hn];exact(zrB hb j t1 k1 (acc++[x]) g1 (by omega) (by simp;omega)).mono (by omega)
theorem zmY:∀(r:Nat) (j:Nat) (d:Int),d=8 - (r:Int)->0<=d->r+1<=j->BlkR T d (q44 j) (ye r)
 |r,0,d,_,_,hk=>by omega
 |0,j+1,d,hd',h0,hk=>by
  refine⟨λ{ts k} g=>?_,λ{k e a} h1 h2=>zmW h1 h2 (by omega) j⟩;show RS T d _ _ (q29 _ _ _ _ _ _) _ _;unfold q29 ye;simp only[g.idx,zdo g,ji,toR];have hw:Ut (d+1)=d+1:=zK (by omega) (by omega);have hw2:Ut (d+1 - 1)=d:=by rw[zK (by omega) (by omega)];omega
  cases e:isP [123] ts with
  |true=>
   have:decide (8<=d)=true:=gm (by omega);simp only[jp,ji,this,VD g,Zp g.lt (show(21:Int)≠0 by decide)];rw[V9 (by decide)];simp only[ji,hw,hw2];exact⟨_,k,rfl,rfl,g.lt,by simp[xM]⟩
  |false=>
   simp only[jj,jo,ji];have hm:zY [123] ts = .error ((hd ts).a_,20):=by unfold zY;rw[e];rfl
   have:=yf (d:=d) g [123];rw[hm] at this;obtain⟨b,k1,e1,rfl,h3,h4⟩:=this;rw[e1];simp only[ji,id];rw[V9 h4];simp only[ji,hw,hw2];exact⟨_,k1,rfl,rfl,h3,h4⟩
 |r+1,j+1,d,hd',h0,hk=>by
  refine⟨λ{ts k} g=>?_,λ{k e a} h1 h2=>zmW h1 h2 (by omega) j⟩;show RS T d _ _ (q29 _ _ _ _ _ _) _ _;unfold q29 ye;simp only[g.idx,zdo g,ji,toR];have hw:Ut (d+1)=d+1:=zK (by omega) (by omega);have hw2:Ut (d+1 - 1)=d:=by rw[zK (by omega) (by omega)];omega
  have h8:decide (8<=d)=false:=decide_eq_false (by omega);have hb:=zmY r j (d+1) (by omega) (by omega) (by omega);have hgb:=g.b;have e1:(if isP [123] ts=A then o (decide (8<=d),((k:Int),d,(0:Int),(0:Int)),T,((0,lit [],0,0):Int×Uq×Int×Int),((9,lit [],0,(hd ts).a_):Int×Uq×Int×Int)) else o (B,((k:Int),d,0,0),T,(0,lit [],0,0),(9,lit [],0,(hd ts).a_)))=o (B,((k:Int),d,0,0),T,(0,lit [],0,0),(9,lit [],0,(hd ts).a_)):=by
   grind
  rw[e1];simp only[ji,jj,jo];refine(yf g [123]).bd ?_ λ_ t1 k1 _ g1 l1=>?_
  ·rintro _ k e a rfl hk he;simp only[id];rw[V9 he];simp only[ji,hw,hw2];exact⟨_,rfl,rfl⟩
  simp only[hw];have lp:=zrB hb (u:=(0,lit [],0,0)) (v:=(9,lit [],0,(hd ts).a_)) t1.length t1 k1 [] g1 (U7 _) (by grind);rw[show rS (mkS ([]:List Nd))=⟨[],B⟩ by rw[yo];rfl] at lp;cases es:xz (YQ (ye r)) t1.length [] t1 with
  |error er=>
   rw[es] at lp;obtain⟨⟨p,q,w⟩,k2,e2,hp,h3,h4⟩:=lp;simp only[D.injEq] at hp;obtain⟨rfl,hq⟩:=hp;obtain rfl:T=q:=hq.symm;rw[e2];simp only[ji,hw2];exact⟨_,k2,rfl,rfl,h3,h4⟩
  |ok p=>
   obtain⟨l,t2⟩:=p;rw[es] at lp;obtain⟨k2,e2,g2,l2⟩:=lp;rw[e2];simp only[ji,hw2];exact .ok g2 (by omega) rfl
theorem zgk:BlkR T 0 q5a (ye 8):=zmY 8 100000 0 (by omega) (by omega) (by omega)
end
end
section
section
variable {T:Sl RTk}{d e a:Int}{k n:Nat}{ts:List Tk}{z hdr:Int×Uq×Int×Int}
abbrev LSt:=(Int×Int×Int×Int)×Sl RTk×(Int×Uq×Int×Int)×(Int×Uq×Int×Int)×Sl RNd
def LQ(T:Sl RTk)(d:Int)(n:Nat)(r:PR (List Nd))(m:Us LSt)(z hdr:Int×Uq×Int×Int):Prop:=match r with
 | .error e=>∃(k:Nat) (w:Sl RNd),m=o (((k:Int),d,e.2,e.1),T,z,hdr,w)/\k < T.xs.length/\e.2≠0/\w.xs.length<=30001
 | .ok (l,ts)=>∃k:Nat,m=o (((k:Int),d,0,0),T,z,hdr,rS (mkS l))/\GK T k ts/\ts.length<=n/\l.length+ts.length<=30001
theorem LQ.bd {r:PR (List Nd)}{f:List Nd->List Tk->PR γ}{m:Us LSt}{K:LSt->Us δ}{mk':γ->PS->δ}{pk':δ->PS}(h:LQ T d n r m z hdr)
    (hb:∀(k:Nat) (e a:Int) (w:Sl RNd),k < T.xs.length->e≠0->w.xs.length<=30001->∃c,K (((k:Int),d,e,a),T,z,hdr,w)=o c/\pk' c=(((k:Int),d,e,a),T))
    (hk:∀l ts (k:Nat),r = .ok (l,ts)->GK T k ts->ts.length<=n->l.length+ts.length<=30001->RS T d n' (f l ts) (K (((k:Int),d,0,0),T,z,hdr,rS (mkS l))) mk' pk'):RS T d n' (r.bd f) (m.bind K) mk' pk':=by
  cases r with
  |error e=>
    obtain⟨k,w,rfl,h1,h2,h3⟩:=h;obtain⟨c,e1,e2⟩:=hb k _ _ w h1 h2 h3;exact⟨c,k,e1,e2,h1,h2⟩
  |ok p=>
    obtain⟨l,ts⟩:=p;obtain⟨k,rfl,g,l1,l2⟩:=h;exact hk l ts k rfl g l1 l2
theorem LQ.mono{r:PR (List Nd)}{m:Us LSt}(h:LQ T d n r m z hdr)(l:n<=n'):LQ T d n' r m z hdr:=by
 cases r with
 |error e=>exact h
 |ok p=>obtain⟨k,h1,h2,h3,h4⟩:=h;exact⟨k,h1,h2,U9 h3 l,h4⟩
def zoP(T:Sl RTk)(d:Int)(one:List Tk->PR Nd)(f:PS->Us (RNd×PS)):Prop:=∀{ts k},GK T k ts->RS T d (ts.length - 1) (one ts) (f (((k:Int),d,0,0),T)) (λn st=>(rN n,st)) E
noncomputable def zgl(st:PS):Us (RNd×PS):=(q12 st).bind λy5=>(qz (lit [58],y5.2)).bind λy6=>(q35 y6).bind λy7=>
 o (q7.mk 7 y5.1.2.1 y5.1.2.2.1 y5.1.2.2.2 (C [y7.1] A),y7.2)
theorem zwZ:zoP T d xy zgl:=by
 intro ts k g;unfold zgl xy;refine(yg g).bd ?_ λm t1 k1 em g1 l1=>?_
 ·rintro⟨v,_⟩ k e a rfl hk he;obtain⟨w,hw⟩:=zle (d:=d) (a:=a) hk he;simp only[Zp hk he,hw,ji];grind
 refine(yf g1 [58]).bd ?_ λ_ t2 k2 _ g2 l2=>?_
 ·rintro _ k e a rfl hk he;obtain⟨w,hw⟩:=zle (d:=d) (a:=a) hk he;grind
 refine(zrA g2).bd ?_ λx t3 k3 _ g3 l3 =>.ok g3 (by omega) ?_
 ·grind
 ·rw[Xh,Wa];rfl
noncomputable abbrev VE:=qam q12 qz qu q35 q1j q15 q5a
noncomputable def zdS(f:PS->Us (RNd×PS))(cl:Uq)(fl:Bool->Bool)(x:PS)(z hdr:Int×Uq×Int×Int)(w:Sl RNd):Us (Step (Bool×LSt) LSt):=
 (f x).bind λy=>(zp 64 w [y.1]).bind λw'=>(qu (lit [44],y.2)).bind λy9=>
  (if(!y9.1)=A then(qz (cl,y9.2)).bind λy10=>o (fl y9.1,y10.1,y10.2,z,hdr,w') else o (fl y9.1,y9.2.1,y9.2.2,z,hdr,w')).bind λy11=>o (Step.next y11)
theorem zdq {f:PS->Us (RNd×PS)}(hf:zoP T d one f) {cl:List UInt8}{fl:Bool->Bool}{body:Bool×LSt->Us (Step (Bool×LSt) LSt)}
    (h1:∀(k:Nat) w,body (fl A,((k:Int),d,0,0),T,z,hdr,w)=zdS f (lit cl) fl (((k:Int),d,0,0),T) z hdr w)
    (h0:∀(p:Int×Int×Int×Int) w,body (fl B,p,T,z,hdr,w)=o (.done (p,T,z,hdr,w))):∀(j:Nat) (ts:List Tk) (k:Nat) (acc:List Nd),GK T k ts->ts.length<=j->acc.length+ts.length<=30000->
    LQ T d (ts.length - 1) ((one ts).bd λa t1=>(Zr one j (acc++[a]) t1).bd λl t2=>(zY cl t2).bd λ_ t3 =>.ok (l,t3)) (lpO body (fl A,((k:Int),d,0,0),T,z,hdr,rS (mkS acc))) z hdr
  |0,ts,k,acc,g,hj,ha=>absurd (UD (by omega)) g.g.ne
  |j+1,ts,k,acc,g,hj,ha=>by
    have hpos:=Dy.2 g.g.ne;have hr:=hf g;have hb:=h1 k (rS (mkS acc));unfold zdS at hb;cases e:one ts with
    |error er=>
      rw[e] at hr;obtain⟨⟨v,_⟩,k1,e1,rfl,h3,h4⟩:=hr;rw[e1] at hb;simp only[ji] at hb;rw[xA (acc:=acc) (by omega)] at hb;simp only[ji,yq h3 h4,Dq,jp,Zp h3 h4] at hb;rw[zE hb,zx (h0 _ _)];exact⟨k1,_,rfl,h3,h4,by simp;omega⟩
    |ok p=>
      obtain⟨x,t1⟩:=p;rw[e] at hr;obtain⟨k1,e1,g1,l1⟩:=hr;rw[e1] at hb;simp only[ji] at hb;rw[xA (acc:=acc) (by omega),zgj] at hb;simp only[ji,Y6 g1] at hb;rw[PR.bd_ok];unfold Zr;have hpos1:=Dy.2 g1.g.ne;cases h44:isP [44] t1 with
      |true=>
        obtain⟨g2,l2⟩:=g1.is h44;rw[h44] at hb;simp only[Da,jj,jo,jp,ji] at hb;rw[zE hb];simp only[jp,PR.bd_assoc];exact(zdq hf h1 h0 j t1.tail (k1+1) (acc++[x]) g2 (by omega) (by simp;omega)).mono (by omega)
      |false=>
        rw[h44] at hb;simp only[Dq,jj,jo,jp,ji] at hb;simp only[jj,jo,PR.bd_ok];have hm:=yf (d:=d) g1 cl;cases em:zY cl t1 with
        |error er=>
          rw[em] at hm;obtain⟨b,k2,e2,hp,h3,h4⟩:=hm;simp only[id] at hp;subst hp;rw[e2] at hb;simp only[ji] at hb;rw[zE hb,zx (h0 _ _)];exact⟨k2,_,rfl,h3,h4,by rw[yo];simp[mkS];omega⟩
        |ok p=>
          obtain⟨u,t2⟩:=p;rw[em] at hm;obtain⟨k2,e2,g2,l2⟩:=hm;rw[e2] at hb;simp only[ji] at hb;rw[zE hb,zx (h0 _ _)];exact⟨k2,rfl,g2,by omega,by simp;omega⟩
theorem ztP(k:Nat)(w:Sl RNd):VE (B,((k:Int),d,0,0),T,z,hdr,w)=zdS zgl (lit [41]) (λb=> !b) (((k:Int),d,0,0),T) z hdr w:=by
 unfold VE qam zdS zgl;simp only[Dq,jp,jr,ji,gh,zk];congr 1;funext y5;grind
theorem zlk(p:Int×Int×Int×Int)(w:Sl RNd):VE (A,p,T,z,hdr,w)=o (.done (p,T,z,hdr,w)):=rfl
end
end
section
section
variable {T:Sl RTk}{d e a:Int}{k n:Nat}{ts:List Tk}{z hdr:Int×Uq×Int×Int}
theorem PR.bd_ite{c:Prop}[Decidable c]{p q:PR α}:PR.bd (if c then p else q) f=if c then p.bd f else q.bd f:=by split<;>rfl
theorem zll:rS (mkS ([]:List Nd))=⟨[],B⟩:=by rw[yo];rfl
theorem zrC{w:Sl RNd}{x:RNd}(h:w.xs.length<=40000):∃w',zp 64 w [x]=o w'/\w'.xs.length=w.xs.length+1:=by
 rw[yP (by simp;omega) (by simp;omega)];grind
theorem zmZ(he:e≠0)(p:Int)(w:Sl RNd):lpO VE (B,(p,d,e,a),T,z,hdr,w)=o ((p,d,e,a),T,z,hdr,w):=
 zx (by unfold VE qam;grind)
theorem ztQ (g:GK T k ts) (hl:ts.length<=25000):LQ T d ts.length ((if isP [41] ts=A then .ok ([],ts) else Z9 xy ts:PR (List Nd)).bd λps t3=>(zY [41] t3).bd λ_ t4 =>.ok (ps,t4))
    ((qu (lit [41],((k:Int),d,0,0),T)).bind λy2=>lpO VE (y2.1,y2.2.1,y2.2.2,z,hdr,C [] B)) z hdr:=by
  rw[Y6 g,ji];cases h:isP [41] ts with
  |true=>
    obtain⟨g1,l1⟩:=g.is h;have hm:zY [41] ts = .ok ((),ts.tail):=by unfold zY;rw[ju h]
    simp only[jp,PR.bd_ok,hm];rw[zx (zlk _ _)];exact⟨k+1,by rw[zll],g1,by omega,by simp;omega⟩
  |false=>
    simp only[jj,jo];unfold Z9;rw[PR.bd_assoc,<- zll];exact(zdq (fl:=λb=> !b) (body:=VE) (z:=z) (hdr:=hdr) zwZ ztP zlk ts.length ts k [] g (U7 _) (by simp;omega)).mono (by omega)
def zlm(t4:List Tk):PR Nd:=if isP [45,62] t4=A then(if isP [38] t4.tail=A then xM 20 t4.tail else w8 t4.tail) else .ok (⟨8,lit [],0,(hd t4).a_,nilS⟩,t4)
theorem zrD (at_:Int) (ts:List Tk):fnP at_ ts=(Za ts).bd λn t1=>(zY [40] t1).bd λ_ t2=>
    ((if isP [41] t2=A then .ok ([],t2) else Z9 xy t2:PR (List Nd)).bd λps t3=>(zY [41] t3).bd λ_ t4 =>.ok (ps,t4)).bd λps t4=>
    (zlm t4).bd λret t5=>(ye 8 t5).bd λb t6 =>.ok (⟨6,n.T_,n.n_,at_,⟨ps++[ret,b],A⟩⟩,t6):=by
  unfold fnP zlm;simp only[PR.bd_assoc,PR.bd_ok]
theorem zB1(g:GK T k ts)(hl:ts.length<=25000)(at_:Int):RS T 0 (ts.length - 1) (fnP at_ ts) (q6m (at_,((k:Int),0,0,0),T)) ndR pkR:=by
  unfold q6m qd5;rw[zrD]
  have tl:∀{k:Nat} {e a:Int} {w:Sl RNd} {z hdr:Int×Uq×Int×Int},k < T.xs.length->e≠0->w.xs.length<=30001->∃c,((zb T (k:Int)).bind λy13=>(zb T (k:Int)).bind λy14=>(qu (lit [45,62],((k:Int),0,e,a),T)).bind λy15=>
      (if y15.1=A then(q1j (lit [38],y15.2)).bind λy16=>(if y16.1=A then(q15 (20,y16.2)).bind λy17=>o (y17.1,y17.2,z,hdr,((8,lit [],0,y14.a_):Int×Uq×Int×Int),w) else o (y16.2.1,y16.2.2,z,hdr,(8,lit [],0,y14.a_),w)).bind λy18=>
        (q35 (y18.1,y18.2.1)).bind λy19=>o (y19.2.1,y19.2.2,y18.2.2.1,y18.2.2.2.1,kr y19.1,y18.2.2.2.2.2)
      else o (y15.2.1,y15.2.2,z,hdr,q7.mk 8 (lit []) 0 y14.a_ (C [] B),w)).bind λy20=>
      (q5a (y20.1,y20.2.1)).bind λy21=>(zp 64 y20.2.2.2.2.2 [kr y20.2.2.2.2.1]).bind λy22=>
      (zp 64 y22 [q7.mk y21.1.1 y21.1.2.1 y21.1.2.2.1 y21.1.2.2.2 y21.2.2.2]).bind λy23=>o (y20.2.2.2.1,y21.2.1,y21.2.2.1,y23))=o c/\pkR c=(((k:Int),0,e,a),T):=by
    intro k e a w z hdr hk he hw;obtain⟨t,ht⟩:=zb7 hk;obtain⟨v2,w2,hb⟩:=zgk.b (a:=a) hk he;simp only[ht,yq hk he,hb,ji,jj,jo];obtain⟨w3,e3,l3⟩:=zrC (w:=w) (x:=q7.mk 8 (lit []) 0 t.a_ (C [] B)) (by omega);obtain⟨w4,e4,l4⟩:=zrC (w:=w3) (x:=q7.mk v2.1 v2.2.1 v2.2.2.1 v2.2.2.2 w2) (by omega);simp only[e3,e4,ji];exact⟨_,rfl,rfl⟩
  refine(yg g).bd ?_ λm t1 k1 em g1 l1=>?_
  ·rintro⟨v,_⟩ k e a rfl hk he;simp only[Zp hk he,yq hk he,ji];rw[zmZ he];simp only[ji];exact tl hk he (by simp)
  refine(yf g1 [40]).bd ?_ λ_ t2 k2 _ g2 l2=>?_
  ·rintro _ k e a rfl hk he;simp only[yq hk he,ji,id];rw[zmZ he];simp only[ji];exact tl hk he (by simp)
  rw[<- gh];refine(ztQ g2 (by omega)).bd ?_ λps t4 k4 _ g4 l4 l4b=>?_
  ·intro k e a w hk he hw;exact tl hk he hw
  have hpos:=Dy.2 g4.g.ne;simp only[g4.idx,ji,toR]
  have fin:∀{t5:List Tk} {k5:Nat} (ret:Nd),GK T k5 t5->t5.length<=t4.length->RS T 0 (ts.length - 1) ((ye 8 t5).bd λb t6 =>.ok (⟨6,m.T_,m.n_,at_,⟨ps++[ret,b],A⟩⟩,t6))
      ((q5a (((k5:Int),0,0,0),T)).bind λy21=>(zp 64 (rS (mkS ps)) [rN ret]).bind λy22=>
      (zp 64 y22 [q7.mk y21.1.1 y21.1.2.1 y21.1.2.2.1 y21.1.2.2.2 y21.2.2.2]).bind λy23=>o (((6,m.T_,m.n_,at_):Int×Uq×Int×Int),y21.2.1,y21.2.2.1,y23)) ndR pkR:=by
    intro t5 k5 ret g5 l5;rw[xA (acc:=ps) (by omega)];refine(zgk.g g5).bd ?_ λb t6 k6 _ g6 l6 =>.ok g6 (by omega) ?_
    ·rintro⟨v,p,q,w⟩ k e a hp hk he;simp only[pkR,D.injEq] at hp;obtain⟨rfl,rfl⟩:=hp;simp only[ji];rw[Yn (by simp;omega)];exact⟨_,rfl,rfl⟩
    ·simp only[ji,ndR,ndT];rw[Yn (by simp;omega),show q7.mk b.k_ b.T_ b.n_ b.a_ (rS b.K_)=rN b from(yk b).symm,yo];simp
  unfold zlm;rw[PR.bd_ite];refine Yb g4 (λh5 g5 l5=>?_) λh5=>?_
  · simp only[jp,zdo g5,ji];cases h6:isP [38] t4.tail with
    |true=>
      simp only[jp,VD g5,ji];obtain⟨v,hv⟩:=zle (d:=0) (a:=(hd t4.tail).a_) g5.lt (show(20:Int)≠0 by decide);obtain⟨v2,w2,hb⟩:=zgk.b (a:=(hd t4.tail).a_) g5.lt (show(20:Int)≠0 by decide);simp only[hv,hb,ji,zk];rw[xA (acc:=ps) (by omega)];simp only[ji];rw[Yn (by simp;omega)];exact⟨_,_,rfl,rfl,g5.lt,by simp[xM]⟩
    |false=>
      simp only[jj,jo,ji,gh];refine(zrA g5).bd ?_ λret t5 k5 _ g6 l6=>?_
      ·rintro⟨v,_⟩ k e a rfl hk he;obtain⟨v2,w2,hb⟩:=zgk.b (a:=a) hk he;simp only[hb,ji,zk];rw[xA (acc:=ps) (by omega)];simp only[ji];rw[Yn (by simp;omega)];exact⟨_,rfl,rfl⟩
      ·simp only[zk];exact fin ret g6 (by omega)
  ·simp only[jj,jo,ji];rw[show q7.mk 8 (lit []) 0 (hd t4).a_ (C [] B)=rN ⟨8,lit [],0,(hd t4).a_,nilS⟩ by rw[Xh,yp]];simp only[zk,PR.bd_ok];exact fin _ g4 (by omega)
end
end
section
section
variable {T:Sl RTk}{d e a:Int}{k n:Nat}{ts:List Tk}{z hdr:Int×Uq×Int×Int}
theorem zyY(g:GK T k ts):RS T d (ts.length - 1) (WT ts) (q3y (((k:Int),d,0,0),T)) (λn st=>(rN n,st)) E:=by
  unfold q3y q93 WT;simp only[g.idx,ji,toR];refine Yb g (λh g1 l1=>?_) λh=>?_
  ·simp only[jp];exact .ok g1 (by omega) (by rw[Xh,yp])
  simp only[jj,jo];refine Yb g (λh g1 l1=>?_) λh=>?_
  ·simp only[jp];exact .ok g1 (by omega) (by rw[Xh,yp])
  simp only[jj,jo];have no:∀(i:Int) (s:List UInt8) (z q:Int×Uq×Int×Int),zb (⟨[lit [99,111,117,110,116,101,100],lit [108,111,99,107],lit [103,117,97,114,100]],A⟩:Sl Uq) i=o (lit s)->0<=i->i < 3->isP s ts=B->q3p qu q12 q15 (i,((k:Int),d,0,0),T,z,q,C [lit [99,111,117,110,116,101,100],lit [108,111,99,107],lit [103,117,97,114,100]] A)=o (.next (i+1,((k:Int),d,0,0),T,z,q,C [lit [99,111,117,110,116,101,100],lit [108,111,99,107],lit [103,117,97,114,100]] A)):=by
    intro i s z q hs h0 h3 hi;unfold q3p;simp only[hs,Y6 g,hi,ji,jj,jo];rw[ju (by simp[Sl.len];omega),zK (by omega) (by omega)]
  have yes:∀(i:Int) (s:List UInt8),zb (⟨[lit [99,111,117,110,116,101,100],lit [108,111,99,107],lit [103,117,97,114,100]],A⟩:Sl Uq) i=o (lit s)->0<=i->i < 3->isP s ts=A->
      RS T d (ts.length - 1) ((Za ts.tail).bd λk t1 =>.ok (⟨2,(hd ts).T_,0,(hd ts).a_,⟨[k],A⟩⟩,t1)) ((lpO (q3p qu q12 q15) (i,((k:Int),d,0,0),T,((0,lit [],0,0):Int×Uq×Int×Int),(2,(hd ts).T_,0,(hd ts).a_),C [lit [99,111,117,110,116,101,100],lit [108,111,99,107],lit [103,117,97,114,100]] A)).bind λy11=>
        Sum.elim (λy12=>o (q7.mk y12.2.2.1.1 y12.2.2.1.2.1 y12.2.2.1.2.2.1 y12.2.2.1.2.2.2 y12.2.2.2,y12.1,y12.2.1)) (λy13=>(q15 (20,y13.1,y13.2.1)).bind λy14=>o (q7.mk y13.2.2.2.1 y13.2.2.2.2.1 y13.2.2.2.2.2.1 y13.2.2.2.2.2.2 (C [] B),y14)) y11) (λn st=>(rN n,st)) E:=by
    intro i s hs h0 h3 hi;obtain⟨g1,l1⟩:=g.is hi
    have hb:q3p qu q12 q15 (i,((k:Int),d,0,0),T,(0,lit [],0,0),(2,(hd ts).T_,0,(hd ts).a_),C [lit [99,111,117,110,116,101,100],lit [108,111,99,107],lit [103,117,97,114,100]] A) =
        (q12 ((((k+1:Nat):Int),d,0,0),T)).bind λy10=>o (.done (.inl (y10.2.1,y10.2.2,(2,(hd ts).T_,0,(hd ts).a_),C [q7.mk y10.1.1 y10.1.2.1 y10.1.2.2.1 y10.1.2.2.2 (C [] B)] A))):=by
      unfold q3p;simp only[hs,Y6 g,hi,ji,jp];rw[ju (by simp[Sl.len];omega)]
    have hr:=yg (d:=d) g1;cases e:Za ts.tail with
    |error er=>
      rw[e] at hr;obtain⟨⟨v,_⟩,k1,e1,rfl,h5,h6⟩:=hr;rw[e1,ji] at hb;rw[zx hb];exact⟨_,k1,rfl,rfl,h5,h6⟩
    |ok p=>
      obtain⟨m,t1⟩:=p;rw[e] at hr;obtain⟨k1,e1,g2,l2⟩:=hr;rw[e1,ji] at hb;rw[zx hb];refine .ok g2 (by omega) ?_;simp only[ji,jm];rw[XQ m (zN e),Xh,Wa]
  cases h3:isP [99,111,117,110,116,101,100] ts with
  |true=>exact yes 0 _ rfl (by omega) (by omega) h3
  |false=>
  rw[zE (no 0 _ _ _ rfl (by omega) (by omega) h3)];simp only[jj,jo];cases h4:isP [108,111,99,107] ts with
  |true=>exact yes (0+1) _ rfl (by omega) (by omega) h4
  |false=>
  rw[zE (no (0+1) _ _ _ rfl (by omega) (by omega) h4)];simp only[jj,jo];cases h5:isP [103,117,97,114,100] ts with
  |true=>exact yes (0+1+1) _ rfl (by omega) (by omega) h5
  |false=>
  rw[zE (no (0+1+1) _ _ _ rfl (by omega) (by omega) h5),zx (y :=.inr (((k:Int),d,0,0),T,_,_)) rfl];simp only[jj,jo,ji,jl,VD g];exact⟨_,k,rfl,rfl,g.lt,by simp[xM]⟩
noncomputable def zdT(f:PS->Us ((Int×Uq×Int×Int)×(Int×Int×Int×Int)×Sl RTk×Sl RNd))(st:PS):Us (RNd×PS):=
 (f st).bind λy=>o (q7.mk y.1.1 y.1.2.1 y.1.2.2.1 y.1.2.2.2 y.2.2.2,y.2.1,y.2.2.1)
theorem zrE{f:PS->Us ((Int×Uq×Int×Int)×(Int×Int×Int×Int)×Sl RTk×Sl RNd)}(h:∀{ts k},GK T k ts->RS T d (ts.length - 1) (one ts) (f (((k:Int),d,0,0),T)) ndR pkR):zoP T d one (zdT f):=by
 intro ts k g;have hr:=h g;unfold zdT;cases e:one ts with
 |error er=>
  rw[e] at hr;obtain⟨⟨v,p,q,w⟩,k1,e1,hp,h5,h6⟩:=hr;rw[e1];exact⟨_,k1,rfl,hp,h5,h6⟩
 |ok p=>
  obtain⟨m,t1⟩:=p;rw[e] at hr;obtain⟨k1,e1,g2,l2⟩:=hr;rw[e1];exact .ok g2 l2 (by simp only[ji,ndR,ndT];rw[yk])
theorem zw0(g:GK T k ts):RS T d (ts.length - 1) (xx ts) (q3q (((k:Int),d,0,0),T)) ndR pkR:=by
 unfold q3q qbf xx;refine(yg g).bd ?_ λm t1 k1 em g1 l1=>?_
 ·rintro⟨v,_⟩ k e a rfl hk he;simp only[yq hk he,ji,jj,jo];exact⟨_,rfl,rfl⟩
 refine Yb g1 (λh g2 l2=>?_) λh=>?_
 ·simp only[jp,gh,ji];refine(yg g2).bd ?_ λx t3 k3 ex g3 l3=>?_
  ·rintro⟨v,_⟩ k e a rfl hk he;simp only[Zp hk he,ji];exact⟨_,rfl,rfl⟩
  refine(yf g3 [93]).bd ?_ λ_ t4 k4 _ g4 l4 =>.ok g4 (by omega) ?_
  ·rintro _ k e a rfl hk he;exact⟨_,rfl,rfl⟩
  ·simp only[ndR,Wa];rw[XQ x (zN ex)];rfl
 ·simp only[jj,jo,ji];exact .ok g1 (by omega) (by simp only[ndR,yp];rfl)
noncomputable abbrev vU:=qch q12 q3y qu q3q qz q1o
noncomputable abbrev WF:=qci q12 q3y qu q3q qz q1o
theorem zAC(k:Nat)(w:Sl RNd):vU (A,((k:Int),d,0,0),T,z,hdr,w)=zdS (zdT q3q) (lit [125]) (λb=>b) (((k:Int),d,0,0),T) z hdr w:=by
 unfold vU qch zdS zdT;grind
theorem zoQ(p:Int×Int×Int×Int)(w:Sl RNd):vU (B,p,T,z,hdr,w)=o (.done (p,T,z,hdr,w)):=rfl
theorem zAD(p:Int×Int×Int×Int)(w:Sl RNd):WF (A,p,T,z,hdr,w)=(zdT q1o (p,T)).bind λy=>(zp 64 w [y.1]).bind λw'=>(qu (lit [44],y.2)).bind λy9=>o (.next (y9.1,y9.2.1,y9.2.2,z,hdr,w')):=by
 unfold WF qci zdT;grind
theorem ziM(p:Int×Int×Int×Int)(w:Sl RNd):WF (B,p,T,z,hdr,w)=o (.done (p,T,z,hdr,w)):=rfl
theorem zgm:∀(j:Nat) (ts:List Tk) (k:Nat) (acc:List Nd),GK T k ts->ts.length<=j->acc.length+ts.length<=30000->
    LQ T d (ts.length - 1) ((Yy ts).bd λa t1=>Zr Yy j (acc++[a]) t1) (lpO WF (A,((k:Int),d,0,0),T,z,hdr,rS (mkS acc))) z hdr
  |0,ts,k,acc,g,hj,ha=>absurd (UD (by omega)) g.g.ne
  |j+1,ts,k,acc,g,hj,ha=>by
    have hpos:=Dy.2 g.g.ne;have hr:=zrE (T:=T) (d:=d) (one:=Yy) (f:=q1o) (λg=>zrz g) g;have hb:=zAD (T:=T) (z:=z) (hdr:=hdr) ((k:Int),d,0,0) (rS (mkS acc));cases e:Yy ts with
    |error er=>
      rw[e] at hr;obtain⟨⟨v,_⟩,k1,e1,rfl,h3,h4⟩:=hr;rw[e1] at hb;simp only[ji] at hb;rw[xA (acc:=acc) (by omega)] at hb;simp only[ji,yq h3 h4] at hb;rw[zE hb,zx (ziM _ _)];exact⟨k1,_,rfl,h3,h4,by simp;omega⟩
    |ok p=>
      obtain⟨x,t1⟩:=p;rw[e] at hr;obtain⟨k1,e1,g1,l1⟩:=hr;rw[e1] at hb;simp only[ji] at hb;rw[xA (acc:=acc) (by omega),zgj] at hb;simp only[ji,Y6 g1] at hb;rw[PR.bd_ok];unfold Zr;have hpos1:=Dy.2 g1.g.ne;cases h44:isP [44] t1 with
      |true=>
        obtain⟨g2,l2⟩:=g1.is h44;rw[h44] at hb;simp only[jp] at hb;rw[zE hb];simp only[jp];exact(zgm j t1.tail (k1+1) (acc++[x]) g2 (by omega) (by simp;omega)).mono (by omega)
      |false=>
        rw[h44] at hb;simp only[jj,jo] at hb;simp only[jj,jo];rw[zE hb,zx (ziM _ _)];exact⟨k1,rfl,g1,by omega,by simp;omega⟩
end
end
section
section
variable {T:Sl RTk}{d e a:Int}{k n:Nat}{ts:List Tk}{z hdr:Int×Uq×Int×Int}
theorem VF(p:List Nd):∀(j:Nat) (acc:List Nd) (ts:List Tk),Zr one j (p++acc) ts=(Zr one j acc ts).bd λl t =>.ok (p++l,t)
 |0,acc,ts=>rfl
 |j+1,acc,ts=>by
  unfold Zr;cases isP [44] ts with
  |false=>rfl
  |true=>
   simp only[jp,PR.bd_assoc];congr 1;funext a t;rw[UP];exact VF p j (acc++[a]) t
theorem zyZ{l:List α}(h:l≠[]):mkS l=⟨l,A⟩:=by cases l;exact absurd rfl h;rfl
def WG(s:Nd)(t2:List Tk):PR (List Nd):=if isP [123] t2=A then(Z9 xx t2.tail).bd λl t3=>(zY [125] t3).bd λ_ t4 =>.ok ([s]++l,t4) else .ok ([s],t2)
def za4(ks:List Nd)(t5:List Tk):PR (List Nd):=if isP [119,104,101,114,101] t5=A then(Z9 Yy t5.tail).bd λl t6 =>.ok (ks++l,t6) else .ok (ks,t5)
theorem ztR (g:GK T k ts) (hl:ts.length<=25000) (s:Nd):LQ T d ts.length (WG s ts)
    ((qu (lit [123],((k:Int),d,0,0),T)).bind λy2=>lpO vU (y2.1,y2.2.1,y2.2.2,z,hdr,rS (mkS [s]))) z hdr:=by
  rw[Y6 g,ji];unfold WG;cases h:isP [123] ts with
  |true=>
    obtain⟨g1,l1⟩:=g.is h;simp only[jp];have:=zdq (d:=d) (fl:=λb=>b) (body:=vU) (z:=z) (hdr:=hdr) (zrE (one:=xx) (f:=q3q) λg=>zw0 g) zAC zoQ ts.tail.length ts.tail (k+1) [s] g1 (U7 _) (by simp;omega);unfold Z9;simp only[VF,PR.bd_assoc,PR.bd_ok] at this |-
    exact this.mono (by omega)
  |false=>
    simp only[jj,jo];rw[zx (zoQ _ _)];exact⟨k,rfl,g,U7 _,by simp;omega⟩
theorem ztS (g:GK T k ts) (ks:List Nd) (hl:ks.length+ts.length<=30000):LQ T d ts.length (za4 ks ts)
    ((qu (lit [119,104,101,114,101],((k:Int),d,0,0),T)).bind λy2=>lpO WF (y2.1,y2.2.1,y2.2.2,z,hdr,rS (mkS ks))) z hdr:=by
  rw[Y6 g,ji];unfold za4;cases h:isP [119,104,101,114,101] ts with
  |true=>
    obtain⟨g1,l1⟩:=g.is h;simp only[jp];have:=zgm (d:=d) (z:=z) (hdr:=hdr) ts.tail.length ts.tail (k+1) ks g1 (U7 _) (by omega);unfold Z9;simp only[VF,PR.bd_assoc,PR.bd_ok] at this |-
    exact this.mono (by omega)
  |false=>
    simp only[jj,jo];rw[zx (ziM _ _)];exact⟨k,rfl,g,U7 _,by omega⟩
theorem zm0(at_:Int)(ts:List Tk):zdi at_ ts=(Za ts).bd λn t1=>(WT t1).bd λs t2=>(WG s t2).bd λks t5=>(za4 ks t5).bd λks t7=>(zY [59] t7).bd λ_ t8 =>.ok (⟨1,n.T_,n.n_,at_,⟨ks,A⟩⟩,t8):=rfl
theorem zrF{s:Nd}{ts:List Tk}{l:List Nd}(h:WG s ts = .ok (l,t)):l≠[]:=by
 unfold WG at h;split at h
 ·obtain⟨a,t1,_,h⟩:=bd_ok h;obtain⟨b,t2,_,h⟩:=bd_ok h;cases h;simp
 grind
theorem ztT{ks:List Nd}{ts:List Tk}{l:List Nd}(hk:ks≠[])(h:za4 ks ts = .ok (l,t)):l≠[]:=by
 unfold za4 at h;split at h
 ·obtain⟨a,t1,_,h⟩:=bd_ok h;cases h;simp[hk]
 grind
theorem zAE(g:GK T k ts)(hl:ts.length<=25000)(at_:Int):RS T d (ts.length - 1) (zdi at_ ts) (q63 (at_,((k:Int),d,0,0),T)) ndR pkR:=by
 unfold q63 qcj;rw[zm0];have t2:∀{k:Nat} {e a:Int} {w:Sl RNd} {hdr:Int×Uq×Int×Int},k < T.xs.length->e≠0->∃c,(qz (lit [59],((k:Int),d,e,a),T)).bind (λy16=>o (hdr,y16.1,y16.2,w))=o c/\pkR c=(((k:Int),d,e,a),T):=by
  intro k e a w hdr hk he;rw[Zp hk he];exact⟨_,rfl,rfl⟩
 have tl:∀{k:Nat} {e a:Int} {w:Sl RNd} {z hdr:Int×Uq×Int×Int},k < T.xs.length->e≠0->∃c,((qu (lit [119,104,101,114,101],((k:Int),d,e,a),T)).bind λy10=>(lpO WF (y10.1,y10.2.1,y10.2.2,z,hdr,w)).bind λy15=>(qz (lit [59],y15.1,y15.2.1)).bind λy16=>o (y15.2.2.2.1,y16.1,y16.2,y15.2.2.2.2))=o c/\pkR c=(((k:Int),d,e,a),T):=by
  intro k e a w z hdr hk he;rw[yq hk he,ji,zx (ziM _ _),ji];exact t2 hk he
 have ts':∀{k:Nat} {e a:Int} {w:Sl RNd} {z hdr:Int×Uq×Int×Int},k < T.xs.length->e≠0->∃c,((qu (lit [123],((k:Int),d,e,a),T)).bind λy2=>(lpO vU (y2.1,y2.2.1,y2.2.2,z,hdr,w)).bind λy9=>(qu (lit [119,104,101,114,101],y9.1,y9.2.1)).bind λy10=>(lpO WF (y10.1,y10.2.1,y10.2.2,y9.2.2)).bind λy15=>(qz (lit [59],y15.1,y15.2.1)).bind λy16=>o (y15.2.2.2.1,y16.1,y16.2,y15.2.2.2.2))=o c/\pkR c=(((k:Int),d,e,a),T):=by
  intro k e a w z hdr hk he;rw[yq hk he,ji,zx (zoQ _ _),ji];exact tl hk he
 refine(yg g).bd ?_ λm t1 k1 em g1 l1=>?_
 ·rintro⟨v,_⟩ k e a rfl hk he;obtain⟨v2,hv⟩:=zyV (d:=d) (a:=a) hk he;simp only[hv,ji];exact ts' hk he
 refine(zyY g1).bd ?_ λs t2' k2 es g2 l2=>?_
 ·rintro⟨v,_⟩ k e a rfl hk he;exact ts' hk he
 simp only[zk];rw[show(⟨[rN s],A⟩:Sl RNd)=rS (mkS [s]) by rw[yo];rfl,<- gh];refine(ztR g2 (by omega) s).bd ?_ λks t5 k5 ek g5 l5 l5b=>?_
 ·intro k e a w hk he hw;exact tl hk he
 rw[<- gh];have hpos:=Dy.2 g5.g.ne;by_cases hks:ks.length+t5.length<=30000
 ·refine(ztS g5 ks hks).bd ?_ λks2 t7 k7 ef g7 l7 l7b=>?_
  ·intro k e a w hk he hw;exact t2 hk he
  refine(yf g7 [59]).bd ?_ λ_ t8 k8 _ g8 l8 =>.ok g8 (by omega) ?_
  ·rintro _ k e a rfl hk he;exact⟨_,rfl,rfl⟩
  ·rw[zyZ (ztT (zrF ek) ef)];rfl
 ·exfalso;have:∀(j:Nat) (acc:List Nd) (t:List Tk) (l:List Nd) (t3:List Tk),Zr xx j acc t = .ok (l,t3)->l.length+t3.length<=acc.length+t.length:=by
   intro j
   induction j with
   |zero=>intro acc t l t3 e;cases e;grind
   |succ j ih=>
    intro acc t l t3 e;unfold Zr at e;split at e
    ·rename_i hp;obtain⟨x,t',hx,e⟩:=bd_ok e;have h1:=ih _ _ _ _ e;have h2:=(zdl _ _ _ hx).2;grind
    grind
  unfold WG at ek;split at ek
  ·rename_i hp;have h3:=zM hp;obtain⟨l,t3,hx,ek⟩:=bd_ok ek;obtain⟨u,t4,hm,ek⟩:=bd_ok ek;unfold Z9 at hx;obtain⟨x,t',hx1,hx⟩:=bd_ok hx;have h1:=this _ _ _ _ _ hx;have h2:=(zdl _ _ _ hx1).2;have h4:=Zo hm;grind
  grind
theorem zln:∀(k:Nat) (n:Nd),zm n<=k->zm n<=1000000000->q2v k (rN n)=o (zm n:Int)
 |0,n,h,_=>by have:=Zh n;omega
 |k+1,n,h,hb=>by
  obtain⟨a,b,c,d,⟨xs,nn⟩⟩:=n;rw[Xh,yo];show((lpO (q6n (q2v k)) (1,0,q7.mk a b c d ⟨xs.map rN,nn⟩)).bind λy3=>o y3)=_;have hs:zm ⟨a,b,c,d,⟨xs,nn⟩⟩=zf xs+1:=by rw[zl]
  have loop:∀(m i:Nat),i+m=xs.length->lpO (q6n (q2v k)) (((1+zf (xs.take i):Nat):Int),(i:Int),q7.mk a b c d ⟨xs.map rN,nn⟩)=o ((1+zf xs:Nat):Int):=by
   intro m
   induction m with
   |zero=>
    intro i hi;have hf:q6n (q2v k) (((1+zf (xs.take i):Nat):Int),(i:Int),q7.mk a b c d ⟨xs.map rN,nn⟩)=o (.done ((1+zf (xs.take i):Nat):Int)):=by
     show(if decide ((i:Int) < ((xs.map rN).length:Int))=A then _ else _)=_;grind
    rw[zx hf,List.take_of_length_le (by omega)]
   |succ m ih=>
    intro i hi;have hlt:i < xs.length:=by omega
    have hg:zb (⟨xs.map rN,nn⟩:Sl RNd) (i:Int)=o (rN xs[i]):=by
     rw[wF];simp[hlt]
    have h1:=zeL hlt;have h2:=za2 xs (i+1);have hr:q2v k (rN xs[i])=o (zm xs[i]:Int):=zln k xs[i] (by omega) (by omega);have hlen:xs.length<=zf xs:=by
     clear hr h1 h2 hg ih hs hb h hlt hi
     induction xs with
     |nil=>simp
     |cons x r ih=>have:=Zh x;simp only[zf,jy];omega
    have hf:q6n (q2v k) (((1+zf (xs.take i):Nat):Int),(i:Int),q7.mk a b c d ⟨xs.map rN,nn⟩)=o (.next (((1+zf (xs.take (i+1)):Nat):Int),((i+1:Nat):Int),q7.mk a b c d ⟨xs.map rN,nn⟩)):=by
     show(if decide ((i:Int) < ((xs.map rN).length:Int))=A then(zb (⟨xs.map rN,nn⟩:Sl RNd) (i:Int)).bind _ else _)=_;rw[ju (by simp;omega),hg];simp only[ji,zk,hr];rw[zK (by omega) (by omega),zK (by omega) (by omega),h1];have e1:((1+zf (xs.take i):Nat):Int)+(zm xs[i]:Int)=((1+(zf (xs.take i)+zm xs[i]):Nat):Int):=by omega
     grind
    rw[zE hf];grind
  have:=loop xs.length 0 (by omega);simp only[List.take_zero,zf,US] at this;grind
theorem zw1{l:List UInt8}(h:two l=A):∀c∈l.take 2,isL c=false:=by
 unfold two at h;simp only[UB,jk] at h;rcases h with h | h | h<;>rw[h]<;>decide
theorem zw2{l:List UInt8}{n:Nat}{v:Int}(h:nxt l = .tok 4 n v):∀c∈l.take n,isL c=false:=by
 unfold nxt at h;split at h
 ·cases h
 rename_i c r;split at h
 ·cases h
 split at h
 ·cases h
 split at h
 ·unfold XM at h;grind
 split at h
 ·unfold xv at h;grind
 ·unfold xw at h;split at h
  ·cases h
  ·cases h;unfold YF;split
   ·rename_i h2;exact zw1 h2
   ·rename_i h2;simp only;grind
theorem zfi:∀(f at_:Nat) (l:List UInt8) (ts:List Tk),w6 f at_ l = .inr ts->∀t∈ts,t.k_=4->∀c∈bs t.T_,isL c=B
 |0,at_,l,ts,h=>by cases h;simp
 |f+1,at_,l,ts,h=>by
  unfold w6 at h;split at h
  ·cases h;simp
  split at h
  ·exact zfi f _ _ ts h
  ·cases h
  ·rename_i k n v hn;split at h
   ·cases h
   ·rename_i ts' hts;cases h;intro t ht hk;rcases UO.1 ht with rfl | ht
    ·simp only at hk;subst hk;rw[X4];exact zw2 hn
    ·exact zfi f _ _ ts' hts t ht hk
theorem zlo(s:Uq):∀t∈(ZY s).2.2.xs,t.k_=4->∀c∈bs t.T_,isL c=false:=by
 unfold ZY;split
 ·simp
 ·split
  ·simp
  ·rename_i ts e;intro t ht hk;simp only[Uu,Dl] at ht;rcases ht with ht | rfl
   ·exact zfi _ _ _ _ e t ht hk
   ·simp at hk
end
end
section
section
variable {T:Sl RTk}{d e a:Int}{k n:Nat}{ts:List Tk}{z1 z2:Int×Uq×Int×Int}
noncomputable abbrev va:=q82 q69 qu q6m qz q63 qa2
theorem zhv(he:e≠0)(p:Int)(w:Sl RNd):lpO va (z1,(p,d,e,a),z2,T,w)=o (z1,(p,d,e,a),z2,T,w):=
 zx (by unfold va q82;grind)
theorem zgn:∀(j:Nat) (ts:List Tk) (k:Nat) (acc:List Nd),GK T k ts->ts.length<=25000->ts.length<=j->acc.length+ts.length<=30000->
    match Yv j acc ts with
    | .error er=>∃(k1:Nat) (w:Sl RNd),lpO va (z1,((k:Int),0,0,0),z2,T,rS (mkS acc))=o (z1,((k1:Int),0,er.2,er.1),z2,T,w)/\er.2≠0
    | .ok (l,_)=>∃k1:Nat,lpO va (z1,((k:Int),0,0,0),z2,T,rS (mkS acc))=o (z1,((k1:Int),0,0,0),z2,T,rS (mkS l))
  |0,ts,k,acc,g,hl,hj,ha=>absurd (UD (by omega)) g.g.ne
  |j+1,ts,k,acc,g,hl,hj,ha=>by
    have hpos:=Dy.2 g.g.ne;unfold Yv
    have hb:va (z1,((k:Int),0,0,0),z2,T,rS (mkS acc))=if(hd ts).k_=0 then o (.done (z1,((k:Int),0,0,0),z2,T,rS (mkS acc))) else
        if isP [102,110] ts=A then(q6m ((hd ts).a_,(((k+1:Nat):Int),0,0,0),T)).bind λy8=>(zp 64 (rS (mkS acc)) [q7.mk y8.1.1 y8.1.2.1 y8.1.2.2.1 y8.1.2.2.2 y8.2.2.2]).bind λy9=>o (.next (z1,y8.2.1,z2,y8.2.2.1,y9))
        else(qz (lit [116,121,112,101],((k:Int),0,0,0),T)).bind λy10=>(if y10.1.2.2.1=0 then(q63 ((hd ts).a_,y10)).bind λy11=>(zp 64 (rS (mkS acc)) [q7.mk y11.1.1 y11.1.2.1 y11.1.2.2.1 y11.1.2.2.2 y11.2.2.2]).bind λy12=>o (z1,y11.2.1,z2,y11.2.2.1,y12) else o (z1,y10.1,z2,y10.2,rS (mkS acc))).bind λy=>o (.next y):=by
      unfold va q82;simp only[g.idx,ji,jr,jp,toR,jk];by_cases h0:(hd ts).k_=0
      ·grind
      · simp only[h0,UW,jt,jo,jp,Y6 g,ji];cases h1:isP [102,110] ts with
        |true=>grind
        |false=>grind
    by_cases h0:(hd ts).k_=0
    · rw[ju h0] at hb |-
      exact⟨k,zx hb⟩
    rw[jv h0] at hb |-
    cases h1:isP [102,110] ts with
    |true=>
      obtain⟨g1,l1⟩:=g.is h1;rw[h1] at hb;simp only[jp] at hb |-
      have hr:=zB1 g1 (by omega) (hd ts).a_;cases es:fnP (hd ts).a_ ts.tail with
      |error er=>
        rw[es] at hr;obtain⟨⟨w,p,q,ks⟩,k1,e1,hp,h3,h4⟩:=hr;simp only[pkR,D.injEq] at hp;obtain⟨rfl,hq⟩:=hp;obtain rfl:T=q:=hq.symm;rw[e1,ji,xA (acc:=acc) (by omega)] at hb;exact⟨k1,_,by rw[zE hb,zhv h4],h4⟩
      |ok p=>
        obtain⟨x,t1⟩:=p;rw[es] at hr;obtain⟨k1,e1,g2,l2⟩:=hr;rw[e1,ji] at hb;simp only[ndR,ndT] at hb;rw[xA (acc:=acc) (by omega),show q7.mk x.k_ x.T_ x.n_ x.a_ (rS x.K_)=rN x from(yk x).symm,zgj] at hb;have ih:=zgn j t1 k1 (acc++[x]) g2 (by omega) (by omega) (by simp;omega);rw[zE hb];exact ih
    |false=>
      rw[h1] at hb;simp only[jj,jo] at hb |-
      have hm:=yf (d:=0) g [116,121,112,101];cases em:zY [116,121,112,101] ts with
      |error er=>
        rw[em] at hm;obtain⟨b,k1,e1,hp,h3,h4⟩:=hm;simp only[id] at hp;subst hp;rw[e1,ji] at hb;simp only[h4,jo,ji] at hb;exact⟨k1,_,by rw[zE hb,zhv h4],h4⟩
      |ok p=>
        obtain⟨u,t0⟩:=p;rw[em] at hm;obtain⟨k0,e0,g0,l0⟩:=hm;rw[e0,ji] at hb;simp only[jp] at hb;rw[PR.bd_ok];have hr:=zAE (d:=0) g0 (by omega) (hd ts).a_;cases es:zdi (hd ts).a_ t0 with
        |error er=>
          rw[es] at hr;obtain⟨⟨w,p,q,ks⟩,k1,e1,hp,h3,h4⟩:=hr;simp only[pkR,D.injEq] at hp;obtain⟨rfl,hq⟩:=hp;obtain rfl:T=q:=hq.symm;rw[e1,ji,xA (acc:=acc) (by omega)] at hb;exact⟨k1,_,by rw[zE hb,zhv h4],h4⟩
        |ok p=>
          obtain⟨x,t1⟩:=p;rw[es] at hr;obtain⟨k1,e1,g2,l2⟩:=hr;rw[e1,ji] at hb;simp only[ndR,ndT] at hb;rw[xA (acc:=acc) (by omega),show q7.mk x.k_ x.T_ x.n_ x.a_ (rS x.K_)=rN x from(yk x).symm,zgj] at hb;have ih:=zgn j t1 k1 (acc++[x]) g2 (by omega) (by omega) (by simp;omega);rw[zE hb];exact ih
end
theorem zdr(s:Uq):q24 s=o (rN (xX s).1,(xX s).2):=by
 unfold q24 qbg;rw[zoN,ji];have hz:rN wc=q7.mk 0 (lit []) 0 0 (C [] B):=by unfold wc;rw[Xh,yp]
 unfold xX;simp only[jk];by_cases h:(ZY s).2.1=0
 case neg=>grind
 case pos=>
 rw[jv (by simpa using h),jv (by simpa using h)];obtain⟨g,hn⟩:=zdm h;have hs:=zlo s;generalize hx:(ZY s).2.2=X at g hn hs;obtain⟨ts,nn⟩:=X;simp only at g hn hs;subst hn;have hlen:=g.len;have gk:GK ⟨ts.map toR,A⟩ 0 ts:=⟨rfl,g,by omega,hs⟩;have lp:=zgn (z1:=(0,lit [],0,0)) (z2:=(0,lit [],0,0)) ts.length ts 0 [] gk (by omega) (U7 _) (by simp;omega);rw[zll] at lp;cases e:Yv ts.length [] ts with
 |error er=>
  rw[e] at lp;obtain⟨k1,w,lp,h2⟩:=lp;have lp:lpO va ((0,lit [],0,0),(0,0,0,0),(0,lit [],0,0),⟨ts.map toR,A⟩,C [] B)=_:=lp;grind
 |ok p=>
  obtain⟨l,t1⟩:=p;rw[e] at lp;obtain⟨k1,lp⟩:=lp;have lp:lpO va ((0,lit [],0,0),(0,0,0,0),(0,lit [],0,0),⟨ts.map toR,A⟩,C [] B)=_:=lp;rw[lp];have hsz:=V7 _ _ _ _ _ e;simp only[zf] at hsz;have hsize:qa2 (q7.mk 0 (lit []) 0 0 (rS (mkS l)))=o ((zf l+1:Nat):Int):=by
   have:=zln 100000 ⟨0,lit [],0,0,mkS l⟩ (by rw[zl];simp only[mkS];omega) (by rw[zl];simp only[mkS];omega);rw[zl,Xh] at this;exact this
  simp only[ji,UW,js,jo,hsize];by_cases hb:4096 < zf l+1
  ·grind
  ·rw[jv (by omega),jv hb,Xh]
end
end Go.Px
