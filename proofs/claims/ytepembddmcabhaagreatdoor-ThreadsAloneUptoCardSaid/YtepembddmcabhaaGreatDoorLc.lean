/- Part Lc. -/
import Derived.Test.YtepembddmcabhaaGreatDoorLb
set_option linter.unusedVariables false
set_option linter.unusedSimpArgs false
namespace Go.Px
variable{n':Nat}{one:List Tk->PR Nd}{t:List Tk}{α β γ δ:Type}{f:α->List Tk->PR β}{m:Uc β}{r:PR α}
section
theorem Df:∀ {α : Type _} {l : List α},0 < l.length↔l≠[]:=@List.length_pos_iff
theorem ww (s:Sl α) (i:Nat):zb s (i:Int)=s.xs[i]?:=by
 unfold zb;grind
theorem zD {s:Type}{f:s->Uc (Step s β)}{x y:s}(h:f x=some (.next y)):lpO f x=lpO f y:=by rw [Zr,h];rfl
theorem zw {s:Type}{f:s->Uc (Step s β)}{x:s}{y:β}(h:f x=some (.done y)):lpO f x=some y:=by rw [Zr,h];rfl
abbrev RTk:=q9
abbrev RNd:=q6
abbrev PS:=(Int×Int×Int×Int)×Sl RTk
mutual
def rN:Nd->RNd
 |⟨k,t,n,a,s⟩=>⟨k,t,n,a,rS s⟩
def rS:Sl Nd->Sl RNd
 |⟨l,b⟩=>⟨rL l,b⟩
def rL:List Nd->List RNd
 |[]=>[]
 |n::l=>rN n::rL l
end
theorem zqr:∀ l:List Nd,rL l=l.map rN
 |[]=>by simp [rL]
 |n::l=>by simp [rL,zqr l]
theorem yn (s:Sl Nd):rS s=⟨s.xs.map rN,s.nn⟩:=by cases s;unfold rS;rw [zqr]
theorem yj (n:Nd):rN n=⟨n.k_,n.T_,n.N_,n.a_,rS n.K_⟩:=by cases n;unfold rN;rfl
theorem yo:rS nilS=⟨[],false⟩:=by rw [yn];rfl
theorem zk (a:RNd):kr a=a:=by cases a;rfl
structure GK (T:Sl RTk) (k:Nat) (ts:List Tk):Prop where
 dr:T.xs.drop k=ts.map toR
 g:TGood ts
 b:k+ts.length<=30000
 sg:∀ t∈ts,t.k_=4->∀ c∈bs t.T_,isL c=false
def RS (T:Sl RTk) (d:Int) (n:Nat) (r:PR α) (m:Uc β) (mk:α->PS->β) (pk:β->PS):Prop:=match r with
 | .error e=>∃ (b:β) (k:Nat),m=some b/\pk b=(((k:Int),d,e.2,e.1),T)/\k < T.xs.length/\e.2≠0
 | .ok (a,ts)=>∃ k:Nat,m=some (mk a (((k:Int),d,0,0),T))/\GK T k ts/\ts.length<=n
section
variable {T:Sl RTk}{d e a:Int}{k n:Nat}{ts:List Tk}
theorem GK.lt (h:GK T k ts):k < T.xs.length:=by
 have:=congrArg List.length h.dr;have h2:=Df.2 h.g.ne;grind
theorem GK.idx (h:GK T k ts):zb T (k:Int)=some (toR (hd ts)):=by
 have h1:=congrArg (fun l=>l[0]?) h.dr;simp only [UE,UB,Uj] at h1;rw [show zb T (k:Int)=T.xs[k]? from ww T k,h1]
 match ts,h.g with
 |[],g=>exact absurd rfl g.ne
 |t::r,_=>rfl
theorem GK.tail (h:GK T k ts) (hk:(hd ts).k_≠0):GK T (k+1) ts.tail/\ts.tail.length+1=ts.length:=by
 have h1:=h.g.tail hk;have h2:=h.g.tail_len;refine ⟨⟨?_,h1,?_,fun t ht=>h.sg t (List.mem_of_mem_tail ht)⟩,h2⟩
 ·rw [<- List.drop_drop,h.dr]
  match ts with
  |[]=>rfl
  |t::r=>rfl
 ·have:=h.b;omega
theorem zbM (hk:k < T.xs.length):∃ t,zb T (k:Int)=some t:=⟨T.xs[k],by rw [ww];grind⟩
theorem zx (hk:k < 1000000000):Ud ((k:Int)+1)=((k+1:Nat):Int):=by rw [zM (by omega) (by omega)];rfl
theorem zko (hk:k < T.xs.length) (he:e≠0) (s:Ua):q1k (s,((k:Int),d,e,a),T)=some (false,((k:Int),d,e,a),T):=by
 obtain ⟨t,ht⟩:=zbM hk;unfold q1k qab;grind
theorem yp (hk:k < T.xs.length) (he:e≠0) (s:Ua):qu (s,((k:Int),d,e,a),T)=some (false,((k:Int),d,e,a),T):=by
 unfold qu q9q;simp only [zko hk he,jf,jg,jk]
theorem zcX (he:e≠0) (c:Int):q14 (c,((k:Int),d,e,a),T)=some (((k:Int),d,e,a),T):=by
 unfold q14 q8o;grind
theorem Zp (hk:k < T.xs.length) (he:e≠0) (s:Ua):qy (s,((k:Int),d,e,a),T)=some (((k:Int),d,e,a),T):=by
 unfold qy q8p;simp only [yp hk he,zcX he,jf,UY,jl]
theorem zfL (hk:k < T.xs.length) (he:e≠0):q11 (((k:Int),d,e,a),T)=some ((0,lit [],0,0),((k:Int),d,e,a),T):=by
 obtain ⟨t,ht⟩:=zbM hk;unfold q11 q8q;simp only [ht,zcX he,jf,UF,he,jq,jo,jl]
theorem xL (hk:k < T.xs.length) (he:e≠0):q27 (((k:Int),d,e,a),T)=some (0,((k:Int),d,e,a),T):=by
 obtain ⟨t,ht⟩:=zbM hk;unfold q27 q7d;simp only [ht,zcX he,jf,UF,he,jq,jo,jl]
theorem zfM (hk:k < T.xs.length) (he:e≠0) (x:RNd):q1y (x,((k:Int),d,e,a),T)=some (x,((k:Int),d,e,a),T):=by
 unfold q1y q8r;simp only [yp hk he,jf,jg,jk,zk]
theorem zaJ (hk:k < T.xs.length) (he:e≠0):∃ v,q1o (((k:Int),d,e,a),T)=some (v,((k:Int),d,e,a),T):=by
 obtain ⟨t,ht⟩:=zbM hk;unfold q1o q8s;simp only [ht,yp hk he,xL hk he,zfL hk he,zfM hk he,jf,jg,jk];split <;> exact ⟨_,rfl⟩
theorem zza (hk:k < T.xs.length) (he:e≠0):q5w (((k:Int),d,e,a),T)=some (lit [],((k:Int),d,e,a),T):=by
 unfold q5w q9r;have h0:∀ i:Int,∀ s,zb (⟨[lit [60],lit [60,61],lit [61,61]],true⟩:Sl Ua) i=some s->0<=i->i < 3->q6y qu q14 (i,((k:Int),d,e,a),T,Sl.mk [lit [60],lit [60,61],lit [61,61]] true)=some (.next (i+1,((k:Int),d,e,a),T,Sl.mk [lit [60],lit [60,61],lit [61,61]] true)):=by
  intro i s hs h0 h3;unfold q6y;simp only [hs,yp hk he,jf,jg,jk];rw [jr (by simp [Sl.len];omega),zM (by omega) (by omega)]
 rw [zD (h0 0 _ rfl (by omega) (by omega)),zD (h0 (0+1) _ rfl (by omega) (by omega)),zD (h0 (0+1+1) _ rfl (by omega) (by omega)),zw (y :=.inr (((k:Int),d,e,a),T)) rfl];simp only [jf,ji,zcX he]
theorem zxx (hk:k < T.xs.length) (he:e≠0):∃ w,q2y (((k:Int),d,e,a),T)=some (((k:Int),d,e,a),T,w):=by
 unfold q2y q8t;simp only [Zp hk he,yp hk he,jf,jg,jk,UF,he,jq,jo,jl];grind
theorem zkp (hk:k < T.xs.length) (he:e≠0):∃ v,q2z (((k:Int),d,e,a),T)=some (v,((k:Int),d,e,a),T):=by
 obtain ⟨t,ht⟩:=zbM hk;unfold q2z q8u;simp only [ht,Zp hk he,yp hk he,zfL hk he,jf,jg,jk,UY,jl];grind
theorem zqs (hk:k < T.xs.length) (he:e≠0):∃ v,q5i (((k:Int),d,e,a),T)=some (v,((k:Int),d,e,a),T):=by
 obtain ⟨t,ht⟩:=zbM hk;obtain ⟨v,hv⟩:=zaJ (d:=d) (a:=a) hk he;unfold q5i q8v;simp only [ht,hv,Zp hk he,yp hk he,zko hk he,zfL hk he,zfM hk he,jf,jg,jk];grind
theorem zl0 (hk:k < T.xs.length) (he:e≠0) (hd : -1000<=d/\d<=1000) (j:Nat):∃ v w,q3s (j+1) (((k:Int),d,e,a),T)=some (v,((k:Int),d,e,a),T,w):=by
 obtain ⟨t,ht⟩:=zbM hk;show ∃ v w,q28 _ _ _ _ _ _=_
 unfold q28;simp only [ht,Zp hk he,zko hk he,jf,jg,jk];rw [Zr];simp only [q3t,he,jm,jg,jk,jf];rw [zM (n:=d+1) (by omega) (by omega),zM (by omega) (by omega),show d+1 - 1=d by omega];grind
theorem zxy (hk:k < T.xs.length) (he:e≠0):∃ v,q3o (((k:Int),d,e,a),T)=some (v,((k:Int),d,e,a),T):=by
 obtain ⟨t,ht⟩:=zbM hk;unfold q3o q8w;simp only [ht,yp hk he,jf,jg,jk];generalize ((0,lit [],0,0):Int×Ua×Int×Int)=z;have h0:∀ (i:Int) (s) (q:Int×Ua×Int×Int),zb (⟨[lit [99,111,117,110,116,101,100],lit [108,111,99,107],lit [103,117,97,114,100]],true⟩:Sl Ua) i=some s->0<=i->i < 3->q3f qu q11 q14 (i,((k:Int),d,e,a),T,z,q,Sl.mk [lit [99,111,117,110,116,101,100],lit [108,111,99,107],lit [103,117,97,114,100]] true)=some (.next (i+1,((k:Int),d,e,a),T,z,q,Sl.mk [lit [99,111,117,110,116,101,100],lit [108,111,99,107],lit [103,117,97,114,100]] true)):=by
  intro i s q hs h0 h3;unfold q3f;simp only [hs,yp hk he,jf,jg,jk];rw [jr (by simp [Sl.len];omega),zM (by omega) (by omega)]
 rw [zD (h0 0 _ _ rfl (by omega) (by omega)),zD (h0 (0+1) _ _ rfl (by omega) (by omega)),zD (h0 (0+1+1) _ _ rfl (by omega) (by omega)),zw (y :=.inr (((k:Int),d,e,a),T,z,_)) rfl];simp only [jf,ji,zcX he];grind
end
end
section
section
variable {T:Sl RTk}{d e a:Int}{k n:Nat}{ts:List Tk}
theorem RS.bd {f:α->List Tk->PR γ}{K:β->Uc δ}{mk:α->PS->β}{pk:β->PS}{mk':γ->PS->δ}{pk':δ->PS}(h:RS T d n r m mk pk)
    (hb:∀ (b:β) (k:Nat) (e a:Int),pk b=(((k:Int),d,e,a),T)->k < T.xs.length->e≠0->∃ c,K b=some c/\pk' c=(((k:Int),d,e,a),T))
    (hk:∀ a ts (k:Nat),r = .ok (a,ts)->GK T k ts->ts.length<=n->RS T d n' (f a ts) (K (mk a (((k:Int),d,0,0),T))) mk' pk'):RS T d n' (r.bd f) (m.bind K) mk' pk':=by
  cases r with
  |error e=>
    obtain ⟨b,k,rfl,h1,h2,h3⟩:=h;obtain ⟨c,e1,e2⟩:=hb b k _ _ h1 h2 h3;exact ⟨c,k,e1,e2,h2,h3⟩
  |ok p=>
    obtain ⟨a,ts⟩:=p;obtain ⟨k,rfl,g,l⟩:=h;exact hk a ts k rfl g l
theorem RS.ok {x:α}{mk:α->PS->β}{pk:β->PS}(g:GK T k ts) (l:ts.length<=n) (h:m=some (mk x (((k:Int),d,0,0),T))):RS T d n (.ok (x,ts)) m mk pk:=⟨k,h,g,l⟩
theorem RS.mono {mk:α->PS->β}{pk:β->PS}(h:RS T d n r m mk pk) (l:n<=n'):RS T d n' r m mk pk:=by
 cases r with
 |error e=>exact h
 |ok p=>obtain ⟨k,h1,h2,h3⟩:=h;exact ⟨k,h1,h2,Ut h3 l⟩
theorem PR.bd_assoc {g:β->List Tk->PR γ}:(r.bd f).bd g=r.bd fun a t=>(f a t).bd g:=by
 cases r <;> rfl
theorem PR.bd_ok {x:α}:PR.bd (.ok (x,t)) f=f x t:=rfl
theorem GK.is (g:GK T k ts) {s:List UInt8}(h:isP s ts=true):GK T (k+1) ts.tail/\ts.tail.length+1=ts.length:=g.tail (zeI h)
theorem zcY (g:GK T k ts) (s:List UInt8):q1k (lit s,((k:Int),d,0,0),T)=some (isP s ts,((k:Int),d,0,0),T):=by
 unfold q1k qab isP;simp only [g.idx,jf,jo,jl,jh,toR];grind
theorem Y3 (g:GK T k ts) (s:List UInt8):qu (lit s,((k:Int),d,0,0),T)=some (isP s ts,(((if isP s ts=true then k+1 else k:Nat):Int),d,0,0),T):=by
 unfold qu q9q;simp only [zcY g,jf];have:=g.b;cases h:isP s ts with
 |true=>simp only [jl,jf];rw [zx (by omega)]
 |false=>rfl
theorem Vl (g:GK T k ts) (c:Int):q14 (c,((k:Int),d,0,0),T)=some (((k:Int),d,c,(hd ts).a_),T):=by
 unfold q14 q8o;simp only [g.idx,jf,jo,jl,toR]
theorem Ya (g:GK T k ts) {s:List UInt8}{K:Bool×PS->Uc β}{p q:PR α}{mk:α->PS->β}{pk:β->PS}(h1:isP s ts=true->GK T (k+1) ts.tail->ts.tail.length+1=ts.length->RS T d n p (K (true,(((k+1:Nat):Int),d,0,0),T)) mk pk)
    (h0:isP s ts=false->RS T d n q (K (false,((k:Int),d,0,0),T)) mk pk):RS T d n (if isP s ts=true then p else q) ((qu (lit s,((k:Int),d,0,0),T)).bind K) mk pk:=by
  rw [Y3 g,jf];cases h:isP s ts with
  |true=>simp only [jl];exact h1 h (g.is h).1 (g.is h).2
  |false=>grind
theorem ye (g:GK T k ts) (s:List UInt8):RS T d (ts.length - 1) (zX s ts) (qy (lit s,((k:Int),d,0,0),T)) (fun _ st=>st) id:=by
 unfold qy q8p zX;refine Ya g (fun h g1 l =>.ok g1 (by omega) rfl) fun h=>?_
 simp only [UY,jl,Vl g,jf];exact ⟨_,k,rfl,rfl,g.lt,by simp [xJ]⟩
theorem yf (g:GK T k ts):RS T d (ts.length - 1) (Zc ts) (q11 (((k:Int),d,0,0),T)) (fun n st=>(ndT n,st)) Prod.snd:=by
 unfold q11 q8q Zc X5;simp only [g.idx,jf,UF,jp,jm,jg,jk,toR,jh];have:=g.b;by_cases h:(hd ts).k_=1
 ·obtain ⟨g1,l1⟩:=g.tail (by omega);simp only [h,jp,jl,jk];rw [zx (by omega)];exact .ok g1 (by omega) rfl
 ·simp only [h,jq,jl,jk];rw [Vl g];exact ⟨_,k,rfl,rfl,g.lt,by simp⟩
theorem wi (g:GK T k ts):RS T d (ts.length - 1) (X5 3 ts) (q27 (((k:Int),d,0,0),T)) (fun t st=>(t.N_,st)) Prod.snd:=by
 unfold q27 q7d X5;simp only [g.idx,jf,UF,jp,jm,jg,jk,toR,jh];have:=g.b;by_cases h:(hd ts).k_=3
 ·obtain ⟨g1,l1⟩:=g.tail (by omega);simp only [h,jp,jl,jk];rw [zx (by omega)];exact .ok g1 (by omega) rfl
 ·simp only [h,jq,jl,jk];rw [Vl g];exact ⟨_,k,rfl,rfl,g.lt,by simp [xJ]⟩
theorem wj (x:Int):1 * x=x:=by omega
theorem zl1 {t1:List Tk}{t:Tk}(g:TGood ts) (h:X5 3 ts = .ok (t,t1)):Ud (0 - t.N_) = -1 * t.N_:=by
 have:=zhz g h;rw [zM (by omega) (by omega)];omega
theorem zqt (m:Nd) (v:Int):rN (Nd.num m v)=⟨(rN m).k_,(rN m).T_,v,(rN m).a_,(rN m).K_⟩:=by cases m;simp [Nd.num,rN]
theorem zqu (g:GK T k ts) (m:Nd):RS T d ts.length (xK m ts) (q1y (rN m,((k:Int),d,0,0),T)) (fun n st=>(rN n,st)) Prod.snd:=by
 unfold q1y q8r xK Yh;refine Ya g (fun h g1 l=>?_) fun h=>?_
 ·simp only [jl,PR.bd_assoc,PR.bd_ok];refine (wi g1).bd ?_ fun t t1 k1 et g2 l2 =>.ok g2 (by omega) (by rw [zqt,wj])
  grind
 ·simp only [jg,jk];refine Ya g (fun h g1 l=>?_) fun h=>?_
  ·simp only [jl,PR.bd_assoc,PR.bd_ok,ga,jf];refine (wi g1).bd ?_ fun t t1 k1 et g2 l2 =>.ok g2 (by omega) (by rw [zqt,zl1 g1.g et])
   grind
  ·exact .ok g (by omega) (by simp only [jg,jk,jf,zk])
theorem XJ (n:Nd) (h:n.K_=nilS):q6.mk (ndT n).1 (ndT n).2.1 (ndT n).2.2.1 (ndT n).2.2.2 (Sl.mk [] false)=rN n:=by rw [yj,h,yo];rfl
theorem wS (g:GK T k ts):RS T d (ts.length - 1) (Z6 ts) (q1o (((k:Int),d,0,0),T)) (fun n st=>(rN n,st)) Prod.snd:=by
 unfold q1o q8s Z6 Yh;simp only [g.idx,jf,toR,jh];by_cases h3:(hd ts).k_=3
 ·rw [jr h3,jr h3];simp only [PR.bd_assoc,PR.bd_ok];refine (wi g).bd ?_ fun t t1 k1 et g2 l2 =>.ok g2 (by omega) (by rw [wj,yj,yo])
  grind
 ·rw [js h3,js h3];refine Ya g (fun h g1 l=>?_) fun h=>?_
  ·simp only [jl,PR.bd_assoc,PR.bd_ok];refine (wi g1).bd ?_ fun t t1 k1 et g2 l2 =>.ok g2 (by omega) (by rw [zl1 g1.g et,yj,yo])
   grind
  ·simp only [jg,jk];refine (yf g).bd ?_ fun m t1 k1 em g1 l1=>?_
   ·rintro ⟨v,_⟩ k e a rfl hk he;simp only [zfM hk he,jf];grind
   ·rw [XJ m (zH em)];simp only [zk];refine RS.mono (n:=t1.length) ?_ (by omega);rw [show ((q1y (rN m,((k1:Int),d,0,0),T)).bind fun y8=>some (y8.1,y8.2))=q1y (rN m,((k1:Int),d,0,0),T) from Option.bind_fun_some _];exact zqu g1 m
theorem zzb (g:GK T k ts):RS T d (ts.length - 1) (zbG ts) (q5w (((k:Int),d,0,0),T)) (fun s st=>(s,st)) Prod.snd:=by
  unfold q5w q9r
  have h0:∀ (i:Int) (s:List UInt8),zb (⟨[lit [60],lit [60,61],lit [61,61]],true⟩:Sl Ua) i=some (lit s)->0<=i->i < 3->q6y qu q14 (i,((k:Int),d,0,0),T,Sl.mk [lit [60],lit [60,61],lit [61,61]] true) =
      if isP s ts=true then some (.done (.inl (lit s,(((k+1:Nat):Int),d,0,0),T))) else some (.next (i+1,((k:Int),d,0,0),T,Sl.mk [lit [60],lit [60,61],lit [61,61]] true)):=by
    intro i s hs h0 h3;unfold q6y;simp only [hs,Y3 g,jf];rw [jr (by simp [Sl.len];omega)];cases h:isP s ts with
    |true=>grind
    |false=>simp only [jg,jk];rw [zM (by omega) (by omega)]
  unfold zbG;have e0:=h0 0 [60] rfl (by omega) (by omega);have e1:=h0 (0+1) [60,61] rfl (by omega) (by omega);have e2:=h0 (0+1+1) [61,61] rfl (by omega) (by omega);cases c0:isP [60] ts with
  |true=>rw [c0] at e0;rw [zw e0];exact .ok (g.is c0).1 (by grind) rfl
  |false=>
    rw [c0] at e0;rw [zD e0];cases c1:isP [60,61] ts with
    |true=>rw [c1] at e1;rw [zw e1];exact .ok (g.is c1).1 (by grind) rfl
    |false=>
      rw [c1] at e1;rw [zD e1];cases c2:isP [61,61] ts with
      |true=>rw [c2] at e2;rw [zw e2];exact .ok (g.is c2).1 (by grind) rfl
      |false=>
        rw [c2] at e2;rw [zD e2,zw (y :=.inr (((k:Int),d,0,0),T)) rfl];simp only [jf,ji,Vl g,jg,jk];exact ⟨_,k,rfl,rfl,g.lt,by simp⟩
def ndR (n:Nd) (st:PS):(Int×Ua×Int×Int)×(Int×Int×Int×Int)×Sl RTk×Sl RNd:=(ndT n,st.1,st.2,rS n.K_)
def pkR (b:(Int×Ua×Int×Int)×(Int×Int×Int×Int)×Sl RTk×Sl RNd):PS:=(b.2.1,b.2.2.1)
theorem zqv (g:GK T k ts):RS T d (ts.length - 1) (YM ts) (q1p (((k:Int),d,0,0),T)) ndR pkR:=by
 unfold q1p q6f YM;refine (wS g).bd ?_ fun a t1 k1 ea g1 l1=>?_
 ·rintro ⟨v,_⟩ k e a rfl hk he;obtain ⟨w,hw⟩:=zaJ (d:=d) (a:=a) hk he;simp only [zza hk he,hw,jf];exact ⟨_,rfl,rfl⟩
 refine (zzb g1).bd ?_ fun op t2 k2 _ g2 l2=>?_
 ·rintro ⟨v,_⟩ k e a rfl hk he;obtain ⟨w,hw⟩:=zaJ (d:=d) (a:=a) hk he;simp only [hw,jf];exact ⟨_,rfl,rfl⟩
 refine (wS g2).bd ?_ fun b t3 k3 eb g3 l3 =>.ok g3 (by omega) ?_
 ·rintro ⟨v,_⟩ k e a rfl hk he;exact ⟨_,rfl,rfl⟩
 simp only [zk,ndR,ndT,yn,Un,List.map_nil];rw [show (rN a).a_=a.a_ by rw [yj]]
theorem Yi {acc:List RNd}{x:RNd}(h:acc.length<=60000) (b:Bool):zp 64 (⟨acc,b⟩:Sl RNd) [x]=some ⟨acc++[x],true⟩:=by
 rw [Yg (by simp;omega) (by simp;omega)];simp
noncomputable abbrev wx:=q52 qy qu q1o
theorem zhE (hk:k < T.xs.length) (he:e≠0) (x:RNd) (acc:Sl RNd):lpO wx (((k:Int),d,e,a),T,x,acc)=some (((k:Int),d,e,a),T,acc):=
 zw (by unfold wx q52;simp only [yp hk he,jf,UY,jl])
theorem zhF:∀ (j:Nat) (ts:List Tk) (k:Nat) (x:RNd) (acc:List Nd),GK T k ts->ts.length<=j->acc.length+ts.length<=30000->
    RS T d ts.length (Zq Z6 j acc ts) (lpO wx (((k:Int),d,0,0),T,x,⟨acc.map rN,true⟩)) (fun l st=>(st.1,st.2,⟨l.map rN,true⟩)) (fun b=>(b.1,b.2.1))
  |0,ts,k,x,acc,g,hj,ha=>absurd (Uw (by omega)) g.g.ne
  |j+1,ts,k,x,acc,g,hj,ha=>by
    unfold Zq;cases h:isP [44] ts with
    |false=>
      rw [zw (y:=(((k:Int),d,0,0),T,⟨acc.map rN,true⟩)) (by unfold wx q52;simp only [Y3 g,h,jf,UY,jl,jg,jk])];exact .ok g (Ur _) rfl
    |true=>
      obtain ⟨g1,l1⟩:=g.is h;simp only [jl];have ht:=wS (d:=d) g1;cases e:Z6 ts.tail with
      |error er=>
        rw [e] at ht;obtain ⟨⟨v,_⟩,k1,e1,rfl,h2,h3⟩:=ht;have hn:wx (((k:Int),d,0,0),T,x,⟨acc.map rN,true⟩)=some (.next (((k1:Int),d,er.2,er.1),T,v,⟨acc.map rN++[v],true⟩)):=by
          unfold wx q52;simp only [Y3 g,h,jf,UJ,jl,jg,jk,e1,zk];rw [Yi (by simp;omega)];rfl
        rw [zD hn,zhE h2 h3];exact ⟨_,k1,rfl,rfl,h2,h3⟩
      |ok p=>
        obtain ⟨y,t1⟩:=p;rw [e] at ht;obtain ⟨k1,e1,g2,l2⟩:=ht;have hn:wx (((k:Int),d,0,0),T,x,⟨acc.map rN,true⟩)=some (.next (((k1:Int),d,0,0),T,rN y,⟨(acc++[y]).map rN,true⟩)):=by
          unfold wx q52;simp only [Y3 g,h,jf,UJ,jl,jg,jk,e1,zk];rw [Yi (by simp;omega)];simp
        rw [zD hn];exact (zhF j t1 k1 (rN y) (acc++[y]) g2 (by omega) (by simp;omega)).mono (by omega)
theorem zkq (g:GK T k ts):RS T d (ts.length - 1) (VK ts) (q2y (((k:Int),d,0,0),T)) (fun ks st=>(st.1,st.2,rS ks)) (fun b=>(b.1,b.2.1)):=by
 unfold q2y q8t VK;refine (ye g [40]).bd ?_ fun _ t1 k1 _ g1 l1=>?_
 ·rintro _ k e a rfl hk he;simp only [yp hk he,jf,jg,jk,UF,he,jq,jo,jl,id];grind
 refine Ya g1 (fun h g2 l2=>?_) fun h=>?_
 ·simp only [jl,jf];exact .ok g2 (by omega) (by rw [yo])
 simp only [jg,jk,jf,UF,jp,jm];unfold Z7;rw [PR.bd_assoc];have hb:=g1.b;refine (wS g1).bd ?_ fun x t2 k2 ex g2 l2=>?_
 ·rintro ⟨v,_⟩ k e a rfl hk he;simp only [zk];rw [zhE hk he];simp only [jf,Zp hk he];grind
 simp only [zk];refine (zhF (d:=d) t1.length t2 k2 (rN x) [x] g2 (by omega) (by simp;omega)).bd ?_ fun l t3 k3 _ g3 l3=>?_
 ·rintro ⟨p,q,w⟩ k e a hp hk he;simp only [Prod.mk.injEq] at hp;obtain ⟨rfl,rfl⟩:=hp;simp only [Zp hk he,jf];grind
 refine (ye g3 [41]).bd ?_ fun _ t4 k4 _ g4 l4 =>.ok g4 (by omega) (by rw [yn])
 grind
end
end
section
section
variable {T:Sl RTk}{d e a:Int}{k n:Nat}{ts:List Tk}
theorem wT (n:Nd):rS ⟨[n],true⟩=⟨[rN n],true⟩:=by rw [yn];rfl
theorem Xf (k:Int) (t:Ua) (n a:Int) (s:Sl Nd):rN ⟨k,t,n,a,s⟩=⟨k,t,n,a,rS s⟩:=by unfold rN;rfl
theorem zqw (g:GK T k ts):RS T d (ts.length - 1) (wR ts) (q2z (((k:Int),d,0,0),T)) (fun n st=>(rN n,st)) Prod.snd:=by
 unfold q2z q8u wR;simp only [g.idx,jf,toR];refine Ya g (fun h g1 l1=>?_) fun h=>?_
 ·simp only [jl];exact .ok g1 (by omega) (by rw [yj,yo])
 simp only [jg,jk];refine Ya g (fun h g1 l1=>?_) fun h=>?_
 ·simp only [UJ,jg,jk,jf];refine (yf g1).bd ?_ fun m t1 k1 em g2 l2 =>.ok g2 (by omega) ?_
  ·grind
  ·rw [XJ m (zH em),Xf,wT]
 simp only [UY,jl,ga];refine (ye g [38]).bd ?_ fun _ t1 k1 _ g1 l1=>?_
 ·rintro _ k e a rfl hk he;simp only [yp hk he,zfL hk he,jf,jg,jk,id];grind
 refine Ya g1 (fun h g2 l2=>?_) fun h=>?_
 ·simp only [jl,jf];refine (yf g2).bd ?_ fun m t2 k2 em g3 l3 =>.ok g3 (by omega) ?_
  ·grind
  ·rw [XJ m (zH em),Xf,wT]
 ·simp only [jg,jk,jf];refine (yf g1).bd ?_ fun m t2 k2 em g3 l3 =>.ok g3 (by omega) ?_
  ·grind
  ·rw [XJ m (zH em),Xf,wT]
theorem GK.idx1 (g:GK T (k+1) ts) (hk:k < 30000):zb T (Ud ((k:Int)+1))=some (toR (hd ts)):=by
 rw [zx (by omega),g.idx]
theorem zxz (g:GK T k ts):RS T d (ts.length - 1) (vf ts) (q5i (((k:Int),d,0,0),T)) (fun n st=>(rN n,st)) Prod.snd:=by
  unfold q5i q8v vf;simp only [g.idx,jf,toR];have hb:=g.b;refine Ya g (fun h g1 l1=>?_) fun h=>?_
  · simp only [jl];unfold Yh;rw [PR.bd_assoc];refine (wi g1).bd ?_ fun t t1 k1 et g2 l2 =>.ok g2 (by omega) (by rw [wj,yj,yo])
    grind
  simp only [jg,jk];refine Ya g (fun h g1 l1=>?_) fun h=>?_
  · simp only [jl];refine (yf g1).bd ?_ fun m t1 k1 em g2 l2 =>.ok g2 (by omega) (by rw [yj,yo];rfl)
    grind
  simp only [jg,jk];refine Ya g (fun h g1 l1=>?_) fun h=>?_
  · simp only [jl];refine Ya g1 (fun h g2 l2=>?_) fun h=>?_
    · simp only [jl,jf];refine (yf g2).bd ?_ fun m t1 k1 em g3 l3 =>.ok g3 (by omega) (by rw [yj,yo];rfl)
      grind
    · simp only [jg,jk,jf];refine (yf g1).bd ?_ fun m t1 k1 em g3 l3 =>.ok g3 (by omega) (by rw [yj,yo];rfl)
      grind
  simp only [jg,jk,g.idx,jf,toR,jh,zk];by_cases hk:(hd ts).k_=1
  case neg=>
    simp only [UF,hk,jq,jl,Option.bind_fun_some];rw [show ((q1o (((k:Int),d,0,0),T)).bind fun y=>some (y.1,y.2))=q1o (((k:Int),d,0,0),T) from Option.bind_fun_some _];exact wS g
  simp only [UF,hk,jp,jk];refine (yf g).bd ?_ fun m t1 k1 em g1 l1=>?_
  ·rintro ⟨v,_⟩ k e a rfl hk he;simp only [zko hk he,yp hk he,zfM hk he,jf,jg,jk];grind
  simp only [zcY g1,jf];cases h4:isP [40] t1 with
  |true=>
    simp only [jl];refine RS.mono (n:=t1.length - 1) ?_ (by omega);refine (zkq g1).bd ?_ fun ks t2 k2 _ g2 l2 =>.ok g2 (by omega) (by rw [yj];rfl)
    rintro ⟨p,q,w⟩ k e a hp hk he;grind
  |false=>
  simp only [jg,jk];refine Ya g1 (fun h g2 l2=>?_) fun h=>?_
  · simp only [jl];refine (wS g2).bd ?_ fun x t2 k2 _ g3 l3=>?_
    ·rintro ⟨v,_⟩ k e a rfl hk he;simp only [Zp hk he,jf];grind
    refine (ye g3 [93]).bd ?_ fun _ t4 k4 _ g4 l4 =>.ok g4 (by omega) (by rw [Xf,wT];rfl)
    grind
  simp only [jg,jk,zcY g1,jf];have hb1:=g1.b
  have two:∀ {g2:GK T (k1+1) t1.tail} (q:Int),RS T d (ts.length - 1) ((Zc t1.tail).bd fun b t2 =>.ok ((⟨q,lit [],0,m.a_,⟨[m,b],true⟩⟩:Nd),t2))
      ((q11 ((Ud ((k1:Int)+1),d,0,0),T)).bind fun y=>some (q6.mk q (lit []) 0 (ndT m).2.2.2 (Sl.mk [q6.mk (ndT m).1 (ndT m).2.1 (ndT m).2.2.1 (ndT m).2.2.2 (Sl.mk [] false),q6.mk y.1.1 y.1.2.1 y.1.2.2.1 y.1.2.2.2 (Sl.mk [] false)] true),y.2)) (fun n st=>(rN n,st)) Prod.snd:=by
    intro g2 q;rw [zx (by omega)];have:=g2.b;have h0:=Df.2 g1.g.ne;refine (yf g2).bd ?_ fun b t2 k2 eb g3 l3 =>.ok g3 (by grind) ?_
    ·grind
    ·rw [XJ m (zH em),XJ b (zH eb),yj ⟨q,_,_,_,_⟩,yn];rfl
  have fin:RS T d (ts.length - 1) (xK m t1) ((q1y (q6.mk (ndT m).1 (ndT m).2.1 (ndT m).2.2.1 (ndT m).2.2.2 (Sl.mk [] false),((k1:Int),d,0,0),T)).bind fun y=>some (y.1,y.2)) (fun n st=>(rN n,st)) Prod.snd:=by
    rw [XJ m (zH em)];rw [show ((q1y (rN m,((k1:Int),d,0,0),T)).bind fun y=>some (y.1,y.2))=q1y (rN m,((k1:Int),d,0,0),T) from Option.bind_fun_some _];exact (zqu g1 m).mono (by omega)
  cases hp:isP [43] t1 with
  |true=>
    have hm:=zgR hp;obtain ⟨g2,l2⟩:=g1.is hp;simp only [hm,jl,Uo,jg,false_and,jk,jf,g2.idx1 (by omega),toR,jh];by_cases h1:(hd t1.tail).k_=1
    ·simp only [h1,jl,ga,jf];exact two (g2:=g2) 21
    grind
  |false=>
    cases hq:isP [45] t1 with
    |true=>
      obtain ⟨g2,l2⟩:=g1.is hq;simp only [jl,Uo,jg,false_and,jk,jf,g2.idx1 (by omega),toR,jh];by_cases h1:(hd t1.tail).k_=1
      ·simp only [h1,jl,ga,jf];exact two (g2:=g2) 22
      grind
    |false=>
      grind
theorem zvJ (g:GK T k ts):RS T d (ts.length - 1) ((Zc ts).bd WT) (q6g (((k:Int),d,0,0),T)) ndR pkR:=by
 unfold q6g qb2;refine (yf g).bd ?_ fun m t1 k1 em g1 l1=>?_
 ·rintro ⟨v,_⟩ k e a rfl hk he;obtain ⟨w,hw⟩:=zqs (d:=d) (a:=a) hk he;simp only [zko hk he,yp hk he,Zp hk he,hw,jf,jg,jk];exact ⟨_,rfl,rfl⟩
 refine RS.mono (n:=t1.length - 1) ?_ (by omega);have h0:=Df.2 g1.g.ne;unfold WT;simp only [zcY g1,jf];cases h4:isP [40] t1 with
 |true=>
  simp only [jl];refine (zkq g1).bd ?_ fun ks t2 k2 _ g2 l2 =>.ok g2 (by omega) ?_
  ·rintro ⟨p,q,w⟩ k e a hp hk he;simp only [Prod.mk.injEq] at hp;obtain ⟨rfl,rfl⟩:=hp;exact ⟨_,rfl,rfl⟩
  ·simp only [ndR,wT,yj];rfl
 |false=>
 simp only [jg,jk];refine Ya g1 (fun h g2 l2=>?_) fun h=>?_
 ·simp only [jl];refine (wS g2).bd ?_ fun x t2 k2 _ g3 l3=>?_
  ·rintro ⟨v,_⟩ k e a rfl hk he;obtain ⟨w,hw⟩:=zaJ (d:=d) (a:=a) hk he;simp only [Zp hk he,hw,jf];exact ⟨_,rfl,rfl⟩
  refine (ye g3 [93]).bd ?_ fun _ t4 k4 _ g4 l4=>?_
  ·rintro _ k e a rfl hk he;obtain ⟨w,hw⟩:=zaJ (d:=d) (a:=a) hk he;simp only [Zp hk he,hw,jf,id];exact ⟨_,rfl,rfl⟩
  refine (ye g4 [61]).bd ?_ fun _ t5 k5 _ g5 l5=>?_
  ·rintro _ k e a rfl hk he;obtain ⟨w,hw⟩:=zaJ (d:=d) (a:=a) hk he;simp only [hw,jf,id];exact ⟨_,rfl,rfl⟩
  refine (wS g5).bd ?_ fun y t6 k6 _ g6 l6 =>.ok g6 (by omega) ?_
  ·rintro ⟨v,_⟩ k e a rfl hk he;exact ⟨_,rfl,rfl⟩
  ·simp only [ndR,yn,zk];rfl
 simp only [jg,jk];refine (ye g1 [61]).bd ?_ fun _ t5 k5 _ g5 l5=>?_
 ·rintro _ k e a rfl hk he;obtain ⟨w,hw⟩:=zqs (d:=d) (a:=a) hk he;simp only [hw,jf,id];exact ⟨_,rfl,rfl⟩
 refine (zxz g5).bd ?_ fun y t6 k6 _ g6 l6 =>.ok g6 (by omega) ?_
 ·rintro ⟨v,_⟩ k e a rfl hk he;exact ⟨_,rfl,rfl⟩
 ·simp only [ndR,yn,zk];rfl
end
end
section
section
variable {T:Sl RTk}{d e a:Int}{k n:Nat}{ts:List Tk}
abbrev zkr:=PS->Uc ((Int×Ua×Int×Int)×(Int×Int×Int×Int)×Sl RTk×Sl RNd)
structure BlkR (T:Sl RTk) (d:Int) (h:zkr) (blk:List Tk->PR Nd):Prop where
 g:∀ {ts k},GK T k ts->RS T d (ts.length - 1) (blk ts) (h (((k:Int),d,0,0),T)) ndR pkR
 b:∀ {k:Nat} {e a:Int},k < T.xs.length->e≠0->∃ v w,h (((k:Int),d,e,a),T)=some (v,((k:Int),d,e,a),T,w)
variable {h:zkr}{blk:List Tk->PR Nd}
theorem zsB {sz:Nat}{s s':Sl RNd}{l:List RNd}(h:zp sz s l=some s'):s'.xs=s.xs++l:=by
 unfold zp at h;grind
theorem RS.bdq {f:α->List Tk->PR γ}{K:β->Uc δ}{mk:α->PS->β}{pk:β->PS}{mk':γ->PS->δ}{pk':δ->PS}(h:RS T d n r m mk pk)
    (hb:∀ (b:β) (k:Nat) (e a:Int),m=some b->pk b=(((k:Int),d,e,a),T)->k < T.xs.length->e≠0->∃ c,K b=some c/\pk' c=(((k:Int),d,e,a),T))
    (hk:∀ a ts (k:Nat),r = .ok (a,ts)->GK T k ts->ts.length<=n->RS T d n' (f a ts) (K (mk a (((k:Int),d,0,0),T))) mk' pk'):RS T d n' (r.bd f) (m.bind K) mk' pk':=by
  cases r with
  |error e=>
    obtain ⟨b,k,rfl,h1,h2,h3⟩:=h;obtain ⟨c,e1,e2⟩:=hb b k _ _ rfl h1 h2 h3;exact ⟨c,k,e1,e2,h2,h3⟩
  |ok p=>
    obtain ⟨a,ts⟩:=p;obtain ⟨k,rfl,g,l⟩:=h;exact hk a ts k rfl g l
theorem zks {st:PS}{b} (hb:q1p st=some b):b.2.2.2.xs.length=2:=by
 unfold q1p q6f at hb;obtain ⟨x,_,hb⟩:=jy hb;obtain ⟨y,_,hb⟩:=jy hb;obtain ⟨z,_,hb⟩:=jy hb;cases hb;rfl
theorem zkt {x} {b} (hb:q1q h x=some b):b.2.2.2.xs.length=3:=by
 unfold q1q q4a at hb;obtain ⟨x,hx,hb⟩:=jy hb;obtain ⟨y,_,hb⟩:=jy hb;obtain ⟨z,hz,hb⟩:=jy hb;cases hb;have:=zsB hz;have h2:=zks hx;grind
theorem zku (hb:BlkR T d h blk) (g:GK T k ts) (q at_:Int):RS T d (ts.length - 1) (wu blk q at_ ts) (q1q h (q,at_,((k:Int),d,0,0),T)) ndR pkR:=by
 unfold q1q q4a wu;refine (zqv g).bdq ?_ fun m t1 k1 em g1 l1=>?_
 ·rintro ⟨v,p,q,w⟩ k e a hm hp hk he;have h2:=zks hm;simp only [pkR,Prod.mk.injEq] at hp;obtain ⟨rfl,rfl⟩:=hp;obtain ⟨v2,w2,hw⟩:=hb.b (a:=a) hk he;obtain ⟨wl,wb⟩:=w;simp only [hw,jf];rw [Yi (by grind)];exact ⟨_,rfl,rfl⟩
 obtain ⟨x,y,hk⟩:=zbI em;refine (hb.g g1).bd ?_ fun b t2 k2 eb g2 l2 =>.ok g2 (by omega) ?_
 ·rintro ⟨v,p,q,w⟩ k e a hp hk2 he;simp only [pkR,Prod.mk.injEq] at hp;obtain ⟨rfl,rfl⟩:=hp;simp only [ndR,hk,yn];rw [Yi (by simp)];exact ⟨_,rfl,rfl⟩
 ·simp only [ndR,hk,yn,ndT];rw [Yi (by simp)];simp only [jf,Un,List.map_nil,Dc,List.cons_append,UK];rw [yj b,yn]
theorem Zy (x y:List UInt8):(lit x=lit y)=(x=y):=propext ⟨fun h=>by have:=congrArg bs h;simpa [XZ] using this,fun h=>by rw [h]⟩
theorem zsC (g:GK T k ts) {w:List UInt8}(hw:∃ c∈w,isL c=true):isP w ts=decide ((if (hd ts).k_=2 then (hd ts).T_ else lit [])=lit w):=by
 obtain ⟨c,hc,hl⟩:=hw;unfold isP;by_cases h2:(hd ts).k_=2
 ·simp [h2]
 ·simp only [h2,jm,De,jk,Zy];have e1:decide ([]=w)=false:=by
   grind
  rw [e1];by_cases h4:(hd ts).k_=4
  ·have hm:hd ts∈ts:=by
    match ts,g.g with
    |[],g=>exact absurd rfl g.ne
    |t::r,_=>simp [hd]
   have hne:¬ (hd ts).T_=lit w:=by
    intro e;have:=g.sg _ hm h4 c (by rw [e,XZ];exact hc);grind
   simp [hne]
  ·simp [h4]
theorem VM (g:GK T k ts) (m:Nd):RS T d (ts.length - 1) (Wt m ts) ((qy (lit [59],((k:Int),d,0,0),T)).bind fun y=>some (ndT m,y.1,y.2,rS m.K_)) ndR pkR:=by
 unfold Wt;refine (ye g [59]).bd ?_ fun _ t1 k1 _ g1 l1 =>.ok g1 (by omega) rfl
 rintro _ k e a rfl hk he;exact ⟨_,rfl,rfl⟩
end
end
section
section
variable {T:Sl RTk}{d e a:Int}{k n:Nat}{ts:List Tk}
variable {h:zkr}{blk:List Tk->PR Nd}
set_option maxHeartbeats 2000000 in
theorem zxA (hb:BlkR T d h blk) (g:GK T k ts):RS T d (ts.length - 1) (YN blk ts) (q2s h (((k:Int),d,0,0),T)) ndR pkR:=by
 unfold q2s q6h;simp only [g.idx,jf,toR,jh];have hgb:=g.b;obtain ⟨F,hF⟩:∃ F,F=(if (hd ts).k_=2 then (hd ts).T_ else lit []):=⟨_,rfl⟩
 have e1:(if (hd ts).k_=2 then some ((hd ts).a_,(hd ts).T_,((k:Int),d,(0:Int),(0:Int)),T,(0:Int),lit [],(0:Int),(0:Int)) else some ((hd ts).a_,lit [],((k:Int),d,0,0),T,0,lit [],0,0))=some ((hd ts).a_,F,((k:Int),d,0,0),T,0,lit [],0,0):=by
  grind
 have is:∀ w:List UInt8,(∃ c∈w,isL c=true)->isP w ts=decide (F=lit w):=fun w hw=>by rw [hF];exact zsC g hw
 rw [e1];simp only [jf];clear e1 hF;unfold YN;rw [is [102,114,101,101] ⟨102,by simp,rfl⟩,is [108,111,99,107] ⟨108,by simp,rfl⟩,is [117,110,108,111,99,107] ⟨117,by simp,rfl⟩,is [105,102] ⟨105,by simp,rfl⟩,is [119,104,105,108,101] ⟨119,by simp,rfl⟩,is [114,101,116,117,114,110] ⟨114,by simp,rfl⟩,is [97,98,111,114,116] ⟨97,by simp,rfl⟩,is [102,111,114,107] ⟨102,by simp,rfl⟩];have gk:∀ w:List UInt8,(∃ c∈w,isL c=true)->F=lit w->GK T (k+1) ts.tail/\ts.tail.length+1=ts.length:=fun w hw e=>g.is (s:=w) (by grind)
 have hw1:=zx (k:=k) (by omega);by_cases h1:F=lit [102,114,101,101]
 ·obtain ⟨g1,l1⟩:=gk _ ⟨102,by simp,rfl⟩ h1;subst h1;simp (decide:=true) only [Zy,hw1,ga,jf,jj,ji,jo,jl,jk,jg,jm];refine (yf g1).bd ?_ fun m t1 k1 em g2 l2=>?_
  ·rintro ⟨v,_⟩ k e a rfl hk he;simp only [Zp hk he,jf];exact ⟨_,rfl,rfl⟩
  refine RS.mono (n:=t1.length - 1) ?_ (by omega);obtain ⟨t,t',_,e3⟩:=bd_ok em;have:=VM (d:=d) g2 ⟨12,m.T_,m.N_,(hd ts).a_,nilS⟩;rw [yo] at this;cases e3;exact this
 by_cases h2:F=lit [108,111,99,107]
 ·obtain ⟨g1,l1⟩:=gk _ ⟨108,by simp,rfl⟩ h2;subst h2;simp (decide:=true) only [Zy,hw1,ga,jf,jj,ji,jo,jl,jk,jg,jm];unfold atP Yh;simp only [PR.bd_assoc,PR.bd_ok];refine (yf g1).bd ?_ fun m t1 k1 em g2 l2=>?_
  ·rintro ⟨v,_⟩ k e a rfl hk he;simp only [Zp hk he,xL hk he,jf];exact ⟨_,rfl,rfl⟩
  refine (ye g2 [91]).bd ?_ fun _ t2 k2 _ g3 l3=>?_
  ·rintro _ k e a rfl hk he;simp only [Zp hk he,xL hk he,jf,id];exact ⟨_,rfl,rfl⟩
  refine (wi g3).bd ?_ fun t t3 k3 _ g4 l4=>?_
  ·rintro ⟨v,_⟩ k e a rfl hk he;simp only [Zp hk he,xL hk he,jf,id];exact ⟨_,rfl,rfl⟩
  refine (ye g4 [93]).bd ?_ fun _ t5 k5 _ g5 l5=>?_
  ·rintro _ k e a rfl hk he;simp only [Zp hk he,xL hk he,jf,id];exact ⟨_,rfl,rfl⟩
  refine RS.mono (n:=t5.length - 1) ?_ (by omega);have:=VM (d:=d) g5 ⟨13,m.T_,1 * t.N_,(hd ts).a_,nilS⟩;rw [yo,wj] at this;rw [wj];exact this
 by_cases h3:F=lit [117,110,108,111,99,107]
 ·obtain ⟨g1,l1⟩:=gk _ ⟨117,by simp,rfl⟩ h3;subst h3;simp (decide:=true) only [Zy,hw1,ga,jf,jj,ji,jo,jl,jk,jg,jm];unfold atP Yh;simp only [PR.bd_assoc,PR.bd_ok];refine (yf g1).bd ?_ fun m t1 k1 em g2 l2=>?_
  ·rintro ⟨v,_⟩ k e a rfl hk he;simp only [Zp hk he,xL hk he,jf];exact ⟨_,rfl,rfl⟩
  refine (ye g2 [91]).bd ?_ fun _ t2 k2 _ g3 l3=>?_
  ·rintro _ k e a rfl hk he;simp only [Zp hk he,xL hk he,jf,id];exact ⟨_,rfl,rfl⟩
  refine (wi g3).bd ?_ fun t t3 k3 _ g4 l4=>?_
  ·rintro ⟨v,_⟩ k e a rfl hk he;simp only [Zp hk he,xL hk he,jf,id];exact ⟨_,rfl,rfl⟩
  refine (ye g4 [93]).bd ?_ fun _ t5 k5 _ g5 l5=>?_
  ·rintro _ k e a rfl hk he;simp only [Zp hk he,xL hk he,jf,id];exact ⟨_,rfl,rfl⟩
  refine RS.mono (n:=t5.length - 1) ?_ (by omega);have:=VM (d:=d) g5 ⟨14,m.T_,1 * t.N_,(hd ts).a_,nilS⟩;rw [yo,wj] at this;rw [wj];exact this
 by_cases h4:F=lit [105,102]
 ·obtain ⟨g1,l1⟩:=gk _ ⟨105,by simp,rfl⟩ h4;subst h4;simp (decide:=true) only [Zy,hw1,ga,jf,jj,ji,jo,jl,jk,jg,jm];refine (zku hb g1 15 (hd ts).a_).bdq ?_ fun m t1 k1 em g2 l2=>?_
  ·rintro ⟨v,p,q,w⟩ k e a hm hp hk he;have h3:=zkt hm;simp only [pkR,Prod.mk.injEq] at hp;obtain ⟨rfl,rfl⟩:=hp;obtain ⟨wl,wb⟩:=w;simp only [yp hk he,jf,jg,jk];rw [Yi (by grind)];exact ⟨_,rfl,rfl⟩
  obtain ⟨x,y,z,hk⟩:=zcU em;simp only [ndR,hk,yn];refine Ya g2 (fun h5 g3 l3=>?_) fun h5=>?_
  ·simp only [jl,ga,jf];refine (hb.g g3).bd ?_ fun b t2 k2 eb g4 l4 =>.ok g4 (by omega) ?_
   ·rintro ⟨v,p,q,w⟩ k e a hp hk2 he;simp only [pkR,Prod.mk.injEq] at hp;obtain ⟨rfl,rfl⟩:=hp;rw [Yi (by simp)];exact ⟨_,rfl,rfl⟩
   ·simp only [ndR,hk,yn,ndT];rw [Yi (by simp)];simp only [jf,jj,Un,List.map_nil,Dc,List.cons_append,UK];rw [yj b,yn]
  ·simp only [jg,jk,jf];rw [Yi (by simp)];refine .ok g2 (by omega) ?_;simp only [ndR,hk,yn,ndT,jf,jj,Un,List.map_nil,Dc,List.cons_append,UK,Xf]
 by_cases h5:F=lit [119,104,105,108,101]
 ·obtain ⟨g1,l1⟩:=gk _ ⟨119,by simp,rfl⟩ h5;subst h5;simp (decide:=true) only [Zy,hw1,ga,jf,jj,ji,jo,jl,jk,jg,jm];rw [show ((q1q h (16,(hd ts).a_,(((k+1:Nat):Int),d,0,0),T)).bind fun y=>some (y.1,y.2.1,y.2.2.1,y.2.2.2))=q1q h (16,(hd ts).a_,(((k+1:Nat):Int),d,0,0),T) from Option.bind_fun_some _];exact (zku hb g1 16 (hd ts).a_).mono (by omega)
 by_cases h6:F=lit [114,101,116,117,114,110]
 ·obtain ⟨g1,l1⟩:=gk _ ⟨114,by simp,rfl⟩ h6;subst h6;simp (decide:=true) only [Zy,hw1,ga,jf,jj,ji,jo,jl,jk,jg,jm,zcY g1];cases h7:isP [59] ts.tail with
  |true=>
   simp only [UJ,jg,jk,jl,jf,ji];have:=VM (d:=d) g1 ⟨17,lit [],0,(hd ts).a_,nilS⟩;rw [yo] at this;exact this.mono (by omega)
  |false=>
   simp only [UY,jg,jk,jl,ga,jf,ji];refine (wS g1).bd ?_ fun x t2 k2 _ g3 l3=>?_
   ·rintro ⟨v,_⟩ k e a rfl hk he;simp only [Zp hk he,jf];exact ⟨_,rfl,rfl⟩
   have:=VM (d:=d) g3 ⟨17,lit [],0,(hd ts).a_,⟨[x],true⟩⟩;rw [wT] at this;simp only [zk];exact this.mono (by omega)
 by_cases h7:F=lit [97,98,111,114,116]
 ·obtain ⟨g1,l1⟩:=gk _ ⟨97,by simp,rfl⟩ h7;subst h7;simp (decide:=true) only [Zy,hw1,ga,jf,jj,ji,jo,jl,jk,jg,jm];have:=VM (d:=d) g1 ⟨18,lit [],0,(hd ts).a_,nilS⟩;rw [yo] at this;exact this.mono (by omega)
 by_cases h8:F=lit [102,111,114,107]
 ·obtain ⟨g1,l1⟩:=gk _ ⟨102,by simp,rfl⟩ h8;subst h8;simp (decide:=true) only [Zy,hw1,ga,jf,jj,ji,jo,jl,jk,jg,jm];refine (yf g1).bd ?_ fun m t1 k1 em g2 l2=>?_
  ·rintro ⟨v,_⟩ k e a rfl hk he;obtain ⟨w,hw⟩:=zxx (d:=d) (a:=a) hk he;simp only [hw,Zp hk he,jf];exact ⟨_,rfl,rfl⟩
  refine (zkq g2).bd ?_ fun ks t2 k2 _ g3 l3=>?_
  ·rintro ⟨p,q,w⟩ k e a hp hk he;simp only [Prod.mk.injEq] at hp;obtain ⟨rfl,rfl⟩:=hp;simp only [Zp hk he,jf];exact ⟨_,rfl,rfl⟩
  refine RS.mono (n:=t2.length - 1) ?_ (by omega);obtain ⟨t,t',_,e3⟩:=bd_ok em;have:=VM (d:=d) g3 ⟨19,m.T_,m.N_,(hd ts).a_,ks⟩;cases e3;exact this
 simp only [h1,h2,h3,h4,h5,h6,h7,h8,ga,jf,jm,jk,jg];rw [<- PR.bd_assoc];refine (zvJ g).bd ?_ fun m t1 k1 em g2 l2=>?_
 ·rintro ⟨v,p,q,w⟩ k e a hp hk he;simp only [pkR,Prod.mk.injEq] at hp;obtain ⟨rfl,rfl⟩:=hp;simp only [Zp hk he,jf,ji];exact ⟨_,rfl,rfl⟩
 have:=VM (d:=d) g2 m;simp only [ji];exact this.mono (by omega)
end
end
section
section
variable {T:Sl RTk}{d e a:Int}{k n:Nat}{ts:List Tk}
variable {h:zkr}{blk:List Tk->PR Nd}
theorem xx {acc:List Nd}{x:RNd}(h:acc.length<=30000):zp 64 (rS (mkS acc)) [x]=some ⟨acc.map rN++[x],true⟩:=by
 rw [yn,Yg (by simp [mkS];omega) (by simp [mkS];omega)];simp [mkS]
theorem zfN (acc:List Nd) (x:Nd):(⟨acc.map rN++[rN x],true⟩:Sl RNd)=rS (mkS (acc++[x])):=by
 rw [yn];simp [mkS]
noncomputable abbrev zcZ (h:zkr):=q3t q1k q14 qy qu (q2s h)
theorem VN (he:e≠0) (p:Int) (u v:Int×Ua×Int×Int) (acc:Sl RNd):lpO (zcZ h) ((p,d,e,a),T,u,v,acc)=some ((p,d,e,a),T,u,v,acc):=
 zw (by unfold zcZ q3t;grind)
theorem zqx (hb:BlkR T d h blk) {u v:Int×Ua×Int×Int}:∀ (j:Nat) (ts:List Tk) (k:Nat) (acc:List Nd),GK T k ts->ts.length<=j->acc.length+ts.length<=30000->
    RS T d (ts.length - 1) (xw (YN blk) j acc ts) (lpO (zcZ h) (((k:Int),d,0,0),T,u,v,rS (mkS acc))) (fun l st=>(st.1,st.2,u,v,rS (mkS l))) (fun b=>(b.1,b.2.1))
  |0,ts,k,acc,g,hj,ha=>absurd (Uw (by omega)) g.g.ne
  |j+1,ts,k,acc,g,hj,ha=>by
    unfold xw;cases h2:isP [125] ts with
    |true=>
      obtain ⟨g1,l1⟩:=g.is h2;rw [zw (y:=((((k+1:Nat):Int),d,0,0),T,u,v,rS (mkS acc))) (by unfold zcZ q3t;simp only [Y3 g,h2,jf,jo,jl])];exact .ok g1 (by omega) rfl
    |false=>
      simp only [jg,jk];have hs:=zxA hb g;cases es:YN blk ts with
      |error er=>
        rw [es] at hs;obtain ⟨⟨w,p,q,ks⟩,k1,e1,hp,h3,h4⟩:=hs;simp only [pkR,Prod.mk.injEq] at hp;obtain ⟨rfl,hq⟩:=hp;obtain rfl:T=q:=hq.symm;have hn:zcZ h (((k:Int),d,0,0),T,u,v,rS (mkS acc))=some (.next (((k1:Int),d,er.2,er.1),T,u,v,⟨acc.map rN++[⟨w.1,w.2.1,w.2.2.1,w.2.2.2,ks⟩],true⟩)):=by
          unfold zcZ q3t;simp only [Y3 g,h2,jf,jo,jl,jg,jk,e1];rw [xx (acc:=acc) (by omega)];rfl
        rw [zD hn,VN h4];exact ⟨_,k1,rfl,rfl,h3,h4⟩
      |ok p=>
        obtain ⟨x,t1⟩:=p;rw [es] at hs;obtain ⟨k1,e1,g1,l1⟩:=hs;have hn:zcZ h (((k:Int),d,0,0),T,u,v,rS (mkS acc))=some (.next (((k1:Int),d,0,0),T,u,v,rS (mkS (acc++[x])))):=by
          unfold zcZ q3t;simp only [Y3 g,h2,jf,jo,jl,jg,jk,e1,ndR,ndT];rw [xx (acc:=acc) (by grind),show q6.mk x.k_ x.T_ x.N_ x.a_ (rS x.K_)=rN x from (yj x).symm,zfN];rfl
        have hpos:=Df.2 g.g.ne;rw [zD hn];exact (zqx hb j t1 k1 (acc++[x]) g1 (by omega) (by simp;omega)).mono (by omega)
theorem zl2:∀ (r:Nat) (j:Nat) (d:Int),d=8 - (r:Int)->0<=d->r+1<=j->BlkR T d (q3s j) (yd r)
 |r,0,d,_,_,hk=>by omega
 |0,j+1,d,hd',h0,hk=>by
  refine ⟨fun {ts k} g=>?_,fun {k e a} h1 h2=>zl0 h1 h2 (by omega) j⟩;show RS T d _ _ (q28 _ _ _ _ _ _) _ _;unfold q28 yd;simp only [g.idx,zcY g,jf,toR];have hw:Ud (d+1)=d+1:=zM (by omega) (by omega);have hw2:Ud (d+1 - 1)=d:=by rw [zM (by omega) (by omega)];omega
  cases e:isP [123] ts with
  |true=>
   have:decide (8<=d)=true:=gc (by omega);simp only [jl,jf,this,Vl g,Zp g.lt (show (21:Int)≠0 by decide)];rw [VN (by decide)];simp only [jf,hw,hw2];exact ⟨_,k,rfl,rfl,g.lt,by simp [xJ]⟩
  |false=>
   simp only [jg,jk,jf];have hm:zX [123] ts = .error ((hd ts).a_,20):=by unfold zX;rw [e];rfl
   have:=ye (d:=d) g [123];rw [hm] at this;obtain ⟨b,k1,e1,rfl,h3,h4⟩:=this;rw [e1];simp only [jf,id];rw [VN h4];simp only [jf,hw,hw2];exact ⟨_,k1,rfl,rfl,h3,h4⟩
 |r+1,j+1,d,hd',h0,hk=>by
  refine ⟨fun {ts k} g=>?_,fun {k e a} h1 h2=>zl0 h1 h2 (by omega) j⟩;show RS T d _ _ (q28 _ _ _ _ _ _) _ _;unfold q28 yd;simp only [g.idx,zcY g,jf,toR];have hw:Ud (d+1)=d+1:=zM (by omega) (by omega);have hw2:Ud (d+1 - 1)=d:=by rw [zM (by omega) (by omega)];omega
  have h8:decide (8<=d)=false:=decide_eq_false (by omega);have hb:=zl2 r j (d+1) (by omega) (by omega) (by omega);have hgb:=g.b;have e1:(if isP [123] ts=true then some (decide (8<=d),((k:Int),d,(0:Int),(0:Int)),T,((0,lit [],0,0):Int×Ua×Int×Int),((9,lit [],0,(hd ts).a_):Int×Ua×Int×Int)) else some (false,((k:Int),d,0,0),T,(0,lit [],0,0),(9,lit [],0,(hd ts).a_)))=some (false,((k:Int),d,0,0),T,(0,lit [],0,0),(9,lit [],0,(hd ts).a_)):=by
   grind
  rw [e1];simp only [jf,jg,jk];refine (ye g [123]).bd ?_ fun _ t1 k1 _ g1 l1=>?_
  ·rintro _ k e a rfl hk he;simp only [id];rw [VN he];simp only [jf,hw,hw2];exact ⟨_,rfl,rfl⟩
  simp only [hw];have lp:=zqx hb (u:=(0,lit [],0,0)) (v:=(9,lit [],0,(hd ts).a_)) t1.length t1 k1 [] g1 (Ur _) (by grind);rw [show rS (mkS ([]:List Nd))=⟨[],false⟩ by rw [yn];rfl] at lp;cases es:xw (YN (yd r)) t1.length [] t1 with
  |error er=>
   rw [es] at lp;obtain ⟨⟨p,q,w⟩,k2,e2,hp,h3,h4⟩:=lp;simp only [Prod.mk.injEq] at hp;obtain ⟨rfl,hq⟩:=hp;obtain rfl:T=q:=hq.symm;rw [e2];simp only [jf,hw2];exact ⟨_,k2,rfl,rfl,h3,h4⟩
  |ok p=>
   obtain ⟨l,t2⟩:=p;rw [es] at lp;obtain ⟨k2,e2,g2,l2⟩:=lp;rw [e2];simp only [jf,hw2];exact .ok g2 (by omega) rfl
theorem zfO:BlkR T 0 q53 (yd 8):=zl2 8 100000 0 (by omega) (by omega) (by omega)
end
end
section
section
variable {T:Sl RTk}{d e a:Int}{k n:Nat}{ts:List Tk}{z hdr:Int×Ua×Int×Int}
abbrev LSt:=(Int×Int×Int×Int)×Sl RTk×(Int×Ua×Int×Int)×(Int×Ua×Int×Int)×Sl RNd
def LQ (T:Sl RTk) (d:Int) (n:Nat) (r:PR (List Nd)) (m:Uc LSt) (z hdr:Int×Ua×Int×Int):Prop:=match r with
 | .error e=>∃ (k:Nat) (w:Sl RNd),m=some (((k:Int),d,e.2,e.1),T,z,hdr,w)/\k < T.xs.length/\e.2≠0/\w.xs.length<=30001
 | .ok (l,ts)=>∃ k:Nat,m=some (((k:Int),d,0,0),T,z,hdr,rS (mkS l))/\GK T k ts/\ts.length<=n/\l.length+ts.length<=30001
theorem LQ.bd {r:PR (List Nd)}{f:List Nd->List Tk->PR γ}{m:Uc LSt}{K:LSt->Uc δ}{mk':γ->PS->δ}{pk':δ->PS}(h:LQ T d n r m z hdr)
    (hb:∀ (k:Nat) (e a:Int) (w:Sl RNd),k < T.xs.length->e≠0->w.xs.length<=30001->∃ c,K (((k:Int),d,e,a),T,z,hdr,w)=some c/\pk' c=(((k:Int),d,e,a),T))
    (hk:∀ l ts (k:Nat),r = .ok (l,ts)->GK T k ts->ts.length<=n->l.length+ts.length<=30001->RS T d n' (f l ts) (K (((k:Int),d,0,0),T,z,hdr,rS (mkS l))) mk' pk'):RS T d n' (r.bd f) (m.bind K) mk' pk':=by
  cases r with
  |error e=>
    obtain ⟨k,w,rfl,h1,h2,h3⟩:=h;obtain ⟨c,e1,e2⟩:=hb k _ _ w h1 h2 h3;exact ⟨c,k,e1,e2,h1,h2⟩
  |ok p=>
    obtain ⟨l,ts⟩:=p;obtain ⟨k,rfl,g,l1,l2⟩:=h;exact hk l ts k rfl g l1 l2
theorem LQ.mono {r:PR (List Nd)}{m:Uc LSt}(h:LQ T d n r m z hdr) (l:n<=n'):LQ T d n' r m z hdr:=by
 cases r with
 |error e=>exact h
 |ok p=>obtain ⟨k,h1,h2,h3,h4⟩:=h;exact ⟨k,h1,h2,Ut h3 l,h4⟩
def znM (T:Sl RTk) (d:Int) (one:List Tk->PR Nd) (f:PS->Uc (RNd×PS)):Prop:=∀ {ts k},GK T k ts->RS T d (ts.length - 1) (one ts) (f (((k:Int),d,0,0),T)) (fun n st=>(rN n,st)) Prod.snd
noncomputable def zfP (st:PS):Uc (RNd×PS):=(q11 st).bind fun y5=>(qy (lit [58],y5.2)).bind fun y6=>(q2z y6).bind fun y7=>
 some (q6.mk 7 y5.1.2.1 y5.1.2.2.1 y5.1.2.2.2 (Sl.mk [y7.1] true),y7.2)
theorem zvK:znM T d xv zfP:=by
 intro ts k g;unfold zfP xv;refine (yf g).bd ?_ fun m t1 k1 em g1 l1=>?_
 ·rintro ⟨v,_⟩ k e a rfl hk he;obtain ⟨w,hw⟩:=zkp (d:=d) (a:=a) hk he;simp only [Zp hk he,hw,jf];grind
 refine (ye g1 [58]).bd ?_ fun _ t2 k2 _ g2 l2=>?_
 ·rintro _ k e a rfl hk he;obtain ⟨w,hw⟩:=zkp (d:=d) (a:=a) hk he;grind
 refine (zqw g2).bd ?_ fun x t3 k3 _ g3 l3 =>.ok g3 (by omega) ?_
 ·grind
 ·rw [Xf,wT];rfl
noncomputable abbrev Vm:=qac q11 qy qu q2z q1k q14 q53
noncomputable def zdr (f:PS->Uc (RNd×PS)) (cl:Ua) (fl:Bool->Bool) (x:PS) (z hdr:Int×Ua×Int×Int) (w:Sl RNd):Uc (Step (Bool×LSt) LSt):=
 (f x).bind fun y=>(zp 64 w [y.1]).bind fun w'=>(qu (lit [44],y.2)).bind fun y9=>
  (if (!y9.1)=true then (qy (cl,y9.2)).bind fun y10=>some (fl y9.1,y10.1,y10.2,z,hdr,w') else some (fl y9.1,y9.2.1,y9.2.2,z,hdr,w')).bind fun y11=>some (Step.next y11)
theorem zc0 {f:PS->Uc (RNd×PS)}(hf:znM T d one f) {cl:List UInt8}{fl:Bool->Bool}{body:Bool×LSt->Uc (Step (Bool×LSt) LSt)}
    (h1:∀ (k:Nat) w,body (fl true,((k:Int),d,0,0),T,z,hdr,w)=zdr f (lit cl) fl (((k:Int),d,0,0),T) z hdr w)
    (h0:∀ (p:Int×Int×Int×Int) w,body (fl false,p,T,z,hdr,w)=some (.done (p,T,z,hdr,w))):∀ (j:Nat) (ts:List Tk) (k:Nat) (acc:List Nd),GK T k ts->ts.length<=j->acc.length+ts.length<=30000->
    LQ T d (ts.length - 1) ((one ts).bd fun a t1=>(Zq one j (acc++[a]) t1).bd fun l t2=>(zX cl t2).bd fun _ t3 =>.ok (l,t3)) (lpO body (fl true,((k:Int),d,0,0),T,z,hdr,rS (mkS acc))) z hdr
  |0,ts,k,acc,g,hj,ha=>absurd (Uw (by omega)) g.g.ne
  |j+1,ts,k,acc,g,hj,ha=>by
    have hpos:=Df.2 g.g.ne;have hr:=hf g;have hb:=h1 k (rS (mkS acc));unfold zdr at hb;cases e:one ts with
    |error er=>
      rw [e] at hr;obtain ⟨⟨v,_⟩,k1,e1,rfl,h3,h4⟩:=hr;rw [e1] at hb;simp only [jf] at hb;rw [xx (acc:=acc) (by omega)] at hb;simp only [jf,yp h3 h4,UY,jl,Zp h3 h4] at hb;rw [zD hb,zw (h0 _ _)];exact ⟨k1,_,rfl,h3,h4,by simp;omega⟩
    |ok p=>
      obtain ⟨x,t1⟩:=p;rw [e] at hr;obtain ⟨k1,e1,g1,l1⟩:=hr;rw [e1] at hb;simp only [jf] at hb;rw [xx (acc:=acc) (by omega),zfN] at hb;simp only [jf,Y3 g1] at hb;rw [PR.bd_ok];unfold Zq;have hpos1:=Df.2 g1.g.ne;cases h44:isP [44] t1 with
      |true=>
        obtain ⟨g2,l2⟩:=g1.is h44;rw [h44] at hb;simp only [UJ,jg,jk,jl,jf] at hb;rw [zD hb];simp only [jl,PR.bd_assoc];exact (zc0 hf h1 h0 j t1.tail (k1+1) (acc++[x]) g2 (by omega) (by simp;omega)).mono (by omega)
      |false=>
        rw [h44] at hb;simp only [UY,jg,jk,jl,jf] at hb;simp only [jg,jk,PR.bd_ok];have hm:=ye (d:=d) g1 cl;cases em:zX cl t1 with
        |error er=>
          rw [em] at hm;obtain ⟨b,k2,e2,hp,h3,h4⟩:=hm;simp only [id] at hp;subst hp;rw [e2] at hb;simp only [jf] at hb;rw [zD hb,zw (h0 _ _)];exact ⟨k2,_,rfl,h3,h4,by rw [yn];simp [mkS];omega⟩
        |ok p=>
          obtain ⟨u,t2⟩:=p;rw [em] at hm;obtain ⟨k2,e2,g2,l2⟩:=hm;rw [e2] at hb;simp only [jf] at hb;rw [zD hb,zw (h0 _ _)];exact ⟨k2,rfl,g2,by omega,by simp;omega⟩
theorem zsD (k:Nat) (w:Sl RNd):Vm (false,((k:Int),d,0,0),T,z,hdr,w)=zdr zfP (lit [41]) (fun b=> !b) (((k:Int),d,0,0),T) z hdr w:=by
 unfold Vm qac zdr zfP;simp only [UY,jl,jo,jf,ga,zk];congr 1;funext y5;grind
theorem zkv (p:Int×Int×Int×Int) (w:Sl RNd):Vm (true,p,T,z,hdr,w)=some (.done (p,T,z,hdr,w)):=rfl
end
end
section
section
variable {T:Sl RTk}{d e a:Int}{k n:Nat}{ts:List Tk}{z hdr:Int×Ua×Int×Int}
theorem PR.bd_ite {c:Prop}[Decidable c] {p q:PR α}:PR.bd (if c then p else q) f=if c then p.bd f else q.bd f:=by split <;> rfl
theorem zkw:rS (mkS ([]:List Nd))=⟨[],false⟩:=by rw [yn];rfl
theorem zqy {w:Sl RNd}{x:RNd}(h:w.xs.length<=40000):∃ w',zp 64 w [x]=some w'/\w'.xs.length=w.xs.length+1:=by
 rw [Yg (by simp;omega) (by simp;omega)];grind
theorem zl3 (he:e≠0) (p:Int) (w:Sl RNd):lpO Vm (false,(p,d,e,a),T,z,hdr,w)=some ((p,d,e,a),T,z,hdr,w):=
 zw (by unfold Vm qac;grind)
theorem zsE (g:GK T k ts) (hl:ts.length<=25000):LQ T d ts.length ((if isP [41] ts=true then .ok ([],ts) else Z7 xv ts:PR (List Nd)).bd fun ps t3=>(zX [41] t3).bd fun _ t4 =>.ok (ps,t4))
    ((qu (lit [41],((k:Int),d,0,0),T)).bind fun y2=>lpO Vm (y2.1,y2.2.1,y2.2.2,z,hdr,Sl.mk [] false)) z hdr:=by
  rw [Y3 g,jf];cases h:isP [41] ts with
  |true=>
    obtain ⟨g1,l1⟩:=g.is h;have hm:zX [41] ts = .ok ((),ts.tail):=by unfold zX;rw [jr h]
    simp only [jl,PR.bd_ok,hm];rw [zw (zkv _ _)];exact ⟨k+1,by rw [zkw],g1,by omega,by simp;omega⟩
  |false=>
    simp only [jg,jk];unfold Z7;rw [PR.bd_assoc,<- zkw];exact (zc0 (fl:=fun b=> !b) (body:=Vm) (z:=z) (hdr:=hdr) zvK zsD zkv ts.length ts k [] g (Ur _) (by simp;omega)).mono (by omega)
def zkx (t4:List Tk):PR Nd:=if isP [45,62] t4=true then (if isP [38] t4.tail=true then xJ 20 t4.tail else wR t4.tail) else .ok (⟨8,lit [],0,(hd t4).a_,nilS⟩,t4)
theorem zqz (at_:Int) (ts:List Tk):fnP at_ ts=(Zc ts).bd fun n t1=>(zX [40] t1).bd fun _ t2=>
    ((if isP [41] t2=true then .ok ([],t2) else Z7 xv t2:PR (List Nd)).bd fun ps t3=>(zX [41] t3).bd fun _ t4 =>.ok (ps,t4)).bd fun ps t4=>
    (zkx t4).bd fun ret t5=>(yd 8 t5).bd fun b t6 =>.ok (⟨6,n.T_,n.N_,at_,⟨ps++[ret,b],true⟩⟩,t6):=by
  unfold fnP zkx;simp only [PR.bd_assoc,PR.bd_ok]
theorem zAs (g:GK T k ts) (hl:ts.length<=25000) (at_:Int):RS T 0 (ts.length - 1) (fnP at_ ts) (q6i (at_,((k:Int),0,0,0),T)) ndR pkR:=by
  unfold q6i qcq;rw [zqz]
  have tl:∀ {k:Nat} {e a:Int} {w:Sl RNd} {z hdr:Int×Ua×Int×Int},k < T.xs.length->e≠0->w.xs.length<=30001->∃ c,((zb T (k:Int)).bind fun y13=>(zb T (k:Int)).bind fun y14=>(qu (lit [45,62],((k:Int),0,e,a),T)).bind fun y15=>
      (if y15.1=true then (q1k (lit [38],y15.2)).bind fun y16=>(if y16.1=true then (q14 (20,y16.2)).bind fun y17=>some (y17.1,y17.2,z,hdr,((8,lit [],0,y14.a_):Int×Ua×Int×Int),w) else some (y16.2.1,y16.2.2,z,hdr,(8,lit [],0,y14.a_),w)).bind fun y18=>
        (q2z (y18.1,y18.2.1)).bind fun y19=>some (y19.2.1,y19.2.2,y18.2.2.1,y18.2.2.2.1,kr y19.1,y18.2.2.2.2.2)
      else some (y15.2.1,y15.2.2,z,hdr,q6.mk 8 (lit []) 0 y14.a_ (Sl.mk [] false),w)).bind fun y20=>
      (q53 (y20.1,y20.2.1)).bind fun y21=>(zp 64 y20.2.2.2.2.2 [kr y20.2.2.2.2.1]).bind fun y22=>
      (zp 64 y22 [q6.mk y21.1.1 y21.1.2.1 y21.1.2.2.1 y21.1.2.2.2 y21.2.2.2]).bind fun y23=>some (y20.2.2.2.1,y21.2.1,y21.2.2.1,y23))=some c/\pkR c=(((k:Int),0,e,a),T):=by
    intro k e a w z hdr hk he hw;obtain ⟨t,ht⟩:=zbM hk;obtain ⟨v2,w2,hb⟩:=zfO.b (a:=a) hk he;simp only [ht,yp hk he,hb,jf,jg,jk];obtain ⟨w3,e3,l3⟩:=zqy (w:=w) (x:=q6.mk 8 (lit []) 0 t.a_ (Sl.mk [] false)) (by omega);obtain ⟨w4,e4,l4⟩:=zqy (w:=w3) (x:=q6.mk v2.1 v2.2.1 v2.2.2.1 v2.2.2.2 w2) (by omega);simp only [e3,e4,jf];exact ⟨_,rfl,rfl⟩
  refine (yf g).bd ?_ fun m t1 k1 em g1 l1=>?_
  ·rintro ⟨v,_⟩ k e a rfl hk he;simp only [Zp hk he,yp hk he,jf];rw [zl3 he];simp only [jf];exact tl hk he (by simp)
  refine (ye g1 [40]).bd ?_ fun _ t2 k2 _ g2 l2=>?_
  ·rintro _ k e a rfl hk he;simp only [yp hk he,jf,id];rw [zl3 he];simp only [jf];exact tl hk he (by simp)
  rw [<- ga];refine (zsE g2 (by omega)).bd ?_ fun ps t4 k4 _ g4 l4 l4b=>?_
  ·intro k e a w hk he hw;exact tl hk he hw
  have hpos:=Df.2 g4.g.ne;simp only [g4.idx,jf,toR]
  have fin:∀ {t5:List Tk} {k5:Nat} (ret:Nd),GK T k5 t5->t5.length<=t4.length->RS T 0 (ts.length - 1) ((yd 8 t5).bd fun b t6 =>.ok (⟨6,m.T_,m.N_,at_,⟨ps++[ret,b],true⟩⟩,t6))
      ((q53 (((k5:Int),0,0,0),T)).bind fun y21=>(zp 64 (rS (mkS ps)) [rN ret]).bind fun y22=>
      (zp 64 y22 [q6.mk y21.1.1 y21.1.2.1 y21.1.2.2.1 y21.1.2.2.2 y21.2.2.2]).bind fun y23=>some (((6,m.T_,m.N_,at_):Int×Ua×Int×Int),y21.2.1,y21.2.2.1,y23)) ndR pkR:=by
    intro t5 k5 ret g5 l5;rw [xx (acc:=ps) (by omega)];refine (zfO.g g5).bd ?_ fun b t6 k6 _ g6 l6 =>.ok g6 (by omega) ?_
    ·rintro ⟨v,p,q,w⟩ k e a hp hk he;simp only [pkR,Prod.mk.injEq] at hp;obtain ⟨rfl,rfl⟩:=hp;simp only [jf];rw [Yi (by simp;omega)];exact ⟨_,rfl,rfl⟩
    ·simp only [jf,ndR,ndT];rw [Yi (by simp;omega),show q6.mk b.k_ b.T_ b.N_ b.a_ (rS b.K_)=rN b from (yj b).symm,yn];simp
  unfold zkx;rw [PR.bd_ite];refine Ya g4 (fun h5 g5 l5=>?_) fun h5=>?_
  · simp only [jl,zcY g5,jf];cases h6:isP [38] t4.tail with
    |true=>
      simp only [jl,Vl g5,jf];obtain ⟨v,hv⟩:=zkp (d:=0) (a:=(hd t4.tail).a_) g5.lt (show (20:Int)≠0 by decide);obtain ⟨v2,w2,hb⟩:=zfO.b (a:=(hd t4.tail).a_) g5.lt (show (20:Int)≠0 by decide);simp only [hv,hb,jf,zk];rw [xx (acc:=ps) (by omega)];simp only [jf];rw [Yi (by simp;omega)];exact ⟨_,_,rfl,rfl,g5.lt,by simp [xJ]⟩
    |false=>
      simp only [jg,jk,jf,ga];refine (zqw g5).bd ?_ fun ret t5 k5 _ g6 l6=>?_
      ·rintro ⟨v,_⟩ k e a rfl hk he;obtain ⟨v2,w2,hb⟩:=zfO.b (a:=a) hk he;simp only [hb,jf,zk];rw [xx (acc:=ps) (by omega)];simp only [jf];rw [Yi (by simp;omega)];exact ⟨_,rfl,rfl⟩
      ·simp only [zk];exact fin ret g6 (by omega)
  ·simp only [jg,jk,jf];rw [show q6.mk 8 (lit []) 0 (hd t4).a_ (Sl.mk [] false)=rN ⟨8,lit [],0,(hd t4).a_,nilS⟩ by rw [Xf,yo]];simp only [zk,PR.bd_ok];exact fin _ g4 (by omega)
end
end
section
section
variable {T:Sl RTk}{d e a:Int}{k n:Nat}{ts:List Tk}{z hdr:Int×Ua×Int×Int}
theorem zxB (g:GK T k ts):RS T d (ts.length - 1) (WH ts) (q3o (((k:Int),d,0,0),T)) (fun n st=>(rN n,st)) Prod.snd:=by
  unfold q3o q8w WH;simp only [g.idx,jf,toR];refine Ya g (fun h g1 l1=>?_) fun h=>?_
  ·simp only [jl];exact .ok g1 (by omega) (by rw [Xf,yo])
  simp only [jg,jk];refine Ya g (fun h g1 l1=>?_) fun h=>?_
  ·simp only [jl];exact .ok g1 (by omega) (by rw [Xf,yo])
  simp only [jg,jk];have no:∀ (i:Int) (s:List UInt8) (z q:Int×Ua×Int×Int),zb (⟨[lit [99,111,117,110,116,101,100],lit [108,111,99,107],lit [103,117,97,114,100]],true⟩:Sl Ua) i=some (lit s)->0<=i->i < 3->isP s ts=false->q3f qu q11 q14 (i,((k:Int),d,0,0),T,z,q,Sl.mk [lit [99,111,117,110,116,101,100],lit [108,111,99,107],lit [103,117,97,114,100]] true)=some (.next (i+1,((k:Int),d,0,0),T,z,q,Sl.mk [lit [99,111,117,110,116,101,100],lit [108,111,99,107],lit [103,117,97,114,100]] true)):=by
    intro i s z q hs h0 h3 hi;unfold q3f;simp only [hs,Y3 g,hi,jf,jg,jk];rw [jr (by simp [Sl.len];omega),zM (by omega) (by omega)]
  have yes:∀ (i:Int) (s:List UInt8),zb (⟨[lit [99,111,117,110,116,101,100],lit [108,111,99,107],lit [103,117,97,114,100]],true⟩:Sl Ua) i=some (lit s)->0<=i->i < 3->isP s ts=true->
      RS T d (ts.length - 1) ((Zc ts.tail).bd fun k t1 =>.ok (⟨2,(hd ts).T_,0,(hd ts).a_,⟨[k],true⟩⟩,t1)) ((lpO (q3f qu q11 q14) (i,((k:Int),d,0,0),T,((0,lit [],0,0):Int×Ua×Int×Int),(2,(hd ts).T_,0,(hd ts).a_),Sl.mk [lit [99,111,117,110,116,101,100],lit [108,111,99,107],lit [103,117,97,114,100]] true)).bind fun y11=>
        Sum.elim (fun y12=>some (q6.mk y12.2.2.1.1 y12.2.2.1.2.1 y12.2.2.1.2.2.1 y12.2.2.1.2.2.2 y12.2.2.2,y12.1,y12.2.1)) (fun y13=>(q14 (20,y13.1,y13.2.1)).bind fun y14=>some (q6.mk y13.2.2.2.1 y13.2.2.2.2.1 y13.2.2.2.2.2.1 y13.2.2.2.2.2.2 (Sl.mk [] false),y14)) y11) (fun n st=>(rN n,st)) Prod.snd:=by
    intro i s hs h0 h3 hi;obtain ⟨g1,l1⟩:=g.is hi
    have hb:q3f qu q11 q14 (i,((k:Int),d,0,0),T,(0,lit [],0,0),(2,(hd ts).T_,0,(hd ts).a_),Sl.mk [lit [99,111,117,110,116,101,100],lit [108,111,99,107],lit [103,117,97,114,100]] true) =
        (q11 ((((k+1:Nat):Int),d,0,0),T)).bind fun y10=>some (.done (.inl (y10.2.1,y10.2.2,(2,(hd ts).T_,0,(hd ts).a_),Sl.mk [q6.mk y10.1.1 y10.1.2.1 y10.1.2.2.1 y10.1.2.2.2 (Sl.mk [] false)] true))):=by
      unfold q3f;simp only [hs,Y3 g,hi,jf,jl];rw [jr (by simp [Sl.len];omega)]
    have hr:=yf (d:=d) g1;cases e:Zc ts.tail with
    |error er=>
      rw [e] at hr;obtain ⟨⟨v,_⟩,k1,e1,rfl,h5,h6⟩:=hr;rw [e1,jf] at hb;rw [zw hb];exact ⟨_,k1,rfl,rfl,h5,h6⟩
    |ok p=>
      obtain ⟨m,t1⟩:=p;rw [e] at hr;obtain ⟨k1,e1,g2,l2⟩:=hr;rw [e1,jf] at hb;rw [zw hb];refine .ok g2 (by omega) ?_;simp only [jf,jj];rw [XJ m (zH e),Xf,wT]
  cases h3:isP [99,111,117,110,116,101,100] ts with
  |true=>exact yes 0 _ rfl (by omega) (by omega) h3
  |false=>
  rw [zD (no 0 _ _ _ rfl (by omega) (by omega) h3)];simp only [jg,jk];cases h4:isP [108,111,99,107] ts with
  |true=>exact yes (0+1) _ rfl (by omega) (by omega) h4
  |false=>
  rw [zD (no (0+1) _ _ _ rfl (by omega) (by omega) h4)];simp only [jg,jk];cases h5:isP [103,117,97,114,100] ts with
  |true=>exact yes (0+1+1) _ rfl (by omega) (by omega) h5
  |false=>
  rw [zD (no (0+1+1) _ _ _ rfl (by omega) (by omega) h5),zw (y :=.inr (((k:Int),d,0,0),T,_,_)) rfl];simp only [jg,jk,jf,ji,Vl g];exact ⟨_,k,rfl,rfl,g.lt,by simp [xJ]⟩
noncomputable def zds (f:PS->Uc ((Int×Ua×Int×Int)×(Int×Int×Int×Int)×Sl RTk×Sl RNd)) (st:PS):Uc (RNd×PS):=
 (f st).bind fun y=>some (q6.mk y.1.1 y.1.2.1 y.1.2.2.1 y.1.2.2.2 y.2.2.2,y.2.1,y.2.2.1)
theorem zqA {f:PS->Uc ((Int×Ua×Int×Int)×(Int×Int×Int×Int)×Sl RTk×Sl RNd)}(h:∀ {ts k},GK T k ts->RS T d (ts.length - 1) (one ts) (f (((k:Int),d,0,0),T)) ndR pkR):znM T d one (zds f):=by
 intro ts k g;have hr:=h g;unfold zds;cases e:one ts with
 |error er=>
  rw [e] at hr;obtain ⟨⟨v,p,q,w⟩,k1,e1,hp,h5,h6⟩:=hr;rw [e1];exact ⟨_,k1,rfl,hp,h5,h6⟩
 |ok p=>
  obtain ⟨m,t1⟩:=p;rw [e] at hr;obtain ⟨k1,e1,g2,l2⟩:=hr;rw [e1];exact .ok g2 l2 (by simp only [jf,ndR,ndT];rw [yj])
theorem zvL (g:GK T k ts):RS T d (ts.length - 1) (xu ts) (q3g (((k:Int),d,0,0),T)) ndR pkR:=by
 unfold q3g qb3 xu;refine (yf g).bd ?_ fun m t1 k1 em g1 l1=>?_
 ·rintro ⟨v,_⟩ k e a rfl hk he;simp only [yp hk he,jf,jg,jk];exact ⟨_,rfl,rfl⟩
 refine Ya g1 (fun h g2 l2=>?_) fun h=>?_
 ·simp only [jl,ga,jf];refine (yf g2).bd ?_ fun x t3 k3 ex g3 l3=>?_
  ·rintro ⟨v,_⟩ k e a rfl hk he;simp only [Zp hk he,jf];exact ⟨_,rfl,rfl⟩
  refine (ye g3 [93]).bd ?_ fun _ t4 k4 _ g4 l4 =>.ok g4 (by omega) ?_
  ·rintro _ k e a rfl hk he;exact ⟨_,rfl,rfl⟩
  ·simp only [ndR,wT];rw [XJ x (zH ex)];rfl
 ·simp only [jg,jk,jf];exact .ok g1 (by omega) (by simp only [ndR,yo];rfl)
noncomputable abbrev vE:=qc5 q11 q3o qu q3g qy q1p
noncomputable abbrev Wu:=qc6 q11 q3o qu q3g qy q1p
theorem zzc (k:Nat) (w:Sl RNd):vE (true,((k:Int),d,0,0),T,z,hdr,w)=zdr (zds q3g) (lit [125]) (fun b=>b) (((k:Int),d,0,0),T) z hdr w:=by
 unfold vE qc5 zdr zds;grind
theorem znN (p:Int×Int×Int×Int) (w:Sl RNd):vE (false,p,T,z,hdr,w)=some (.done (p,T,z,hdr,w)):=rfl
theorem zzd (p:Int×Int×Int×Int) (w:Sl RNd):Wu (true,p,T,z,hdr,w)=(zds q1p (p,T)).bind fun y=>(zp 64 w [y.1]).bind fun w'=>(qu (lit [44],y.2)).bind fun y9=>some (.next (y9.1,y9.2.1,y9.2.2,z,hdr,w')):=by
 unfold Wu qc6 zds;grind
theorem zh3 (p:Int×Int×Int×Int) (w:Sl RNd):Wu (false,p,T,z,hdr,w)=some (.done (p,T,z,hdr,w)):=rfl
theorem zfQ:∀ (j:Nat) (ts:List Tk) (k:Nat) (acc:List Nd),GK T k ts->ts.length<=j->acc.length+ts.length<=30000->
    LQ T d (ts.length - 1) ((YM ts).bd fun a t1=>Zq YM j (acc++[a]) t1) (lpO Wu (true,((k:Int),d,0,0),T,z,hdr,rS (mkS acc))) z hdr
  |0,ts,k,acc,g,hj,ha=>absurd (Uw (by omega)) g.g.ne
  |j+1,ts,k,acc,g,hj,ha=>by
    have hpos:=Df.2 g.g.ne;have hr:=zqA (T:=T) (d:=d) (one:=YM) (f:=q1p) (fun g=>zqv g) g;have hb:=zzd (T:=T) (z:=z) (hdr:=hdr) ((k:Int),d,0,0) (rS (mkS acc));cases e:YM ts with
    |error er=>
      rw [e] at hr;obtain ⟨⟨v,_⟩,k1,e1,rfl,h3,h4⟩:=hr;rw [e1] at hb;simp only [jf] at hb;rw [xx (acc:=acc) (by omega)] at hb;simp only [jf,yp h3 h4] at hb;rw [zD hb,zw (zh3 _ _)];exact ⟨k1,_,rfl,h3,h4,by simp;omega⟩
    |ok p=>
      obtain ⟨x,t1⟩:=p;rw [e] at hr;obtain ⟨k1,e1,g1,l1⟩:=hr;rw [e1] at hb;simp only [jf] at hb;rw [xx (acc:=acc) (by omega),zfN] at hb;simp only [jf,Y3 g1] at hb;rw [PR.bd_ok];unfold Zq;have hpos1:=Df.2 g1.g.ne;cases h44:isP [44] t1 with
      |true=>
        obtain ⟨g2,l2⟩:=g1.is h44;rw [h44] at hb;simp only [jl] at hb;rw [zD hb];simp only [jl];exact (zfQ j t1.tail (k1+1) (acc++[x]) g2 (by omega) (by simp;omega)).mono (by omega)
      |false=>
        rw [h44] at hb;simp only [jg,jk] at hb;simp only [jg,jk];rw [zD hb,zw (zh3 _ _)];exact ⟨k1,rfl,g1,by omega,by simp;omega⟩
end
end
section
section
variable {T:Sl RTk}{d e a:Int}{k n:Nat}{ts:List Tk}{z hdr:Int×Ua×Int×Int}
theorem Vn (p:List Nd):∀ (j:Nat) (acc:List Nd) (ts:List Tk),Zq one j (p++acc) ts=(Zq one j acc ts).bd fun l t =>.ok (p++l,t)
 |0,acc,ts=>rfl
 |j+1,acc,ts=>by
  unfold Zq;cases isP [44] ts with
  |false=>rfl
  |true=>
   simp only [jl,PR.bd_assoc];congr 1;funext a t;rw [U8];exact Vn p j (acc++[a]) t
theorem zxC {l:List α}(h:l≠[]):mkS l=⟨l,true⟩:=by cases l;exact absurd rfl h;rfl
def Wv (s:Nd) (t2:List Tk):PR (List Nd):=if isP [123] t2=true then (Z7 xu t2.tail).bd fun l t3=>(zX [125] t3).bd fun _ t4 =>.ok ([s]++l,t4) else .ok ([s],t2)
def zaK (ks:List Nd) (t5:List Tk):PR (List Nd):=if isP [119,104,101,114,101] t5=true then (Z7 YM t5.tail).bd fun l t6 =>.ok (ks++l,t6) else .ok (ks,t5)
theorem zsF (g:GK T k ts) (hl:ts.length<=25000) (s:Nd):LQ T d ts.length (Wv s ts)
    ((qu (lit [123],((k:Int),d,0,0),T)).bind fun y2=>lpO vE (y2.1,y2.2.1,y2.2.2,z,hdr,rS (mkS [s]))) z hdr:=by
  rw [Y3 g,jf];unfold Wv;cases h:isP [123] ts with
  |true=>
    obtain ⟨g1,l1⟩:=g.is h;simp only [jl];have:=zc0 (d:=d) (fl:=fun b=>b) (body:=vE) (z:=z) (hdr:=hdr) (zqA (one:=xu) (f:=q3g) fun g=>zvL g) zzc znN ts.tail.length ts.tail (k+1) [s] g1 (Ur _) (by simp;omega);unfold Z7;simp only [Vn,PR.bd_assoc,PR.bd_ok] at this |-
    exact this.mono (by omega)
  |false=>
    simp only [jg,jk];rw [zw (znN _ _)];exact ⟨k,rfl,g,Ur _,by simp;omega⟩
theorem zsG (g:GK T k ts) (ks:List Nd) (hl:ks.length+ts.length<=30000):LQ T d ts.length (zaK ks ts)
    ((qu (lit [119,104,101,114,101],((k:Int),d,0,0),T)).bind fun y2=>lpO Wu (y2.1,y2.2.1,y2.2.2,z,hdr,rS (mkS ks))) z hdr:=by
  rw [Y3 g,jf];unfold zaK;cases h:isP [119,104,101,114,101] ts with
  |true=>
    obtain ⟨g1,l1⟩:=g.is h;simp only [jl];have:=zfQ (d:=d) (z:=z) (hdr:=hdr) ts.tail.length ts.tail (k+1) ks g1 (Ur _) (by omega);unfold Z7;simp only [Vn,PR.bd_assoc,PR.bd_ok] at this |-
    exact this.mono (by omega)
  |false=>
    simp only [jg,jk];rw [zw (zh3 _ _)];exact ⟨k,rfl,g,Ur _,by omega⟩
theorem zl4 (at_:Int) (ts:List Tk):zcS at_ ts=(Zc ts).bd fun n t1=>(WH t1).bd fun s t2=>(Wv s t2).bd fun ks t5=>(zaK ks t5).bd fun ks t7=>(zX [59] t7).bd fun _ t8 =>.ok (⟨1,n.T_,n.N_,at_,⟨ks,true⟩⟩,t8):=rfl
theorem zqB {s:Nd}{ts:List Tk}{l:List Nd}(h:Wv s ts = .ok (l,t)):l≠[]:=by
 unfold Wv at h;split at h
 ·obtain ⟨a,t1,_,h⟩:=bd_ok h;obtain ⟨b,t2,_,h⟩:=bd_ok h;cases h;simp
 grind
theorem zsH {ks:List Nd}{ts:List Tk}{l:List Nd}(hk:ks≠[]) (h:zaK ks ts = .ok (l,t)):l≠[]:=by
 unfold zaK at h;split at h
 ·obtain ⟨a,t1,_,h⟩:=bd_ok h;cases h;simp [hk]
 grind
theorem zze (g:GK T k ts) (hl:ts.length<=25000) (at_:Int):RS T d (ts.length - 1) (zcS at_ ts) (q5x (at_,((k:Int),d,0,0),T)) ndR pkR:=by
 unfold q5x qc7;rw [zl4];have t2:∀ {k:Nat} {e a:Int} {w:Sl RNd} {hdr:Int×Ua×Int×Int},k < T.xs.length->e≠0->∃ c,(qy (lit [59],((k:Int),d,e,a),T)).bind (fun y16=>some (hdr,y16.1,y16.2,w))=some c/\pkR c=(((k:Int),d,e,a),T):=by
  intro k e a w hdr hk he;rw [Zp hk he];exact ⟨_,rfl,rfl⟩
 have tl:∀ {k:Nat} {e a:Int} {w:Sl RNd} {z hdr:Int×Ua×Int×Int},k < T.xs.length->e≠0->∃ c,((qu (lit [119,104,101,114,101],((k:Int),d,e,a),T)).bind fun y10=>(lpO Wu (y10.1,y10.2.1,y10.2.2,z,hdr,w)).bind fun y15=>(qy (lit [59],y15.1,y15.2.1)).bind fun y16=>some (y15.2.2.2.1,y16.1,y16.2,y15.2.2.2.2))=some c/\pkR c=(((k:Int),d,e,a),T):=by
  intro k e a w z hdr hk he;rw [yp hk he,jf,zw (zh3 _ _),jf];exact t2 hk he
 have ts':∀ {k:Nat} {e a:Int} {w:Sl RNd} {z hdr:Int×Ua×Int×Int},k < T.xs.length->e≠0->∃ c,((qu (lit [123],((k:Int),d,e,a),T)).bind fun y2=>(lpO vE (y2.1,y2.2.1,y2.2.2,z,hdr,w)).bind fun y9=>(qu (lit [119,104,101,114,101],y9.1,y9.2.1)).bind fun y10=>(lpO Wu (y10.1,y10.2.1,y10.2.2,y9.2.2)).bind fun y15=>(qy (lit [59],y15.1,y15.2.1)).bind fun y16=>some (y15.2.2.2.1,y16.1,y16.2,y15.2.2.2.2))=some c/\pkR c=(((k:Int),d,e,a),T):=by
  intro k e a w z hdr hk he;rw [yp hk he,jf,zw (znN _ _),jf];exact tl hk he
 refine (yf g).bd ?_ fun m t1 k1 em g1 l1=>?_
 ·rintro ⟨v,_⟩ k e a rfl hk he;obtain ⟨v2,hv⟩:=zxy (d:=d) (a:=a) hk he;simp only [hv,jf];exact ts' hk he
 refine (zxB g1).bd ?_ fun s t2' k2 es g2 l2=>?_
 ·rintro ⟨v,_⟩ k e a rfl hk he;exact ts' hk he
 simp only [zk];rw [show (⟨[rN s],true⟩:Sl RNd)=rS (mkS [s]) by rw [yn];rfl,<- ga];refine (zsF g2 (by omega) s).bd ?_ fun ks t5 k5 ek g5 l5 l5b=>?_
 ·intro k e a w hk he hw;exact tl hk he
 rw [<- ga];have hpos:=Df.2 g5.g.ne;by_cases hks:ks.length+t5.length<=30000
 ·refine (zsG g5 ks hks).bd ?_ fun ks2 t7 k7 ef g7 l7 l7b=>?_
  ·intro k e a w hk he hw;exact t2 hk he
  refine (ye g7 [59]).bd ?_ fun _ t8 k8 _ g8 l8 =>.ok g8 (by omega) ?_
  ·rintro _ k e a rfl hk he;exact ⟨_,rfl,rfl⟩
  ·rw [zxC (zsH (zqB ek) ef)];rfl
 ·exfalso;have:∀ (j:Nat) (acc:List Nd) (t:List Tk) (l:List Nd) (t3:List Tk),Zq xu j acc t = .ok (l,t3)->l.length+t3.length<=acc.length+t.length:=by
   intro j
   induction j with
   |zero=>intro acc t l t3 e;cases e;grind
   |succ j ih=>
    intro acc t l t3 e;unfold Zq at e;split at e
    ·rename_i hp;obtain ⟨x,t',hx,e⟩:=bd_ok e;have h1:=ih _ _ _ _ e;have h2:=(zcV _ _ _ hx).2;grind
    grind
  unfold Wv at ek;split at ek
  ·rename_i hp;have h3:=zN hp;obtain ⟨l,t3,hx,ek⟩:=bd_ok ek;obtain ⟨u,t4,hm,ek⟩:=bd_ok ek;unfold Z7 at hx;obtain ⟨x,t',hx1,hx⟩:=bd_ok hx;have h1:=this _ _ _ _ _ hx;have h2:=(zcV _ _ _ hx1).2;have h4:=Zo hm;grind
  grind
theorem zky:∀ (k:Nat) (n:Nd),zm n<=k->zm n<=1000000000->q2t k (rN n)=some (zm n:Int)
 |0,n,h,_=>by have:=Zi n;omega
 |k+1,n,h,hb=>by
  obtain ⟨a,b,c,d,⟨xs,nn⟩⟩:=n;rw [Xf,yn];show ((lpO (q6j (q2t k)) (1,0,q6.mk a b c d ⟨xs.map rN,nn⟩)).bind fun y3=>some y3)=_;have hs:zm ⟨a,b,c,d,⟨xs,nn⟩⟩=ze xs+1:=by rw [zl]
  have loop:∀ (m i:Nat),i+m=xs.length->lpO (q6j (q2t k)) (((1+ze (xs.take i):Nat):Int),(i:Int),q6.mk a b c d ⟨xs.map rN,nn⟩)=some ((1+ze xs:Nat):Int):=by
   intro m
   induction m with
   |zero=>
    intro i hi;have hf:q6j (q2t k) (((1+ze (xs.take i):Nat):Int),(i:Int),q6.mk a b c d ⟨xs.map rN,nn⟩)=some (.done ((1+ze (xs.take i):Nat):Int)):=by
     show (if decide ((i:Int) < ((xs.map rN).length:Int))=true then _ else _)=_;grind
    rw [zw hf,List.take_of_length_le (by omega)]
   |succ m ih=>
    intro i hi;have hlt:i < xs.length:=by omega
    have hg:zb (⟨xs.map rN,nn⟩:Sl RNd) (i:Int)=some (rN xs[i]):=by
     rw [ww];simp [hlt]
    have h1:=zee hlt;have h2:=zaI xs (i+1);have hr:q2t k (rN xs[i])=some (zm xs[i]:Int):=zky k xs[i] (by omega) (by omega);have hlen:xs.length<=ze xs:=by
     clear hr h1 h2 hg ih hs hb h hlt hi
     induction xs with
     |nil=>simp
     |cons x r ih=>have:=Zi x;simp only [ze,ju];omega
    have hf:q6j (q2t k) (((1+ze (xs.take i):Nat):Int),(i:Int),q6.mk a b c d ⟨xs.map rN,nn⟩)=some (.next (((1+ze (xs.take (i+1)):Nat):Int),((i+1:Nat):Int),q6.mk a b c d ⟨xs.map rN,nn⟩)):=by
     show (if decide ((i:Int) < ((xs.map rN).length:Int))=true then (zb (⟨xs.map rN,nn⟩:Sl RNd) (i:Int)).bind _ else _)=_;rw [jr (by simp;omega),hg];simp only [jf,zk,hr];rw [zM (by omega) (by omega),zM (by omega) (by omega),h1];have e1:((1+ze (xs.take i):Nat):Int)+(zm xs[i]:Int)=((1+(ze (xs.take i)+zm xs[i]):Nat):Int):=by omega
     grind
    rw [zD hf];grind
  have:=loop xs.length 0 (by omega);simp only [List.take_zero,ze,UB] at this;grind
theorem zvM {l:List UInt8}(h:two l=true):∀ c∈l.take 2,isL c=false:=by
 unfold two at h;simp only [Uv,jh] at h;rcases h with h | h | h <;> rw [h] <;> decide
theorem zvN {l:List UInt8}{n:Nat}{v:Int}(h:nxt l = .tok 4 n v):∀ c∈l.take n,isL c=false:=by
 unfold nxt at h;split at h
 ·cases h
 rename_i c r;split at h
 ·cases h
 split at h
 ·cases h
 split at h
 ·unfold XG at h;grind
 split at h
 ·unfold xq at h;grind
 ·unfold xr at h;split at h
  ·cases h
  ·cases h;unfold YB;split
   ·rename_i h2;exact zvM h2
   ·rename_i h2;simp only;grind
theorem zeM:∀ (f at_:Nat) (l:List UInt8) (ts:List Tk),wP f at_ l = .inr ts->∀ t∈ts,t.k_=4->∀ c∈bs t.T_,isL c=false
 |0,at_,l,ts,h=>by cases h;simp
 |f+1,at_,l,ts,h=>by
  unfold wP at h;split at h
  ·cases h;simp
  split at h
  ·exact zeM f _ _ ts h
  ·cases h
  ·rename_i k n v hn;split at h
   ·cases h
   ·rename_i ts' hts;cases h;intro t ht hk;rcases U7.1 ht with rfl | ht
    ·simp only at hk;subst hk;rw [XZ];exact zvN hn
    ·exact zeM f _ _ ts' hts t ht hk
theorem zkz (s:Ua):∀ t∈(ZY s).2.2.xs,t.k_=4->∀ c∈bs t.T_,isL c=false:=by
 unfold ZY;split
 ·simp
 ·split
  ·simp
  ·rename_i ts e;intro t ht hk;simp only [Ue,UT] at ht;rcases ht with ht | rfl
   ·exact zeM _ _ _ _ e t ht hk
   ·simp at hk
end
end
section
section
variable {T:Sl RTk}{d e a:Int}{k n:Nat}{ts:List Tk}{z1 z2:Int×Ua×Int×Int}
noncomputable abbrev WV:=q7v q62 qu q6i qy q5x q9s
theorem zgT (he:e≠0) (p:Int) (w:Sl RNd):lpO WV (z1,(p,d,e,a),z2,T,w)=some (z1,(p,d,e,a),z2,T,w):=
 zw (by unfold WV q7v;grind)
theorem zfR:∀ (j:Nat) (ts:List Tk) (k:Nat) (acc:List Nd),GK T k ts->ts.length<=25000->ts.length<=j->acc.length+ts.length<=30000->
    match Yr j acc ts with
    | .error er=>∃ (k1:Nat) (w:Sl RNd),lpO WV (z1,((k:Int),0,0,0),z2,T,rS (mkS acc))=some (z1,((k1:Int),0,er.2,er.1),z2,T,w)/\er.2≠0
    | .ok (l,_)=>∃ k1:Nat,lpO WV (z1,((k:Int),0,0,0),z2,T,rS (mkS acc))=some (z1,((k1:Int),0,0,0),z2,T,rS (mkS l))
  |0,ts,k,acc,g,hl,hj,ha=>absurd (Uw (by omega)) g.g.ne
  |j+1,ts,k,acc,g,hl,hj,ha=>by
    have hpos:=Df.2 g.g.ne;unfold Yr
    have hb:WV (z1,((k:Int),0,0,0),z2,T,rS (mkS acc))=if (hd ts).k_=0 then some (.done (z1,((k:Int),0,0,0),z2,T,rS (mkS acc))) else
        if isP [102,110] ts=true then (q6i ((hd ts).a_,(((k+1:Nat):Int),0,0,0),T)).bind fun y8=>(zp 64 (rS (mkS acc)) [q6.mk y8.1.1 y8.1.2.1 y8.1.2.2.1 y8.1.2.2.2 y8.2.2.2]).bind fun y9=>some (.next (z1,y8.2.1,z2,y8.2.2.1,y9))
        else (qy (lit [116,121,112,101],((k:Int),0,0,0),T)).bind fun y10=>(if y10.1.2.2.1=0 then (q5x ((hd ts).a_,y10)).bind fun y11=>(zp 64 (rS (mkS acc)) [q6.mk y11.1.1 y11.1.2.1 y11.1.2.2.1 y11.1.2.2.2 y11.2.2.2]).bind fun y12=>some (z1,y11.2.1,z2,y11.2.2.1,y12) else some (z1,y10.1,z2,y10.2,rS (mkS acc))).bind fun y=>some (.next y):=by
      unfold WV q7v;simp only [g.idx,jf,jo,jl,toR,jh];by_cases h0:(hd ts).k_=0
      ·grind
      · simp only [h0,UF,jq,jk,jl,Y3 g,jf];cases h1:isP [102,110] ts with
        |true=>grind
        |false=>grind
    by_cases h0:(hd ts).k_=0
    · rw [jr h0] at hb |-
      exact ⟨k,zw hb⟩
    rw [js h0] at hb |-
    cases h1:isP [102,110] ts with
    |true=>
      obtain ⟨g1,l1⟩:=g.is h1;rw [h1] at hb;simp only [jl] at hb |-
      have hr:=zAs g1 (by omega) (hd ts).a_;cases es:fnP (hd ts).a_ ts.tail with
      |error er=>
        rw [es] at hr;obtain ⟨⟨w,p,q,ks⟩,k1,e1,hp,h3,h4⟩:=hr;simp only [pkR,Prod.mk.injEq] at hp;obtain ⟨rfl,hq⟩:=hp;obtain rfl:T=q:=hq.symm;rw [e1,jf,xx (acc:=acc) (by omega)] at hb;exact ⟨k1,_,by rw [zD hb,zgT h4],h4⟩
      |ok p=>
        obtain ⟨x,t1⟩:=p;rw [es] at hr;obtain ⟨k1,e1,g2,l2⟩:=hr;rw [e1,jf] at hb;simp only [ndR,ndT] at hb;rw [xx (acc:=acc) (by omega),show q6.mk x.k_ x.T_ x.N_ x.a_ (rS x.K_)=rN x from (yj x).symm,zfN] at hb;have ih:=zfR j t1 k1 (acc++[x]) g2 (by omega) (by omega) (by simp;omega);rw [zD hb];exact ih
    |false=>
      rw [h1] at hb;simp only [jg,jk] at hb |-
      have hm:=ye (d:=0) g [116,121,112,101];cases em:zX [116,121,112,101] ts with
      |error er=>
        rw [em] at hm;obtain ⟨b,k1,e1,hp,h3,h4⟩:=hm;simp only [id] at hp;subst hp;rw [e1,jf] at hb;simp only [h4,jk,jf] at hb;exact ⟨k1,_,by rw [zD hb,zgT h4],h4⟩
      |ok p=>
        obtain ⟨u,t0⟩:=p;rw [em] at hm;obtain ⟨k0,e0,g0,l0⟩:=hm;rw [e0,jf] at hb;simp only [jl] at hb;rw [PR.bd_ok];have hr:=zze (d:=0) g0 (by omega) (hd ts).a_;cases es:zcS (hd ts).a_ t0 with
        |error er=>
          rw [es] at hr;obtain ⟨⟨w,p,q,ks⟩,k1,e1,hp,h3,h4⟩:=hr;simp only [pkR,Prod.mk.injEq] at hp;obtain ⟨rfl,hq⟩:=hp;obtain rfl:T=q:=hq.symm;rw [e1,jf,xx (acc:=acc) (by omega)] at hb;exact ⟨k1,_,by rw [zD hb,zgT h4],h4⟩
        |ok p=>
          obtain ⟨x,t1⟩:=p;rw [es] at hr;obtain ⟨k1,e1,g2,l2⟩:=hr;rw [e1,jf] at hb;simp only [ndR,ndT] at hb;rw [xx (acc:=acc) (by omega),show q6.mk x.k_ x.T_ x.N_ x.a_ (rS x.K_)=rN x from (yj x).symm,zfN] at hb;have ih:=zfR j t1 k1 (acc++[x]) g2 (by omega) (by omega) (by simp;omega);rw [zD hb];exact ih
end
theorem zc1 (s:Ua):q2e s=some (rN (xU s).1,(xU s).2):=by
 unfold q2e qb4;rw [znK,jf];have hz:rN Xe=q6.mk 0 (lit []) 0 0 (Sl.mk [] false):=by unfold Xe;rw [Xf,yo]
 unfold xU;simp only [jh];by_cases h:(ZY s).2.1=0
 case neg=>grind
 case pos=>
 rw [js (by simpa using h),js (by simpa using h)];obtain ⟨g,hn⟩:=zcW h;have hs:=zkz s;generalize hx:(ZY s).2.2=X at g hn hs;obtain ⟨ts,nn⟩:=X;simp only at g hn hs;subst hn;have hlen:=g.len;have gk:GK ⟨ts.map toR,true⟩ 0 ts:=⟨rfl,g,by omega,hs⟩;have lp:=zfR (z1:=(0,lit [],0,0)) (z2:=(0,lit [],0,0)) ts.length ts 0 [] gk (by omega) (Ur _) (by simp;omega);rw [zkw] at lp;cases e:Yr ts.length [] ts with
 |error er=>
  rw [e] at lp;obtain ⟨k1,w,lp,h2⟩:=lp;have lp:lpO WV ((0,lit [],0,0),(0,0,0,0),(0,lit [],0,0),⟨ts.map toR,true⟩,Sl.mk [] false)=_:=lp;grind
 |ok p=>
  obtain ⟨l,t1⟩:=p;rw [e] at lp;obtain ⟨k1,lp⟩:=lp;have lp:lpO WV ((0,lit [],0,0),(0,0,0,0),(0,lit [],0,0),⟨ts.map toR,true⟩,Sl.mk [] false)=_:=lp;rw [lp];have hsz:=VL _ _ _ _ _ e;simp only [ze] at hsz;have hsize:q9s (q6.mk 0 (lit []) 0 0 (rS (mkS l)))=some ((ze l+1:Nat):Int):=by
   have:=zky 100000 ⟨0,lit [],0,0,mkS l⟩ (by rw [zl];simp only [mkS];omega) (by rw [zl];simp only [mkS];omega);rw [zl,Xf] at this;exact this
  simp only [jf,UF,jp,jk,hsize];by_cases hb:4096 < ze l+1
  ·grind
  ·rw [js (by omega),js hb,Xf]
end
end Go.Px
