/- Part Lc: Px22PA Px22PB Px22PC Px22PD Px22PE Px22PF Px2 -/
import Derived.Test.YtpcipfnohfefhaaGreatDoorLb
set_option linter.unusedVariables false
set_option linter.unusedSimpArgs false
namespace Go.Px
variable{n':Nat}{one:List Tk->PR Nd}{t:List Tk}{α β γ δ:Type}{f:α->List Tk->PR β}{m:G3 β}{r:PR α}
section
theorem U8:∀ {α : Type _} {l : List α},0 < l.length↔l≠[]:=@List.length_pos_iff
theorem wi (s:Sl α) (i:Nat):zd s (i:Int)=s.xs[i]?:=by
 unfold zd;grind
theorem zD {s:Type}{f:s->G3 (Step s β)}{x y:s}(h:f x=some (.next y)):lpO f x=lpO f y:=by rw [Zn,h];rfl
theorem zx {s:Type}{f:s->G3 (Step s β)}{x:s}{y:β}(h:f x=some (.done y)):lpO f x=some y:=by rw [Zn,h];rfl
abbrev RTk:=q9
abbrev RNd:=q6
abbrev PS:=(Int×Int×Int×Int)×Sl RTk
mutual
def rN:Nd->RNd
 |⟨k,t,n,a,s⟩=>⟨k,t,n,a,rS s⟩
def rS:Sl Nd->Sl RNd
 |⟨l,b⟩=>⟨rL l,b⟩
def rL:List Nd->List RNd
 |[]=>[]
 |n::l=>rN n::rL l
end
theorem zpq:∀ l:List Nd,rL l=l.map rN
 |[]=>by simp [rL]
 |n::l=>by simp [rL,zpq l]
theorem yj (s:Sl Nd):rS s=⟨s.xs.map rN,s.nn⟩:=by cases s;unfold rS;rw [zpq]
theorem yg (n:Nd):rN n=⟨n.k_,n.T_,n.n_,n.a_,rS n.K_⟩:=by cases n;unfold rN;rfl
theorem yk:rS nilS=⟨[],false⟩:=by rw [yj];rfl
theorem zt (a:RNd):kr a=a:=by cases a;rfl
structure GK (T:Sl RTk) (k:Nat) (ts:List Tk):Prop where
 dr:T.xs.drop k=ts.map toR
 g:TGood ts
 b:k+ts.length<=30000
 sg:∀ t∈ts,t.k_=4->∀ c∈bs t.T_,isL c=false
def RS (T:Sl RTk) (d:Int) (n:Nat) (r:PR α) (m:G3 β) (mk:α->PS->β) (pk:β->PS):Prop:=match r with
 | .error e=>∃ (b:β) (k:Nat),m=some b/\pk b=(((k:Int),d,e.2,e.1),T)/\k < T.xs.length/\e.2≠0
 | .ok (a,ts)=>∃ k:Nat,m=some (mk a (((k:Int),d,0,0),T))/\GK T k ts/\ts.length<=n
section
variable {T:Sl RTk}{d e a:Int}{k n:Nat}{ts:List Tk}
theorem GK.lt (h:GK T k ts):k < T.xs.length:=by
 have:=congrArg List.length h.dr;have h2:=U8.2 h.g.ne;grind
theorem GK.idx (h:GK T k ts):zd T (k:Int)=some (toR (hd ts)):=by
 have h1:=congrArg (fun l=>l[0]?) h.dr;simp only [Uh,Ue,GA] at h1;rw [show zd T (k:Int)=T.xs[k]? from wi T k,h1]
 match ts,h.g with
 |[],g=>exact absurd rfl g.ne
 |t::r,_=>rfl
theorem GK.tail (h:GK T k ts) (hk:(hd ts).k_≠0):GK T (k+1) ts.tail/\ts.tail.length+1=ts.length:=by
 have h1:=h.g.tail hk;have h2:=h.g.tail_len;refine ⟨⟨?_,h1,?_,fun t ht=>h.sg t (List.mem_of_mem_tail ht)⟩,h2⟩
 ·rw [<- List.drop_drop,h.dr]
  match ts with
  |[]=>rfl
  |t::r=>rfl
 ·have:=h.b;omega
theorem zbH (hk:k < T.xs.length):∃ t,zd T (k:Int)=some t:=⟨T.xs[k],by rw [wi];grind⟩
theorem zL (hk:k < 1000000000):G4 ((k:Int)+1)=((k+1:Nat):Int):=by rw [zM (by omega) (by omega)];rfl
theorem zjQ (hk:k < T.xs.length) (he:e≠0) (s:G0):q1i (s,((k:Int),d,e,a),T)=some (false,((k:Int),d,e,a),T):=by
 obtain ⟨t,ht⟩:=zbH hk;unfold q1i q8w;grind
theorem yl (hk:k < T.xs.length) (he:e≠0) (s:G0):qu (s,((k:Int),d,e,a),T)=some (false,((k:Int),d,e,a),T):=by
 unfold qu q8a;simp only [zjQ hk he,jf,jg,jk]
theorem zcO (he:e≠0) (c:Int):q15 (c,((k:Int),d,e,a),T)=some (((k:Int),d,e,a),T):=by
 unfold q15 q7c;grind
theorem Zl (hk:k < T.xs.length) (he:e≠0) (s:G0):qy (s,((k:Int),d,e,a),T)=some (((k:Int),d,e,a),T):=by
 unfold qy q7d;simp only [yl hk he,zcO he,jf,U1,jl]
theorem zfp (hk:k < T.xs.length) (he:e≠0):q11 (((k:Int),d,e,a),T)=some ((0,lit [],0,0),((k:Int),d,e,a),T):=by
 obtain ⟨t,ht⟩:=zbH hk;unfold q11 q7e;simp only [ht,zcO he,jf,Ui,he,jq,jo,jl]
theorem xA (hk:k < T.xs.length) (he:e≠0):q25 (((k:Int),d,e,a),T)=some (0,((k:Int),d,e,a),T):=by
 obtain ⟨t,ht⟩:=zbH hk;unfold q25 q66;simp only [ht,zcO he,jf,Ui,he,jq,jo,jl]
theorem zfq (hk:k < T.xs.length) (he:e≠0) (x:RNd):q1x (x,((k:Int),d,e,a),T)=some (x,((k:Int),d,e,a),T):=by
 unfold q1x q7f;simp only [yl hk he,jf,jg,jk,zt]
theorem zaD (hk:k < T.xs.length) (he:e≠0):∃ v,q1l (((k:Int),d,e,a),T)=some (v,((k:Int),d,e,a),T):=by
 obtain ⟨t,ht⟩:=zbH hk;unfold q1l q7g;simp only [ht,yl hk he,xA hk he,zfp hk he,zfq hk he,jf,jg,jk];split <;> exact ⟨_,rfl⟩
theorem zw7 (hk:k < T.xs.length) (he:e≠0):q4v (((k:Int),d,e,a),T)=some (lit [],((k:Int),d,e,a),T):=by
 unfold q4v q8b;have h0:∀ i:Int,∀ s,zd (⟨[lit [60],lit [60,61],lit [61,61]],true⟩:Sl G0) i=some s->0<=i->i < 3->q5s qu q15 (i,((k:Int),d,e,a),T,Sl.mk [lit [60],lit [60,61],lit [61,61]] true)=some (.next (i+1,((k:Int),d,e,a),T,Sl.mk [lit [60],lit [60,61],lit [61,61]] true)):=by
  intro i s hs h0 h3;unfold q5s;simp only [hs,yl hk he,jf,jg,jk];rw [jr (by simp [Sl.len];omega),zM (by omega) (by omega)]
 rw [zD (h0 0 _ rfl (by omega) (by omega)),zD (h0 (0+1) _ rfl (by omega) (by omega)),zD (h0 (0+1+1) _ rfl (by omega) (by omega)),zx (y :=.inr (((k:Int),d,e,a),T)) rfl];simp only [jf,ji,zcO he]
theorem zvB (hk:k < T.xs.length) (he:e≠0):∃ w,q2r (((k:Int),d,e,a),T)=some (((k:Int),d,e,a),T,w):=by
 unfold q2r q7h;simp only [Zl hk he,yl hk he,jf,jg,jk,Ui,he,jq,jo,jl];grind
theorem zjR (hk:k < T.xs.length) (he:e≠0):∃ v,q2s (((k:Int),d,e,a),T)=some (v,((k:Int),d,e,a),T):=by
 obtain ⟨t,ht⟩:=zbH hk;unfold q2s q7i;simp only [ht,Zl hk he,yl hk he,zfp hk he,jf,jg,jk,U1,jl];grind
theorem zpr (hk:k < T.xs.length) (he:e≠0):∃ v,q4j (((k:Int),d,e,a),T)=some (v,((k:Int),d,e,a),T):=by
 obtain ⟨t,ht⟩:=zbH hk;obtain ⟨v,hv⟩:=zaD (d:=d) (a:=a) hk he;unfold q4j q7j;simp only [ht,hv,Zl hk he,yl hk he,zjQ hk he,zfp hk he,zfq hk he,jf,jg,jk];grind
theorem zlr (hk:k < T.xs.length) (he:e≠0) (hd : -1000<=d/\d<=1000) (j:Nat):∃ v w,q3a (j+1) (((k:Int),d,e,a),T)=some (v,((k:Int),d,e,a),T,w):=by
 obtain ⟨t,ht⟩:=zbH hk;show ∃ v w,q26 _ _ _ _ _ _=_
 unfold q26;simp only [ht,Zl hk he,zjQ hk he,jf,jg,jk];rw [Zn];simp only [q3b,he,jm,jg,jk,jf];rw [zM (n:=d+1) (by omega) (by omega),zM (by omega) (by omega),show d+1 - 1=d by omega];grind
theorem zvC (hk:k < T.xs.length) (he:e≠0):∃ v,q38 (((k:Int),d,e,a),T)=some (v,((k:Int),d,e,a),T):=by
 obtain ⟨t,ht⟩:=zbH hk;unfold q38 q7k;simp only [ht,yl hk he,jf,jg,jk];generalize ((0,lit [],0,0):Int×G0×Int×Int)=z;have h0:∀ (i:Int) (s) (q:Int×G0×Int×Int),zd (⟨[lit [99,111,117,110,116,101,100],lit [108,111,99,107],lit [103,117,97,114,100]],true⟩:Sl G0) i=some s->0<=i->i < 3->q31 qu q11 q15 (i,((k:Int),d,e,a),T,z,q,Sl.mk [lit [99,111,117,110,116,101,100],lit [108,111,99,107],lit [103,117,97,114,100]] true)=some (.next (i+1,((k:Int),d,e,a),T,z,q,Sl.mk [lit [99,111,117,110,116,101,100],lit [108,111,99,107],lit [103,117,97,114,100]] true)):=by
  intro i s q hs h0 h3;unfold q31;simp only [hs,yl hk he,jf,jg,jk];rw [jr (by simp [Sl.len];omega),zM (by omega) (by omega)]
 rw [zD (h0 0 _ _ rfl (by omega) (by omega)),zD (h0 (0+1) _ _ rfl (by omega) (by omega)),zD (h0 (0+1+1) _ _ rfl (by omega) (by omega)),zx (y :=.inr (((k:Int),d,e,a),T,z,_)) rfl];simp only [jf,ji,zcO he];grind
end
end
section
section
variable {T:Sl RTk}{d e a:Int}{k n:Nat}{ts:List Tk}
theorem RS.bd {f:α->List Tk->PR γ}{K:β->G3 δ}{mk:α->PS->β}{pk:β->PS}{mk':γ->PS->δ}{pk':δ->PS}(h:RS T d n r m mk pk)
    (hb:∀ (b:β) (k:Nat) (e a:Int),pk b=(((k:Int),d,e,a),T)->k < T.xs.length->e≠0->∃ c,K b=some c/\pk' c=(((k:Int),d,e,a),T))
    (hk:∀ a ts (k:Nat),r = .ok (a,ts)->GK T k ts->ts.length<=n->RS T d n' (f a ts) (K (mk a (((k:Int),d,0,0),T))) mk' pk'):RS T d n' (r.bd f) (m.bind K) mk' pk':=by
  cases r with
  |error e=>
    obtain ⟨b,k,rfl,h1,h2,h3⟩:=h;obtain ⟨c,e1,e2⟩:=hb b k _ _ h1 h2 h3;exact ⟨c,k,e1,e2,h2,h3⟩
  |ok p=>
    obtain ⟨a,ts⟩:=p;obtain ⟨k,rfl,g,l⟩:=h;exact hk a ts k rfl g l
theorem RS.ok {x:α}{mk:α->PS->β}{pk:β->PS}(g:GK T k ts) (l:ts.length<=n) (h:m=some (mk x (((k:Int),d,0,0),T))):RS T d n (.ok (x,ts)) m mk pk:=⟨k,h,g,l⟩
theorem RS.mono {mk:α->PS->β}{pk:β->PS}(h:RS T d n r m mk pk) (l:n<=n'):RS T d n' r m mk pk:=by
 cases r with
 |error e=>exact h
 |ok p=>obtain ⟨k,h1,h2,h3⟩:=h;exact ⟨k,h1,h2,GM h3 l⟩
theorem PR.bd_assoc {g:β->List Tk->PR γ}:(r.bd f).bd g=r.bd fun a t=>(f a t).bd g:=by
 cases r <;> rfl
theorem PR.bd_ok {x:α}:PR.bd (.ok (x,t)) f=f x t:=rfl
theorem GK.is (g:GK T k ts) {s:List UInt8}(h:isP s ts=true):GK T (k+1) ts.tail/\ts.tail.length+1=ts.length:=g.tail (zeq h)
theorem zcP (g:GK T k ts) (s:List UInt8):q1i (lit s,((k:Int),d,0,0),T)=some (isP s ts,((k:Int),d,0,0),T):=by
 unfold q1i q8w isP;simp only [g.idx,jf,jo,jl,jh,toR];grind
theorem YW (g:GK T k ts) (s:List UInt8):qu (lit s,((k:Int),d,0,0),T)=some (isP s ts,(((if isP s ts=true then k+1 else k:Nat):Int),d,0,0),T):=by
 unfold qu q8a;simp only [zcP g,jf];have:=g.b;cases h:isP s ts with
 |true=>simp only [jl,jf];rw [zL (by omega)]
 |false=>rfl
theorem Vg (g:GK T k ts) (c:Int):q15 (c,((k:Int),d,0,0),T)=some (((k:Int),d,c,(hd ts).a_),T):=by
 unfold q15 q7c;simp only [g.idx,jf,jo,jl,toR]
theorem yR (g:GK T k ts) {s:List UInt8}{K:Bool×PS->G3 β}{p q:PR α}{mk:α->PS->β}{pk:β->PS}(h1:isP s ts=true->GK T (k+1) ts.tail->ts.tail.length+1=ts.length->RS T d n p (K (true,(((k+1:Nat):Int),d,0,0),T)) mk pk)
    (h0:isP s ts=false->RS T d n q (K (false,((k:Int),d,0,0),T)) mk pk):RS T d n (if isP s ts=true then p else q) ((qu (lit s,((k:Int),d,0,0),T)).bind K) mk pk:=by
  rw [YW g,jf];cases h:isP s ts with
  |true=>simp only [jl];exact h1 h (g.is h).1 (g.is h).2
  |false=>grind
theorem Z9 (g:GK T k ts) (s:List UInt8):RS T d (ts.length - 1) (zT s ts) (qy (lit s,((k:Int),d,0,0),T)) (fun _ st=>st) id:=by
 unfold qy q7d zT;refine yR g (fun h g1 l =>.ok g1 (by omega) rfl) fun h=>?_
 simp only [U1,jl,Vg g,jf];exact ⟨_,k,rfl,rfl,g.lt,by simp [xy]⟩
theorem ya (g:GK T k ts):RS T d (ts.length - 1) (z6 ts) (q11 (((k:Int),d,0,0),T)) (fun n st=>(ndT n,st)) Prod.snd:=by
 unfold q11 q7e z6 XV;simp only [g.idx,jf,Ui,jp,jm,jg,jk,toR,jh];have:=g.b;by_cases h:(hd ts).k_=1
 ·obtain ⟨g1,l1⟩:=g.tail (by omega);simp only [h,jp,jl,jk];rw [zL (by omega)];exact .ok g1 (by omega) rfl
 ·simp only [h,jq,jl,jk];rw [Vg g];exact ⟨_,k,rfl,rfl,g.lt,by simp⟩
theorem X5 (g:GK T k ts):RS T d (ts.length - 1) (XV 3 ts) (q25 (((k:Int),d,0,0),T)) (fun t st=>(t.n_,st)) Prod.snd:=by
 unfold q25 q66 XV;simp only [g.idx,jf,Ui,jp,jm,jg,jk,toR,jh];have:=g.b;by_cases h:(hd ts).k_=3
 ·obtain ⟨g1,l1⟩:=g.tail (by omega);simp only [h,jp,jl,jk];rw [zL (by omega)];exact .ok g1 (by omega) rfl
 ·simp only [h,jq,jl,jk];rw [Vg g];exact ⟨_,k,rfl,rfl,g.lt,by simp [xy]⟩
theorem X6 (x:Int):1 * x=x:=by omega
theorem zls {t1:List Tk}{t:Tk}(g:TGood ts) (h:XV 3 ts = .ok (t,t1)):G4 (0 - t.n_) = -1 * t.n_:=by
 have:=zhb g h;rw [zM (by omega) (by omega)];omega
theorem zps (m:Nd) (v:Int):rN (Nd.num m v)=⟨(rN m).k_,(rN m).T_,v,(rN m).a_,(rN m).K_⟩:=by cases m;simp [Nd.num,rN]
theorem zpt (g:GK T k ts) (m:Nd):RS T d ts.length (xz m ts) (q1x (rN m,((k:Int),d,0,0),T)) (fun n st=>(rN n,st)) Prod.snd:=by
 unfold q1x q7f xz yZ;refine yR g (fun h g1 l=>?_) fun h=>?_
 ·simp only [jl,PR.bd_assoc,PR.bd_ok];refine (X5 g1).bd ?_ fun t t1 k1 et g2 l2 =>.ok g2 (by omega) (by rw [zps,X6])
  grind
 ·simp only [jg,jk];refine yR g (fun h g1 l=>?_) fun h=>?_
  ·simp only [jl,PR.bd_assoc,PR.bd_ok,ga,jf];refine (X5 g1).bd ?_ fun t t1 k1 et g2 l2 =>.ok g2 (by omega) (by rw [zps,zls g1.g et])
   grind
  ·exact .ok g (by omega) (by simp only [jg,jk,jf,zt])
theorem Xz (n:Nd) (h:n.K_=nilS):q6.mk (ndT n).1 (ndT n).2.1 (ndT n).2.2.1 (ndT n).2.2.2 (Sl.mk [] false)=rN n:=by rw [yg,h,yk];rfl
theorem wM (g:GK T k ts):RS T d (ts.length - 1) (ZY ts) (q1l (((k:Int),d,0,0),T)) (fun n st=>(rN n,st)) Prod.snd:=by
 unfold q1l q7g ZY yZ;simp only [g.idx,jf,toR,jh];by_cases h3:(hd ts).k_=3
 ·rw [jr h3,jr h3];simp only [PR.bd_assoc,PR.bd_ok];refine (X5 g).bd ?_ fun t t1 k1 et g2 l2 =>.ok g2 (by omega) (by rw [X6,yg,yk])
  grind
 ·rw [js h3,js h3];refine yR g (fun h g1 l=>?_) fun h=>?_
  ·simp only [jl,PR.bd_assoc,PR.bd_ok];refine (X5 g1).bd ?_ fun t t1 k1 et g2 l2 =>.ok g2 (by omega) (by rw [zls g1.g et,yg,yk])
   grind
  ·simp only [jg,jk];refine (ya g).bd ?_ fun m t1 k1 em g1 l1=>?_
   ·rintro ⟨v,_⟩ k e a rfl hk he;simp only [zfq hk he,jf];grind
   ·rw [Xz m (zJ em)];simp only [zt];refine RS.mono (n:=t1.length) ?_ (by omega);rw [show ((q1x (rN m,((k1:Int),d,0,0),T)).bind fun y8=>some (y8.1,y8.2))=q1x (rN m,((k1:Int),d,0,0),T) from Option.bind_fun_some _];exact zpt g1 m
theorem zw8 (g:GK T k ts):RS T d (ts.length - 1) (zbB ts) (q4v (((k:Int),d,0,0),T)) (fun s st=>(s,st)) Prod.snd:=by
  unfold q4v q8b
  have h0:∀ (i:Int) (s:List UInt8),zd (⟨[lit [60],lit [60,61],lit [61,61]],true⟩:Sl G0) i=some (lit s)->0<=i->i < 3->q5s qu q15 (i,((k:Int),d,0,0),T,Sl.mk [lit [60],lit [60,61],lit [61,61]] true) =
      if isP s ts=true then some (.done (.inl (lit s,(((k+1:Nat):Int),d,0,0),T))) else some (.next (i+1,((k:Int),d,0,0),T,Sl.mk [lit [60],lit [60,61],lit [61,61]] true)):=by
    intro i s hs h0 h3;unfold q5s;simp only [hs,YW g,jf];rw [jr (by simp [Sl.len];omega)];cases h:isP s ts with
    |true=>grind
    |false=>simp only [jg,jk];rw [zM (by omega) (by omega)]
  unfold zbB;have e0:=h0 0 [60] rfl (by omega) (by omega);have e1:=h0 (0+1) [60,61] rfl (by omega) (by omega);have e2:=h0 (0+1+1) [61,61] rfl (by omega) (by omega);cases c0:isP [60] ts with
  |true=>rw [c0] at e0;rw [zx e0];exact .ok (g.is c0).1 (by grind) rfl
  |false=>
    rw [c0] at e0;rw [zD e0];cases c1:isP [60,61] ts with
    |true=>rw [c1] at e1;rw [zx e1];exact .ok (g.is c1).1 (by grind) rfl
    |false=>
      rw [c1] at e1;rw [zD e1];cases c2:isP [61,61] ts with
      |true=>rw [c2] at e2;rw [zx e2];exact .ok (g.is c2).1 (by grind) rfl
      |false=>
        rw [c2] at e2;rw [zD e2,zx (y :=.inr (((k:Int),d,0,0),T)) rfl];simp only [jf,ji,Vg g,jg,jk];exact ⟨_,k,rfl,rfl,g.lt,by simp⟩
def ndR (n:Nd) (st:PS):(Int×G0×Int×Int)×(Int×Int×Int×Int)×Sl RTk×Sl RNd:=(ndT n,st.1,st.2,rS n.K_)
def pkR (b:(Int×G0×Int×Int)×(Int×Int×Int×Int)×Sl RTk×Sl RNd):PS:=(b.2.1,b.2.2.1)
theorem zpu (g:GK T k ts):RS T d (ts.length - 1) (Ym ts) (q1m (((k:Int),d,0,0),T)) ndR pkR:=by
 unfold q1m q59 Ym;refine (wM g).bd ?_ fun a t1 k1 ea g1 l1=>?_
 ·rintro ⟨v,_⟩ k e a rfl hk he;obtain ⟨w,hw⟩:=zaD (d:=d) (a:=a) hk he;simp only [zw7 hk he,hw,jf];exact ⟨_,rfl,rfl⟩
 refine (zw8 g1).bd ?_ fun op t2 k2 _ g2 l2=>?_
 ·rintro ⟨v,_⟩ k e a rfl hk he;obtain ⟨w,hw⟩:=zaD (d:=d) (a:=a) hk he;simp only [hw,jf];exact ⟨_,rfl,rfl⟩
 refine (wM g2).bd ?_ fun b t3 k3 eb g3 l3 =>.ok g3 (by omega) ?_
 ·rintro ⟨v,_⟩ k e a rfl hk he;exact ⟨_,rfl,rfl⟩
 simp only [zt,ndR,ndT,yj,GE,List.map_nil];rw [show (rN a).a_=a.a_ by rw [yg]]
theorem Ya {acc:List RNd}{x:RNd}(h:acc.length<=60000) (b:Bool):zp 64 (⟨acc,b⟩:Sl RNd) [x]=some ⟨acc++[x],true⟩:=by
 rw [yY (by simp;omega) (by simp;omega)];simp
noncomputable abbrev wj:=q45 qy qu q1l
theorem zhg (hk:k < T.xs.length) (he:e≠0) (x:RNd) (acc:Sl RNd):lpO wj (((k:Int),d,e,a),T,x,acc)=some (((k:Int),d,e,a),T,acc):=
 zx (by unfold wj q45;simp only [yl hk he,jf,U1,jl])
theorem zhh:∀ (j:Nat) (ts:List Tk) (k:Nat) (x:RNd) (acc:List Nd),GK T k ts->ts.length<=j->acc.length+ts.length<=30000->
    RS T d ts.length (Zm ZY j acc ts) (lpO wj (((k:Int),d,0,0),T,x,⟨acc.map rN,true⟩)) (fun l st=>(st.1,st.2,⟨l.map rN,true⟩)) (fun b=>(b.1,b.2.1))
  |0,ts,k,x,acc,g,hj,ha=>absurd (GP (by omega)) g.g.ne
  |j+1,ts,k,x,acc,g,hj,ha=>by
    unfold Zm;cases h:isP [44] ts with
    |false=>
      rw [zx (y:=(((k:Int),d,0,0),T,⟨acc.map rN,true⟩)) (by unfold wj q45;simp only [YW g,h,jf,U1,jl,jg,jk])];exact .ok g (GJ _) rfl
    |true=>
      obtain ⟨g1,l1⟩:=g.is h;simp only [jl];have ht:=wM (d:=d) g1;cases e:ZY ts.tail with
      |error er=>
        rw [e] at ht;obtain ⟨⟨v,_⟩,k1,e1,rfl,h2,h3⟩:=ht;have hn:wj (((k:Int),d,0,0),T,x,⟨acc.map rN,true⟩)=some (.next (((k1:Int),d,er.2,er.1),T,v,⟨acc.map rN++[v],true⟩)):=by
          unfold wj q45;simp only [YW g,h,jf,Um,jl,jg,jk,e1,zt];rw [Ya (by simp;omega)];rfl
        rw [zD hn,zhg h2 h3];exact ⟨_,k1,rfl,rfl,h2,h3⟩
      |ok p=>
        obtain ⟨y,t1⟩:=p;rw [e] at ht;obtain ⟨k1,e1,g2,l2⟩:=ht;have hn:wj (((k:Int),d,0,0),T,x,⟨acc.map rN,true⟩)=some (.next (((k1:Int),d,0,0),T,rN y,⟨(acc++[y]).map rN,true⟩)):=by
          unfold wj q45;simp only [YW g,h,jf,Um,jl,jg,jk,e1,zt];rw [Ya (by simp;omega)];simp
        rw [zD hn];exact (zhh j t1 k1 (rN y) (acc++[y]) g2 (by omega) (by simp;omega)).mono (by omega)
theorem zjS (g:GK T k ts):RS T d (ts.length - 1) (VG ts) (q2r (((k:Int),d,0,0),T)) (fun ks st=>(st.1,st.2,rS ks)) (fun b=>(b.1,b.2.1)):=by
 unfold q2r q7h VG;refine (Z9 g [40]).bd ?_ fun _ t1 k1 _ g1 l1=>?_
 ·rintro _ k e a rfl hk he;simp only [yl hk he,jf,jg,jk,Ui,he,jq,jo,jl,id];grind
 refine yR g1 (fun h g2 l2=>?_) fun h=>?_
 ·simp only [jl,jf];exact .ok g2 (by omega) (by rw [yk])
 simp only [jg,jk,jf,Ui,jp,jm];unfold Z3;rw [PR.bd_assoc];have hb:=g1.b;refine (wM g1).bd ?_ fun x t2 k2 ex g2 l2=>?_
 ·rintro ⟨v,_⟩ k e a rfl hk he;simp only [zt];rw [zhg hk he];simp only [jf,Zl hk he];grind
 simp only [zt];refine (zhh (d:=d) t1.length t2 k2 (rN x) [x] g2 (by omega) (by simp;omega)).bd ?_ fun l t3 k3 _ g3 l3=>?_
 ·rintro ⟨p,q,w⟩ k e a hp hk he;simp only [Prod.mk.injEq] at hp;obtain ⟨rfl,rfl⟩:=hp;simp only [Zl hk he,jf];grind
 refine (Z9 g3 [41]).bd ?_ fun _ t4 k4 _ g4 l4 =>.ok g4 (by omega) (by rw [yj])
 grind
end
end
section
section
variable {T:Sl RTk}{d e a:Int}{k n:Nat}{ts:List Tk}
theorem wN (n:Nd):rS ⟨[n],true⟩=⟨[rN n],true⟩:=by rw [yj];rfl
theorem xX (k:Int) (t:G0) (n a:Int) (s:Sl Nd):rN ⟨k,t,n,a,s⟩=⟨k,t,n,a,rS s⟩:=by unfold rN;rfl
theorem zpv (g:GK T k ts):RS T d (ts.length - 1) (wL ts) (q2s (((k:Int),d,0,0),T)) (fun n st=>(rN n,st)) Prod.snd:=by
 unfold q2s q7i wL;simp only [g.idx,jf,toR];refine yR g (fun h g1 l1=>?_) fun h=>?_
 ·simp only [jl];exact .ok g1 (by omega) (by rw [yg,yk])
 simp only [jg,jk];refine yR g (fun h g1 l1=>?_) fun h=>?_
 ·simp only [Um,jg,jk,jf];refine (ya g1).bd ?_ fun m t1 k1 em g2 l2 =>.ok g2 (by omega) ?_
  ·grind
  ·rw [Xz m (zJ em),xX,wN]
 simp only [U1,jl,ga];refine (Z9 g [38]).bd ?_ fun _ t1 k1 _ g1 l1=>?_
 ·rintro _ k e a rfl hk he;simp only [yl hk he,zfp hk he,jf,jg,jk,id];grind
 refine yR g1 (fun h g2 l2=>?_) fun h=>?_
 ·simp only [jl,jf];refine (ya g2).bd ?_ fun m t2 k2 em g3 l3 =>.ok g3 (by omega) ?_
  ·grind
  ·rw [Xz m (zJ em),xX,wN]
 ·simp only [jg,jk,jf];refine (ya g1).bd ?_ fun m t2 k2 em g3 l3 =>.ok g3 (by omega) ?_
  ·grind
  ·rw [Xz m (zJ em),xX,wN]
theorem GK.idx1 (g:GK T (k+1) ts) (hk:k < 30000):zd T (G4 ((k:Int)+1))=some (toR (hd ts)):=by
 rw [zL (by omega),g.idx]
theorem zvD (g:GK T k ts):RS T d (ts.length - 1) (vb ts) (q4j (((k:Int),d,0,0),T)) (fun n st=>(rN n,st)) Prod.snd:=by
  unfold q4j q7j vb;simp only [g.idx,jf,toR];have hb:=g.b;refine yR g (fun h g1 l1=>?_) fun h=>?_
  · simp only [jl];unfold yZ;rw [PR.bd_assoc];refine (X5 g1).bd ?_ fun t t1 k1 et g2 l2 =>.ok g2 (by omega) (by rw [X6,yg,yk])
    grind
  simp only [jg,jk];refine yR g (fun h g1 l1=>?_) fun h=>?_
  · simp only [jl];refine (ya g1).bd ?_ fun m t1 k1 em g2 l2 =>.ok g2 (by omega) (by rw [yg,yk];rfl)
    grind
  simp only [jg,jk];refine yR g (fun h g1 l1=>?_) fun h=>?_
  · simp only [jl];refine yR g1 (fun h g2 l2=>?_) fun h=>?_
    · simp only [jl,jf];refine (ya g2).bd ?_ fun m t1 k1 em g3 l3 =>.ok g3 (by omega) (by rw [yg,yk];rfl)
      grind
    · simp only [jg,jk,jf];refine (ya g1).bd ?_ fun m t1 k1 em g3 l3 =>.ok g3 (by omega) (by rw [yg,yk];rfl)
      grind
  simp only [jg,jk,g.idx,jf,toR,jh,zt];by_cases hk:(hd ts).k_=1
  case neg=>
    simp only [Ui,hk,jq,jl,Option.bind_fun_some];rw [show ((q1l (((k:Int),d,0,0),T)).bind fun y=>some (y.1,y.2))=q1l (((k:Int),d,0,0),T) from Option.bind_fun_some _];exact wM g
  simp only [Ui,hk,jp,jk];refine (ya g).bd ?_ fun m t1 k1 em g1 l1=>?_
  ·rintro ⟨v,_⟩ k e a rfl hk he;simp only [zjQ hk he,yl hk he,zfq hk he,jf,jg,jk];grind
  simp only [zcP g1,jf];cases h4:isP [40] t1 with
  |true=>
    simp only [jl];refine RS.mono (n:=t1.length - 1) ?_ (by omega);refine (zjS g1).bd ?_ fun ks t2 k2 _ g2 l2 =>.ok g2 (by omega) (by rw [yg];rfl)
    rintro ⟨p,q,w⟩ k e a hp hk he;grind
  |false=>
  simp only [jg,jk];refine yR g1 (fun h g2 l2=>?_) fun h=>?_
  · simp only [jl];refine (wM g2).bd ?_ fun x t2 k2 _ g3 l3=>?_
    ·rintro ⟨v,_⟩ k e a rfl hk he;simp only [Zl hk he,jf];grind
    refine (Z9 g3 [93]).bd ?_ fun _ t4 k4 _ g4 l4 =>.ok g4 (by omega) (by rw [xX,wN];rfl)
    grind
  simp only [jg,jk,zcP g1,jf];have hb1:=g1.b
  have two:∀ {g2:GK T (k1+1) t1.tail} (q:Int),RS T d (ts.length - 1) ((z6 t1.tail).bd fun b t2 =>.ok ((⟨q,lit [],0,m.a_,⟨[m,b],true⟩⟩:Nd),t2))
      ((q11 ((G4 ((k1:Int)+1),d,0,0),T)).bind fun y=>some (q6.mk q (lit []) 0 (ndT m).2.2.2 (Sl.mk [q6.mk (ndT m).1 (ndT m).2.1 (ndT m).2.2.1 (ndT m).2.2.2 (Sl.mk [] false),q6.mk y.1.1 y.1.2.1 y.1.2.2.1 y.1.2.2.2 (Sl.mk [] false)] true),y.2)) (fun n st=>(rN n,st)) Prod.snd:=by
    intro g2 q;rw [zL (by omega)];have:=g2.b;have h0:=U8.2 g1.g.ne;refine (ya g2).bd ?_ fun b t2 k2 eb g3 l3 =>.ok g3 (by grind) ?_
    ·grind
    ·rw [Xz m (zJ em),Xz b (zJ eb),yg ⟨q,_,_,_,_⟩,yj];rfl
  have fin:RS T d (ts.length - 1) (xz m t1) ((q1x (q6.mk (ndT m).1 (ndT m).2.1 (ndT m).2.2.1 (ndT m).2.2.2 (Sl.mk [] false),((k1:Int),d,0,0),T)).bind fun y=>some (y.1,y.2)) (fun n st=>(rN n,st)) Prod.snd:=by
    rw [Xz m (zJ em)];rw [show ((q1x (rN m,((k1:Int),d,0,0),T)).bind fun y=>some (y.1,y.2))=q1x (rN m,((k1:Int),d,0,0),T) from Option.bind_fun_some _];exact (zpt g1 m).mono (by omega)
  cases hp:isP [43] t1 with
  |true=>
    have hm:=zgu hp;obtain ⟨g2,l2⟩:=g1.is hp;simp only [hm,jl,GF,jg,false_and,jk,jf,g2.idx1 (by omega),toR,jh];by_cases h1:(hd t1.tail).k_=1
    ·simp only [h1,jl,ga,jf];exact two (g2:=g2) 21
    grind
  |false=>
    cases hq:isP [45] t1 with
    |true=>
      obtain ⟨g2,l2⟩:=g1.is hq;simp only [jl,GF,jg,false_and,jk,jf,g2.idx1 (by omega),toR,jh];by_cases h1:(hd t1.tail).k_=1
      ·simp only [h1,jl,ga,jf];exact two (g2:=g2) 22
      grind
    |false=>
      grind
theorem zt8 (g:GK T k ts):RS T d (ts.length - 1) ((z6 ts).bd WN) (q5a (((k:Int),d,0,0),T)) ndR pkR:=by
 unfold q5a q9o;refine (ya g).bd ?_ fun m t1 k1 em g1 l1=>?_
 ·rintro ⟨v,_⟩ k e a rfl hk he;obtain ⟨w,hw⟩:=zpr (d:=d) (a:=a) hk he;simp only [zjQ hk he,yl hk he,Zl hk he,hw,jf,jg,jk];exact ⟨_,rfl,rfl⟩
 refine RS.mono (n:=t1.length - 1) ?_ (by omega);have h0:=U8.2 g1.g.ne;unfold WN;simp only [zcP g1,jf];cases h4:isP [40] t1 with
 |true=>
  simp only [jl];refine (zjS g1).bd ?_ fun ks t2 k2 _ g2 l2 =>.ok g2 (by omega) ?_
  ·rintro ⟨p,q,w⟩ k e a hp hk he;simp only [Prod.mk.injEq] at hp;obtain ⟨rfl,rfl⟩:=hp;exact ⟨_,rfl,rfl⟩
  ·simp only [ndR,wN,yg];rfl
 |false=>
 simp only [jg,jk];refine yR g1 (fun h g2 l2=>?_) fun h=>?_
 ·simp only [jl];refine (wM g2).bd ?_ fun x t2 k2 _ g3 l3=>?_
  ·rintro ⟨v,_⟩ k e a rfl hk he;obtain ⟨w,hw⟩:=zaD (d:=d) (a:=a) hk he;simp only [Zl hk he,hw,jf];exact ⟨_,rfl,rfl⟩
  refine (Z9 g3 [93]).bd ?_ fun _ t4 k4 _ g4 l4=>?_
  ·rintro _ k e a rfl hk he;obtain ⟨w,hw⟩:=zaD (d:=d) (a:=a) hk he;simp only [Zl hk he,hw,jf,id];exact ⟨_,rfl,rfl⟩
  refine (Z9 g4 [61]).bd ?_ fun _ t5 k5 _ g5 l5=>?_
  ·rintro _ k e a rfl hk he;obtain ⟨w,hw⟩:=zaD (d:=d) (a:=a) hk he;simp only [hw,jf,id];exact ⟨_,rfl,rfl⟩
  refine (wM g5).bd ?_ fun y t6 k6 _ g6 l6 =>.ok g6 (by omega) ?_
  ·rintro ⟨v,_⟩ k e a rfl hk he;exact ⟨_,rfl,rfl⟩
  ·simp only [ndR,yj,zt];rfl
 simp only [jg,jk];refine (Z9 g1 [61]).bd ?_ fun _ t5 k5 _ g5 l5=>?_
 ·rintro _ k e a rfl hk he;obtain ⟨w,hw⟩:=zpr (d:=d) (a:=a) hk he;simp only [hw,jf,id];exact ⟨_,rfl,rfl⟩
 refine (zvD g5).bd ?_ fun y t6 k6 _ g6 l6 =>.ok g6 (by omega) ?_
 ·rintro ⟨v,_⟩ k e a rfl hk he;exact ⟨_,rfl,rfl⟩
 ·simp only [ndR,yj,zt];rfl
end
end
section
section
variable {T:Sl RTk}{d e a:Int}{k n:Nat}{ts:List Tk}
abbrev zjT:=PS->G3 ((Int×G0×Int×Int)×(Int×Int×Int×Int)×Sl RTk×Sl RNd)
structure BlkR (T:Sl RTk) (d:Int) (h:zjT) (blk:List Tk->PR Nd):Prop where
 g:∀ {ts k},GK T k ts->RS T d (ts.length - 1) (blk ts) (h (((k:Int),d,0,0),T)) ndR pkR
 b:∀ {k:Nat} {e a:Int},k < T.xs.length->e≠0->∃ v w,h (((k:Int),d,e,a),T)=some (v,((k:Int),d,e,a),T,w)
variable {h:zjT}{blk:List Tk->PR Nd}
theorem zrq {sz:Nat}{s s':Sl RNd}{l:List RNd}(h:zp sz s l=some s'):s'.xs=s.xs++l:=by
 unfold zp at h;grind
theorem RS.bdq {f:α->List Tk->PR γ}{K:β->G3 δ}{mk:α->PS->β}{pk:β->PS}{mk':γ->PS->δ}{pk':δ->PS}(h:RS T d n r m mk pk)
    (hb:∀ (b:β) (k:Nat) (e a:Int),m=some b->pk b=(((k:Int),d,e,a),T)->k < T.xs.length->e≠0->∃ c,K b=some c/\pk' c=(((k:Int),d,e,a),T))
    (hk:∀ a ts (k:Nat),r = .ok (a,ts)->GK T k ts->ts.length<=n->RS T d n' (f a ts) (K (mk a (((k:Int),d,0,0),T))) mk' pk'):RS T d n' (r.bd f) (m.bind K) mk' pk':=by
  cases r with
  |error e=>
    obtain ⟨b,k,rfl,h1,h2,h3⟩:=h;obtain ⟨c,e1,e2⟩:=hb b k _ _ rfl h1 h2 h3;exact ⟨c,k,e1,e2,h2,h3⟩
  |ok p=>
    obtain ⟨a,ts⟩:=p;obtain ⟨k,rfl,g,l⟩:=h;exact hk a ts k rfl g l
theorem zjU {st:PS}{b} (hb:q1m st=some b):b.2.2.2.xs.length=2:=by
 unfold q1m q59 at hb;obtain ⟨x,_,hb⟩:=jy hb;obtain ⟨y,_,hb⟩:=jy hb;obtain ⟨z,_,hb⟩:=jy hb;cases hb;rfl
theorem zjV {x} {b} (hb:q1n h x=some b):b.2.2.2.xs.length=3:=by
 unfold q1n q3m at hb;obtain ⟨x,hx,hb⟩:=jy hb;obtain ⟨y,_,hb⟩:=jy hb;obtain ⟨z,hz,hb⟩:=jy hb;cases hb;have:=zrq hz;have h2:=zjU hx;grind
theorem zjW (hb:BlkR T d h blk) (g:GK T k ts) (q at_:Int):RS T d (ts.length - 1) (wg blk q at_ ts) (q1n h (q,at_,((k:Int),d,0,0),T)) ndR pkR:=by
 unfold q1n q3m wg;refine (zpu g).bdq ?_ fun m t1 k1 em g1 l1=>?_
 ·rintro ⟨v,p,q,w⟩ k e a hm hp hk he;have h2:=zjU hm;simp only [pkR,Prod.mk.injEq] at hp;obtain ⟨rfl,rfl⟩:=hp;obtain ⟨v2,w2,hw⟩:=hb.b (a:=a) hk he;obtain ⟨wl,wb⟩:=w;simp only [hw,jf];rw [Ya (by grind)];exact ⟨_,rfl,rfl⟩
 obtain ⟨x,y,hk⟩:=zbD em;refine (hb.g g1).bd ?_ fun b t2 k2 eb g2 l2 =>.ok g2 (by omega) ?_
 ·rintro ⟨v,p,q,w⟩ k e a hp hk2 he;simp only [pkR,Prod.mk.injEq] at hp;obtain ⟨rfl,rfl⟩:=hp;simp only [ndR,hk,yj];rw [Ya (by simp)];exact ⟨_,rfl,rfl⟩
 ·simp only [ndR,hk,yj,ndT];rw [Ya (by simp)];simp only [jf,GE,List.map_nil,U5,List.cons_append,Un];rw [yg b,yj]
theorem yb (x y:List UInt8):(lit x=lit y)=(x=y):=propext ⟨fun h=>by have:=congrArg bs h;simpa [XO] using this,fun h=>by rw [h]⟩
theorem zrr (g:GK T k ts) {w:List UInt8}(hw:∃ c∈w,isL c=true):isP w ts=decide ((if (hd ts).k_=2 then (hd ts).T_ else lit [])=lit w):=by
 obtain ⟨c,hc,hl⟩:=hw;unfold isP;by_cases h2:(hd ts).k_=2
 ·simp [h2]
 ·simp only [h2,jm,U7,jk,yb];have e1:decide ([]=w)=false:=by
   grind
  rw [e1];by_cases h4:(hd ts).k_=4
  ·have hm:hd ts∈ts:=by
    match ts,g.g with
    |[],g=>exact absurd rfl g.ne
    |t::r,_=>simp [hd]
   have hne:¬ (hd ts).T_=lit w:=by
    intro e;have:=g.sg _ hm h4 c (by rw [e,XO];exact hc);grind
   simp [hne]
  ·simp [h4]
theorem VJ (g:GK T k ts) (m:Nd):RS T d (ts.length - 1) (Wl m ts) ((qy (lit [59],((k:Int),d,0,0),T)).bind fun y=>some (ndT m,y.1,y.2,rS m.K_)) ndR pkR:=by
 unfold Wl;refine (Z9 g [59]).bd ?_ fun _ t1 k1 _ g1 l1 =>.ok g1 (by omega) rfl
 rintro _ k e a rfl hk he;exact ⟨_,rfl,rfl⟩
end
end
section
section
variable {T:Sl RTk}{d e a:Int}{k n:Nat}{ts:List Tk}
variable {h:zjT}{blk:List Tk->PR Nd}
set_option maxHeartbeats 2000000 in
theorem zvE (hb:BlkR T d h blk) (g:GK T k ts):RS T d (ts.length - 1) (YE blk ts) (q2n h (((k:Int),d,0,0),T)) ndR pkR:=by
 unfold q2n q5b;simp only [g.idx,jf,toR,jh];have hgb:=g.b;obtain ⟨F,hF⟩:∃ F,F=(if (hd ts).k_=2 then (hd ts).T_ else lit []):=⟨_,rfl⟩
 have e1:(if (hd ts).k_=2 then some ((hd ts).a_,(hd ts).T_,((k:Int),d,(0:Int),(0:Int)),T,(0:Int),lit [],(0:Int),(0:Int)) else some ((hd ts).a_,lit [],((k:Int),d,0,0),T,0,lit [],0,0))=some ((hd ts).a_,F,((k:Int),d,0,0),T,0,lit [],0,0):=by
  grind
 have is:∀ w:List UInt8,(∃ c∈w,isL c=true)->isP w ts=decide (F=lit w):=fun w hw=>by rw [hF];exact zrr g hw
 rw [e1];simp only [jf];clear e1 hF;unfold YE;rw [is [102,114,101,101] ⟨102,by simp,rfl⟩,is [108,111,99,107] ⟨108,by simp,rfl⟩,is [117,110,108,111,99,107] ⟨117,by simp,rfl⟩,is [105,102] ⟨105,by simp,rfl⟩,is [119,104,105,108,101] ⟨119,by simp,rfl⟩,is [114,101,116,117,114,110] ⟨114,by simp,rfl⟩,is [97,98,111,114,116] ⟨97,by simp,rfl⟩,is [102,111,114,107] ⟨102,by simp,rfl⟩];have gk:∀ w:List UInt8,(∃ c∈w,isL c=true)->F=lit w->GK T (k+1) ts.tail/\ts.tail.length+1=ts.length:=fun w hw e=>g.is (s:=w) (by grind)
 have hw1:=zL (k:=k) (by omega);by_cases h1:F=lit [102,114,101,101]
 ·obtain ⟨g1,l1⟩:=gk _ ⟨102,by simp,rfl⟩ h1;subst h1;simp (decide:=true) only [yb,hw1,ga,jf,jj,ji,jo,jl,jk,jg,jm];refine (ya g1).bd ?_ fun m t1 k1 em g2 l2=>?_
  ·rintro ⟨v,_⟩ k e a rfl hk he;simp only [Zl hk he,jf];exact ⟨_,rfl,rfl⟩
  refine RS.mono (n:=t1.length - 1) ?_ (by omega);obtain ⟨t,t',_,e3⟩:=bd_ok em;have:=VJ (d:=d) g2 ⟨12,m.T_,m.n_,(hd ts).a_,nilS⟩;rw [yk] at this;cases e3;exact this
 by_cases h2:F=lit [108,111,99,107]
 ·obtain ⟨g1,l1⟩:=gk _ ⟨108,by simp,rfl⟩ h2;subst h2;simp (decide:=true) only [yb,hw1,ga,jf,jj,ji,jo,jl,jk,jg,jm];unfold atP yZ;simp only [PR.bd_assoc,PR.bd_ok];refine (ya g1).bd ?_ fun m t1 k1 em g2 l2=>?_
  ·rintro ⟨v,_⟩ k e a rfl hk he;simp only [Zl hk he,xA hk he,jf];exact ⟨_,rfl,rfl⟩
  refine (Z9 g2 [91]).bd ?_ fun _ t2 k2 _ g3 l3=>?_
  ·rintro _ k e a rfl hk he;simp only [Zl hk he,xA hk he,jf,id];exact ⟨_,rfl,rfl⟩
  refine (X5 g3).bd ?_ fun t t3 k3 _ g4 l4=>?_
  ·rintro ⟨v,_⟩ k e a rfl hk he;simp only [Zl hk he,xA hk he,jf,id];exact ⟨_,rfl,rfl⟩
  refine (Z9 g4 [93]).bd ?_ fun _ t5 k5 _ g5 l5=>?_
  ·rintro _ k e a rfl hk he;simp only [Zl hk he,xA hk he,jf,id];exact ⟨_,rfl,rfl⟩
  refine RS.mono (n:=t5.length - 1) ?_ (by omega);have:=VJ (d:=d) g5 ⟨13,m.T_,1 * t.n_,(hd ts).a_,nilS⟩;rw [yk,X6] at this;rw [X6];exact this
 by_cases h3:F=lit [117,110,108,111,99,107]
 ·obtain ⟨g1,l1⟩:=gk _ ⟨117,by simp,rfl⟩ h3;subst h3;simp (decide:=true) only [yb,hw1,ga,jf,jj,ji,jo,jl,jk,jg,jm];unfold atP yZ;simp only [PR.bd_assoc,PR.bd_ok];refine (ya g1).bd ?_ fun m t1 k1 em g2 l2=>?_
  ·rintro ⟨v,_⟩ k e a rfl hk he;simp only [Zl hk he,xA hk he,jf];exact ⟨_,rfl,rfl⟩
  refine (Z9 g2 [91]).bd ?_ fun _ t2 k2 _ g3 l3=>?_
  ·rintro _ k e a rfl hk he;simp only [Zl hk he,xA hk he,jf,id];exact ⟨_,rfl,rfl⟩
  refine (X5 g3).bd ?_ fun t t3 k3 _ g4 l4=>?_
  ·rintro ⟨v,_⟩ k e a rfl hk he;simp only [Zl hk he,xA hk he,jf,id];exact ⟨_,rfl,rfl⟩
  refine (Z9 g4 [93]).bd ?_ fun _ t5 k5 _ g5 l5=>?_
  ·rintro _ k e a rfl hk he;simp only [Zl hk he,xA hk he,jf,id];exact ⟨_,rfl,rfl⟩
  refine RS.mono (n:=t5.length - 1) ?_ (by omega);have:=VJ (d:=d) g5 ⟨14,m.T_,1 * t.n_,(hd ts).a_,nilS⟩;rw [yk,X6] at this;rw [X6];exact this
 by_cases h4:F=lit [105,102]
 ·obtain ⟨g1,l1⟩:=gk _ ⟨105,by simp,rfl⟩ h4;subst h4;simp (decide:=true) only [yb,hw1,ga,jf,jj,ji,jo,jl,jk,jg,jm];refine (zjW hb g1 15 (hd ts).a_).bdq ?_ fun m t1 k1 em g2 l2=>?_
  ·rintro ⟨v,p,q,w⟩ k e a hm hp hk he;have h3:=zjV hm;simp only [pkR,Prod.mk.injEq] at hp;obtain ⟨rfl,rfl⟩:=hp;obtain ⟨wl,wb⟩:=w;simp only [yl hk he,jf,jg,jk];rw [Ya (by grind)];exact ⟨_,rfl,rfl⟩
  obtain ⟨x,y,z,hk⟩:=zcL em;simp only [ndR,hk,yj];refine yR g2 (fun h5 g3 l3=>?_) fun h5=>?_
  ·simp only [jl,ga,jf];refine (hb.g g3).bd ?_ fun b t2 k2 eb g4 l4 =>.ok g4 (by omega) ?_
   ·rintro ⟨v,p,q,w⟩ k e a hp hk2 he;simp only [pkR,Prod.mk.injEq] at hp;obtain ⟨rfl,rfl⟩:=hp;rw [Ya (by simp)];exact ⟨_,rfl,rfl⟩
   ·simp only [ndR,hk,yj,ndT];rw [Ya (by simp)];simp only [jf,jj,GE,List.map_nil,U5,List.cons_append,Un];rw [yg b,yj]
  ·simp only [jg,jk,jf];rw [Ya (by simp)];refine .ok g2 (by omega) ?_;simp only [ndR,hk,yj,ndT,jf,jj,GE,List.map_nil,U5,List.cons_append,Un,xX]
 by_cases h5:F=lit [119,104,105,108,101]
 ·obtain ⟨g1,l1⟩:=gk _ ⟨119,by simp,rfl⟩ h5;subst h5;simp (decide:=true) only [yb,hw1,ga,jf,jj,ji,jo,jl,jk,jg,jm];rw [show ((q1n h (16,(hd ts).a_,(((k+1:Nat):Int),d,0,0),T)).bind fun y=>some (y.1,y.2.1,y.2.2.1,y.2.2.2))=q1n h (16,(hd ts).a_,(((k+1:Nat):Int),d,0,0),T) from Option.bind_fun_some _];exact (zjW hb g1 16 (hd ts).a_).mono (by omega)
 by_cases h6:F=lit [114,101,116,117,114,110]
 ·obtain ⟨g1,l1⟩:=gk _ ⟨114,by simp,rfl⟩ h6;subst h6;simp (decide:=true) only [yb,hw1,ga,jf,jj,ji,jo,jl,jk,jg,jm,zcP g1];cases h7:isP [59] ts.tail with
  |true=>
   simp only [Um,jg,jk,jl,jf,ji];have:=VJ (d:=d) g1 ⟨17,lit [],0,(hd ts).a_,nilS⟩;rw [yk] at this;exact this.mono (by omega)
  |false=>
   simp only [U1,jg,jk,jl,ga,jf,ji];refine (wM g1).bd ?_ fun x t2 k2 _ g3 l3=>?_
   ·rintro ⟨v,_⟩ k e a rfl hk he;simp only [Zl hk he,jf];exact ⟨_,rfl,rfl⟩
   have:=VJ (d:=d) g3 ⟨17,lit [],0,(hd ts).a_,⟨[x],true⟩⟩;rw [wN] at this;simp only [zt];exact this.mono (by omega)
 by_cases h7:F=lit [97,98,111,114,116]
 ·obtain ⟨g1,l1⟩:=gk _ ⟨97,by simp,rfl⟩ h7;subst h7;simp (decide:=true) only [yb,hw1,ga,jf,jj,ji,jo,jl,jk,jg,jm];have:=VJ (d:=d) g1 ⟨18,lit [],0,(hd ts).a_,nilS⟩;rw [yk] at this;exact this.mono (by omega)
 by_cases h8:F=lit [102,111,114,107]
 ·obtain ⟨g1,l1⟩:=gk _ ⟨102,by simp,rfl⟩ h8;subst h8;simp (decide:=true) only [yb,hw1,ga,jf,jj,ji,jo,jl,jk,jg,jm];refine (ya g1).bd ?_ fun m t1 k1 em g2 l2=>?_
  ·rintro ⟨v,_⟩ k e a rfl hk he;obtain ⟨w,hw⟩:=zvB (d:=d) (a:=a) hk he;simp only [hw,Zl hk he,jf];exact ⟨_,rfl,rfl⟩
  refine (zjS g2).bd ?_ fun ks t2 k2 _ g3 l3=>?_
  ·rintro ⟨p,q,w⟩ k e a hp hk he;simp only [Prod.mk.injEq] at hp;obtain ⟨rfl,rfl⟩:=hp;simp only [Zl hk he,jf];exact ⟨_,rfl,rfl⟩
  refine RS.mono (n:=t2.length - 1) ?_ (by omega);obtain ⟨t,t',_,e3⟩:=bd_ok em;have:=VJ (d:=d) g3 ⟨19,m.T_,m.n_,(hd ts).a_,ks⟩;cases e3;exact this
 simp only [h1,h2,h3,h4,h5,h6,h7,h8,ga,jf,jm,jk,jg];rw [<- PR.bd_assoc];refine (zt8 g).bd ?_ fun m t1 k1 em g2 l2=>?_
 ·rintro ⟨v,p,q,w⟩ k e a hp hk he;simp only [pkR,Prod.mk.injEq] at hp;obtain ⟨rfl,rfl⟩:=hp;simp only [Zl hk he,jf,ji];exact ⟨_,rfl,rfl⟩
 have:=VJ (d:=d) g2 m;simp only [ji];exact this.mono (by omega)
end
end
section
section
variable {T:Sl RTk}{d e a:Int}{k n:Nat}{ts:List Tk}
variable {h:zjT}{blk:List Tk->PR Nd}
theorem xk {acc:List Nd}{x:RNd}(h:acc.length<=30000):zp 64 (rS (mkS acc)) [x]=some ⟨acc.map rN++[x],true⟩:=by
 rw [yj,yY (by simp [mkS];omega) (by simp [mkS];omega)];simp [mkS]
theorem zfr (acc:List Nd) (x:Nd):(⟨acc.map rN++[rN x],true⟩:Sl RNd)=rS (mkS (acc++[x])):=by
 rw [yj];simp [mkS]
noncomputable abbrev zcQ (h:zjT):=q3b q1i q15 qy qu (q2n h)
theorem VK (he:e≠0) (p:Int) (u v:Int×G0×Int×Int) (acc:Sl RNd):lpO (zcQ h) ((p,d,e,a),T,u,v,acc)=some ((p,d,e,a),T,u,v,acc):=
 zx (by unfold zcQ q3b;grind)
theorem zpw (hb:BlkR T d h blk) {u v:Int×G0×Int×Int}:∀ (j:Nat) (ts:List Tk) (k:Nat) (acc:List Nd),GK T k ts->ts.length<=j->acc.length+ts.length<=30000->
    RS T d (ts.length - 1) (xj (YE blk) j acc ts) (lpO (zcQ h) (((k:Int),d,0,0),T,u,v,rS (mkS acc))) (fun l st=>(st.1,st.2,u,v,rS (mkS l))) (fun b=>(b.1,b.2.1))
  |0,ts,k,acc,g,hj,ha=>absurd (GP (by omega)) g.g.ne
  |j+1,ts,k,acc,g,hj,ha=>by
    unfold xj;cases h2:isP [125] ts with
    |true=>
      obtain ⟨g1,l1⟩:=g.is h2;rw [zx (y:=((((k+1:Nat):Int),d,0,0),T,u,v,rS (mkS acc))) (by unfold zcQ q3b;simp only [YW g,h2,jf,jo,jl])];exact .ok g1 (by omega) rfl
    |false=>
      simp only [jg,jk];have hs:=zvE hb g;cases es:YE blk ts with
      |error er=>
        rw [es] at hs;obtain ⟨⟨w,p,q,ks⟩,k1,e1,hp,h3,h4⟩:=hs;simp only [pkR,Prod.mk.injEq] at hp;obtain ⟨rfl,hq⟩:=hp;obtain rfl:T=q:=hq.symm;have hn:zcQ h (((k:Int),d,0,0),T,u,v,rS (mkS acc))=some (.next (((k1:Int),d,er.2,er.1),T,u,v,⟨acc.map rN++[⟨w.1,w.2.1,w.2.2.1,w.2.2.2,ks⟩],true⟩)):=by
          unfold zcQ q3b;simp only [YW g,h2,jf,jo,jl,jg,jk,e1];rw [xk (acc:=acc) (by omega)];rfl
        rw [zD hn,VK h4];exact ⟨_,k1,rfl,rfl,h3,h4⟩
      |ok p=>
        obtain ⟨x,t1⟩:=p;rw [es] at hs;obtain ⟨k1,e1,g1,l1⟩:=hs;have hn:zcQ h (((k:Int),d,0,0),T,u,v,rS (mkS acc))=some (.next (((k1:Int),d,0,0),T,u,v,rS (mkS (acc++[x])))):=by
          unfold zcQ q3b;simp only [YW g,h2,jf,jo,jl,jg,jk,e1,ndR,ndT];rw [xk (acc:=acc) (by grind),show q6.mk x.k_ x.T_ x.n_ x.a_ (rS x.K_)=rN x from (yg x).symm,zfr];rfl
        have hpos:=U8.2 g.g.ne;rw [zD hn];exact (zpw hb j t1 k1 (acc++[x]) g1 (by omega) (by simp;omega)).mono (by omega)
theorem zlt:∀ (r:Nat) (j:Nat) (d:Int),d=8 - (r:Int)->0<=d->r+1<=j->BlkR T d (q3a j) (Z8 r)
 |r,0,d,_,_,hk=>by omega
 |0,j+1,d,hd',h0,hk=>by
  refine ⟨fun {ts k} g=>?_,fun {k e a} h1 h2=>zlr h1 h2 (by omega) j⟩;show RS T d _ _ (q26 _ _ _ _ _ _) _ _;unfold q26 Z8;simp only [g.idx,zcP g,jf,toR];have hw:G4 (d+1)=d+1:=zM (by omega) (by omega);have hw2:G4 (d+1 - 1)=d:=by rw [zM (by omega) (by omega)];omega
  cases e:isP [123] ts with
  |true=>
   have:decide (8<=d)=true:=gc (by omega);simp only [jl,jf,this,Vg g,Zl g.lt (show (21:Int)≠0 by decide)];rw [VK (by decide)];simp only [jf,hw,hw2];exact ⟨_,k,rfl,rfl,g.lt,by simp [xy]⟩
  |false=>
   simp only [jg,jk,jf];have hm:zT [123] ts = .error ((hd ts).a_,20):=by unfold zT;rw [e];rfl
   have:=Z9 (d:=d) g [123];rw [hm] at this;obtain ⟨b,k1,e1,rfl,h3,h4⟩:=this;rw [e1];simp only [jf,id];rw [VK h4];simp only [jf,hw,hw2];exact ⟨_,k1,rfl,rfl,h3,h4⟩
 |r+1,j+1,d,hd',h0,hk=>by
  refine ⟨fun {ts k} g=>?_,fun {k e a} h1 h2=>zlr h1 h2 (by omega) j⟩;show RS T d _ _ (q26 _ _ _ _ _ _) _ _;unfold q26 Z8;simp only [g.idx,zcP g,jf,toR];have hw:G4 (d+1)=d+1:=zM (by omega) (by omega);have hw2:G4 (d+1 - 1)=d:=by rw [zM (by omega) (by omega)];omega
  have h8:decide (8<=d)=false:=decide_eq_false (by omega);have hb:=zlt r j (d+1) (by omega) (by omega) (by omega);have hgb:=g.b;have e1:(if isP [123] ts=true then some (decide (8<=d),((k:Int),d,(0:Int),(0:Int)),T,((0,lit [],0,0):Int×G0×Int×Int),((9,lit [],0,(hd ts).a_):Int×G0×Int×Int)) else some (false,((k:Int),d,0,0),T,(0,lit [],0,0),(9,lit [],0,(hd ts).a_)))=some (false,((k:Int),d,0,0),T,(0,lit [],0,0),(9,lit [],0,(hd ts).a_)):=by
   grind
  rw [e1];simp only [jf,jg,jk];refine (Z9 g [123]).bd ?_ fun _ t1 k1 _ g1 l1=>?_
  ·rintro _ k e a rfl hk he;simp only [id];rw [VK he];simp only [jf,hw,hw2];exact ⟨_,rfl,rfl⟩
  simp only [hw];have lp:=zpw hb (u:=(0,lit [],0,0)) (v:=(9,lit [],0,(hd ts).a_)) t1.length t1 k1 [] g1 (GJ _) (by grind);rw [show rS (mkS ([]:List Nd))=⟨[],false⟩ by rw [yj];rfl] at lp;cases es:xj (YE (Z8 r)) t1.length [] t1 with
  |error er=>
   rw [es] at lp;obtain ⟨⟨p,q,w⟩,k2,e2,hp,h3,h4⟩:=lp;simp only [Prod.mk.injEq] at hp;obtain ⟨rfl,hq⟩:=hp;obtain rfl:T=q:=hq.symm;rw [e2];simp only [jf,hw2];exact ⟨_,k2,rfl,rfl,h3,h4⟩
  |ok p=>
   obtain ⟨l,t2⟩:=p;rw [es] at lp;obtain ⟨k2,e2,g2,l2⟩:=lp;rw [e2];simp only [jf,hw2];exact .ok g2 (by omega) rfl
theorem zfs:BlkR T 0 q46 (Z8 8):=zlt 8 100000 0 (by omega) (by omega) (by omega)
end
end
section
section
variable {T:Sl RTk}{d e a:Int}{k n:Nat}{ts:List Tk}{z hdr:Int×G0×Int×Int}
abbrev LSt:=(Int×Int×Int×Int)×Sl RTk×(Int×G0×Int×Int)×(Int×G0×Int×Int)×Sl RNd
def LQ (T:Sl RTk) (d:Int) (n:Nat) (r:PR (List Nd)) (m:G3 LSt) (z hdr:Int×G0×Int×Int):Prop:=match r with
 | .error e=>∃ (k:Nat) (w:Sl RNd),m=some (((k:Int),d,e.2,e.1),T,z,hdr,w)/\k < T.xs.length/\e.2≠0/\w.xs.length<=30001
 | .ok (l,ts)=>∃ k:Nat,m=some (((k:Int),d,0,0),T,z,hdr,rS (mkS l))/\GK T k ts/\ts.length<=n/\l.length+ts.length<=30001
theorem LQ.bd {r:PR (List Nd)}{f:List Nd->List Tk->PR γ}{m:G3 LSt}{K:LSt->G3 δ}{mk':γ->PS->δ}{pk':δ->PS}(h:LQ T d n r m z hdr)
    (hb:∀ (k:Nat) (e a:Int) (w:Sl RNd),k < T.xs.length->e≠0->w.xs.length<=30001->∃ c,K (((k:Int),d,e,a),T,z,hdr,w)=some c/\pk' c=(((k:Int),d,e,a),T))
    (hk:∀ l ts (k:Nat),r = .ok (l,ts)->GK T k ts->ts.length<=n->l.length+ts.length<=30001->RS T d n' (f l ts) (K (((k:Int),d,0,0),T,z,hdr,rS (mkS l))) mk' pk'):RS T d n' (r.bd f) (m.bind K) mk' pk':=by
  cases r with
  |error e=>
    obtain ⟨k,w,rfl,h1,h2,h3⟩:=h;obtain ⟨c,e1,e2⟩:=hb k _ _ w h1 h2 h3;exact ⟨c,k,e1,e2,h1,h2⟩
  |ok p=>
    obtain ⟨l,ts⟩:=p;obtain ⟨k,rfl,g,l1,l2⟩:=h;exact hk l ts k rfl g l1 l2
theorem LQ.mono {r:PR (List Nd)}{m:G3 LSt}(h:LQ T d n r m z hdr) (l:n<=n'):LQ T d n' r m z hdr:=by
 cases r with
 |error e=>exact h
 |ok p=>obtain ⟨k,h1,h2,h3,h4⟩:=h;exact ⟨k,h1,h2,GM h3 l,h4⟩
def zm0 (T:Sl RTk) (d:Int) (one:List Tk->PR Nd) (f:PS->G3 (RNd×PS)):Prop:=∀ {ts k},GK T k ts->RS T d (ts.length - 1) (one ts) (f (((k:Int),d,0,0),T)) (fun n st=>(rN n,st)) Prod.snd
noncomputable def zft (st:PS):G3 (RNd×PS):=(q11 st).bind fun y5=>(qy (lit [58],y5.2)).bind fun y6=>(q2s y6).bind fun y7=>
 some (q6.mk 7 y5.1.2.1 y5.1.2.2.1 y5.1.2.2.2 (Sl.mk [y7.1] true),y7.2)
theorem zt9:zm0 T d xi zft:=by
 intro ts k g;unfold zft xi;refine (ya g).bd ?_ fun m t1 k1 em g1 l1=>?_
 ·rintro ⟨v,_⟩ k e a rfl hk he;obtain ⟨w,hw⟩:=zjR (d:=d) (a:=a) hk he;simp only [Zl hk he,hw,jf];grind
 refine (Z9 g1 [58]).bd ?_ fun _ t2 k2 _ g2 l2=>?_
 ·rintro _ k e a rfl hk he;obtain ⟨w,hw⟩:=zjR (d:=d) (a:=a) hk he;grind
 refine (zpv g2).bd ?_ fun x t3 k3 _ g3 l3 =>.ok g3 (by omega) ?_
 ·grind
 ·rw [xX,wN];rfl
noncomputable abbrev Vh:=q8x q11 qy qu q2s q1i q15 q46
noncomputable def zdi (f:PS->G3 (RNd×PS)) (cl:G0) (fl:Bool->Bool) (x:PS) (z hdr:Int×G0×Int×Int) (w:Sl RNd):G3 (Step (Bool×LSt) LSt):=
 (f x).bind fun y=>(zp 64 w [y.1]).bind fun w'=>(qu (lit [44],y.2)).bind fun y9=>
  (if (!y9.1)=true then (qy (cl,y9.2)).bind fun y10=>some (fl y9.1,y10.1,y10.2,z,hdr,w') else some (fl y9.1,y9.2.1,y9.2.2,z,hdr,w')).bind fun y11=>some (Step.next y11)
theorem zcR {f:PS->G3 (RNd×PS)}(hf:zm0 T d one f) {cl:List UInt8}{fl:Bool->Bool}{body:Bool×LSt->G3 (Step (Bool×LSt) LSt)}
    (h1:∀ (k:Nat) w,body (fl true,((k:Int),d,0,0),T,z,hdr,w)=zdi f (lit cl) fl (((k:Int),d,0,0),T) z hdr w)
    (h0:∀ (p:Int×Int×Int×Int) w,body (fl false,p,T,z,hdr,w)=some (.done (p,T,z,hdr,w))):∀ (j:Nat) (ts:List Tk) (k:Nat) (acc:List Nd),GK T k ts->ts.length<=j->acc.length+ts.length<=30000->
    LQ T d (ts.length - 1) ((one ts).bd fun a t1=>(Zm one j (acc++[a]) t1).bd fun l t2=>(zT cl t2).bd fun _ t3 =>.ok (l,t3)) (lpO body (fl true,((k:Int),d,0,0),T,z,hdr,rS (mkS acc))) z hdr
  |0,ts,k,acc,g,hj,ha=>absurd (GP (by omega)) g.g.ne
  |j+1,ts,k,acc,g,hj,ha=>by
    have hpos:=U8.2 g.g.ne;have hr:=hf g;have hb:=h1 k (rS (mkS acc));unfold zdi at hb;cases e:one ts with
    |error er=>
      rw [e] at hr;obtain ⟨⟨v,_⟩,k1,e1,rfl,h3,h4⟩:=hr;rw [e1] at hb;simp only [jf] at hb;rw [xk (acc:=acc) (by omega)] at hb;simp only [jf,yl h3 h4,U1,jl,Zl h3 h4] at hb;rw [zD hb,zx (h0 _ _)];exact ⟨k1,_,rfl,h3,h4,by simp;omega⟩
    |ok p=>
      obtain ⟨x,t1⟩:=p;rw [e] at hr;obtain ⟨k1,e1,g1,l1⟩:=hr;rw [e1] at hb;simp only [jf] at hb;rw [xk (acc:=acc) (by omega),zfr] at hb;simp only [jf,YW g1] at hb;rw [PR.bd_ok];unfold Zm;have hpos1:=U8.2 g1.g.ne;cases h44:isP [44] t1 with
      |true=>
        obtain ⟨g2,l2⟩:=g1.is h44;rw [h44] at hb;simp only [Um,jg,jk,jl,jf] at hb;rw [zD hb];simp only [jl,PR.bd_assoc];exact (zcR hf h1 h0 j t1.tail (k1+1) (acc++[x]) g2 (by omega) (by simp;omega)).mono (by omega)
      |false=>
        rw [h44] at hb;simp only [U1,jg,jk,jl,jf] at hb;simp only [jg,jk,PR.bd_ok];have hm:=Z9 (d:=d) g1 cl;cases em:zT cl t1 with
        |error er=>
          rw [em] at hm;obtain ⟨b,k2,e2,hp,h3,h4⟩:=hm;simp only [id] at hp;subst hp;rw [e2] at hb;simp only [jf] at hb;rw [zD hb,zx (h0 _ _)];exact ⟨k2,_,rfl,h3,h4,by rw [yj];simp [mkS];omega⟩
        |ok p=>
          obtain ⟨u,t2⟩:=p;rw [em] at hm;obtain ⟨k2,e2,g2,l2⟩:=hm;rw [e2] at hb;simp only [jf] at hb;rw [zD hb,zx (h0 _ _)];exact ⟨k2,rfl,g2,by omega,by simp;omega⟩
theorem zrs (k:Nat) (w:Sl RNd):Vh (false,((k:Int),d,0,0),T,z,hdr,w)=zdi zft (lit [41]) (fun b=> !b) (((k:Int),d,0,0),T) z hdr w:=by
 unfold Vh q8x zdi zft;simp only [U1,jl,jo,jf,ga,zt];congr 1;funext y5;grind
theorem zjX (p:Int×Int×Int×Int) (w:Sl RNd):Vh (true,p,T,z,hdr,w)=some (.done (p,T,z,hdr,w)):=rfl
end
end
section
section
variable {T:Sl RTk}{d e a:Int}{k n:Nat}{ts:List Tk}{z hdr:Int×G0×Int×Int}
theorem PR.bd_ite {c:Prop}[Decidable c] {p q:PR α}:PR.bd (if c then p else q) f=if c then p.bd f else q.bd f:=by split <;> rfl
theorem zjY:rS (mkS ([]:List Nd))=⟨[],false⟩:=by rw [yj];rfl
theorem zpx {w:Sl RNd}{x:RNd}(h:w.xs.length<=40000):∃ w',zp 64 w [x]=some w'/\w'.xs.length=w.xs.length+1:=by
 rw [yY (by simp;omega) (by simp;omega)];grind
theorem zlu (he:e≠0) (p:Int) (w:Sl RNd):lpO Vh (false,(p,d,e,a),T,z,hdr,w)=some ((p,d,e,a),T,z,hdr,w):=
 zx (by unfold Vh q8x;grind)
theorem zrt (g:GK T k ts) (hl:ts.length<=25000):LQ T d ts.length ((if isP [41] ts=true then .ok ([],ts) else Z3 xi ts:PR (List Nd)).bd fun ps t3=>(zT [41] t3).bd fun _ t4 =>.ok (ps,t4))
    ((qu (lit [41],((k:Int),d,0,0),T)).bind fun y2=>lpO Vh (y2.1,y2.2.1,y2.2.2,z,hdr,Sl.mk [] false)) z hdr:=by
  rw [YW g,jf];cases h:isP [41] ts with
  |true=>
    obtain ⟨g1,l1⟩:=g.is h;have hm:zT [41] ts = .ok ((),ts.tail):=by unfold zT;rw [jr h]
    simp only [jl,PR.bd_ok,hm];rw [zx (zjX _ _)];exact ⟨k+1,by rw [zjY],g1,by omega,by simp;omega⟩
  |false=>
    simp only [jg,jk];unfold Z3;rw [PR.bd_assoc,<- zjY];exact (zcR (fl:=fun b=> !b) (body:=Vh) (z:=z) (hdr:=hdr) zt9 zrs zjX ts.length ts k [] g (GJ _) (by simp;omega)).mono (by omega)
def zjZ (t4:List Tk):PR Nd:=if isP [45,62] t4=true then (if isP [38] t4.tail=true then xy 20 t4.tail else wL t4.tail) else .ok (⟨8,lit [],0,(hd t4).a_,nilS⟩,t4)
theorem zpy (at_:Int) (ts:List Tk):fnP at_ ts=(z6 ts).bd fun n t1=>(zT [40] t1).bd fun _ t2=>
    ((if isP [41] t2=true then .ok ([],t2) else Z3 xi t2:PR (List Nd)).bd fun ps t3=>(zT [41] t3).bd fun _ t4 =>.ok (ps,t4)).bd fun ps t4=>
    (zjZ t4).bd fun ret t5=>(Z8 8 t5).bd fun b t6 =>.ok (⟨6,n.T_,n.n_,at_,⟨ps++[ret,b],true⟩⟩,t6):=by
  unfold fnP zjZ;simp only [PR.bd_assoc,PR.bd_ok]
theorem zx4 (g:GK T k ts) (hl:ts.length<=25000) (at_:Int):RS T 0 (ts.length - 1) (fnP at_ ts) (q5c (at_,((k:Int),0,0,0),T)) ndR pkR:=by
  unfold q5c qbe;rw [zpy]
  have tl:∀ {k:Nat} {e a:Int} {w:Sl RNd} {z hdr:Int×G0×Int×Int},k < T.xs.length->e≠0->w.xs.length<=30001->∃ c,((zd T (k:Int)).bind fun y13=>(zd T (k:Int)).bind fun y14=>(qu (lit [45,62],((k:Int),0,e,a),T)).bind fun y15=>
      (if y15.1=true then (q1i (lit [38],y15.2)).bind fun y16=>(if y16.1=true then (q15 (20,y16.2)).bind fun y17=>some (y17.1,y17.2,z,hdr,((8,lit [],0,y14.a_):Int×G0×Int×Int),w) else some (y16.2.1,y16.2.2,z,hdr,(8,lit [],0,y14.a_),w)).bind fun y18=>
        (q2s (y18.1,y18.2.1)).bind fun y19=>some (y19.2.1,y19.2.2,y18.2.2.1,y18.2.2.2.1,kr y19.1,y18.2.2.2.2.2)
      else some (y15.2.1,y15.2.2,z,hdr,q6.mk 8 (lit []) 0 y14.a_ (Sl.mk [] false),w)).bind fun y20=>
      (q46 (y20.1,y20.2.1)).bind fun y21=>(zp 64 y20.2.2.2.2.2 [kr y20.2.2.2.2.1]).bind fun y22=>
      (zp 64 y22 [q6.mk y21.1.1 y21.1.2.1 y21.1.2.2.1 y21.1.2.2.2 y21.2.2.2]).bind fun y23=>some (y20.2.2.2.1,y21.2.1,y21.2.2.1,y23))=some c/\pkR c=(((k:Int),0,e,a),T):=by
    intro k e a w z hdr hk he hw;obtain ⟨t,ht⟩:=zbH hk;obtain ⟨v2,w2,hb⟩:=zfs.b (a:=a) hk he;simp only [ht,yl hk he,hb,jf,jg,jk];obtain ⟨w3,e3,l3⟩:=zpx (w:=w) (x:=q6.mk 8 (lit []) 0 t.a_ (Sl.mk [] false)) (by omega);obtain ⟨w4,e4,l4⟩:=zpx (w:=w3) (x:=q6.mk v2.1 v2.2.1 v2.2.2.1 v2.2.2.2 w2) (by omega);simp only [e3,e4,jf];exact ⟨_,rfl,rfl⟩
  refine (ya g).bd ?_ fun m t1 k1 em g1 l1=>?_
  ·rintro ⟨v,_⟩ k e a rfl hk he;simp only [Zl hk he,yl hk he,jf];rw [zlu he];simp only [jf];exact tl hk he (by simp)
  refine (Z9 g1 [40]).bd ?_ fun _ t2 k2 _ g2 l2=>?_
  ·rintro _ k e a rfl hk he;simp only [yl hk he,jf,id];rw [zlu he];simp only [jf];exact tl hk he (by simp)
  rw [<- ga];refine (zrt g2 (by omega)).bd ?_ fun ps t4 k4 _ g4 l4 l4b=>?_
  ·intro k e a w hk he hw;exact tl hk he hw
  have hpos:=U8.2 g4.g.ne;simp only [g4.idx,jf,toR]
  have fin:∀ {t5:List Tk} {k5:Nat} (ret:Nd),GK T k5 t5->t5.length<=t4.length->RS T 0 (ts.length - 1) ((Z8 8 t5).bd fun b t6 =>.ok (⟨6,m.T_,m.n_,at_,⟨ps++[ret,b],true⟩⟩,t6))
      ((q46 (((k5:Int),0,0,0),T)).bind fun y21=>(zp 64 (rS (mkS ps)) [rN ret]).bind fun y22=>
      (zp 64 y22 [q6.mk y21.1.1 y21.1.2.1 y21.1.2.2.1 y21.1.2.2.2 y21.2.2.2]).bind fun y23=>some (((6,m.T_,m.n_,at_):Int×G0×Int×Int),y21.2.1,y21.2.2.1,y23)) ndR pkR:=by
    intro t5 k5 ret g5 l5;rw [xk (acc:=ps) (by omega)];refine (zfs.g g5).bd ?_ fun b t6 k6 _ g6 l6 =>.ok g6 (by omega) ?_
    ·rintro ⟨v,p,q,w⟩ k e a hp hk he;simp only [pkR,Prod.mk.injEq] at hp;obtain ⟨rfl,rfl⟩:=hp;simp only [jf];rw [Ya (by simp;omega)];exact ⟨_,rfl,rfl⟩
    ·simp only [jf,ndR,ndT];rw [Ya (by simp;omega),show q6.mk b.k_ b.T_ b.n_ b.a_ (rS b.K_)=rN b from (yg b).symm,yj];simp
  unfold zjZ;rw [PR.bd_ite];refine yR g4 (fun h5 g5 l5=>?_) fun h5=>?_
  · simp only [jl,zcP g5,jf];cases h6:isP [38] t4.tail with
    |true=>
      simp only [jl,Vg g5,jf];obtain ⟨v,hv⟩:=zjR (d:=0) (a:=(hd t4.tail).a_) g5.lt (show (20:Int)≠0 by decide);obtain ⟨v2,w2,hb⟩:=zfs.b (a:=(hd t4.tail).a_) g5.lt (show (20:Int)≠0 by decide);simp only [hv,hb,jf,zt];rw [xk (acc:=ps) (by omega)];simp only [jf];rw [Ya (by simp;omega)];exact ⟨_,_,rfl,rfl,g5.lt,by simp [xy]⟩
    |false=>
      simp only [jg,jk,jf,ga];refine (zpv g5).bd ?_ fun ret t5 k5 _ g6 l6=>?_
      ·rintro ⟨v,_⟩ k e a rfl hk he;obtain ⟨v2,w2,hb⟩:=zfs.b (a:=a) hk he;simp only [hb,jf,zt];rw [xk (acc:=ps) (by omega)];simp only [jf];rw [Ya (by simp;omega)];exact ⟨_,rfl,rfl⟩
      ·simp only [zt];exact fin ret g6 (by omega)
  ·simp only [jg,jk,jf];rw [show q6.mk 8 (lit []) 0 (hd t4).a_ (Sl.mk [] false)=rN ⟨8,lit [],0,(hd t4).a_,nilS⟩ by rw [xX,yk]];simp only [zt,PR.bd_ok];exact fin _ g4 (by omega)
end
end
section
section
variable {T:Sl RTk}{d e a:Int}{k n:Nat}{ts:List Tk}{z hdr:Int×G0×Int×Int}
theorem zvF (g:GK T k ts):RS T d (ts.length - 1) (WA ts) (q38 (((k:Int),d,0,0),T)) (fun n st=>(rN n,st)) Prod.snd:=by
  unfold q38 q7k WA;simp only [g.idx,jf,toR];refine yR g (fun h g1 l1=>?_) fun h=>?_
  ·simp only [jl];exact .ok g1 (by omega) (by rw [xX,yk])
  simp only [jg,jk];refine yR g (fun h g1 l1=>?_) fun h=>?_
  ·simp only [jl];exact .ok g1 (by omega) (by rw [xX,yk])
  simp only [jg,jk];have no:∀ (i:Int) (s:List UInt8) (z q:Int×G0×Int×Int),zd (⟨[lit [99,111,117,110,116,101,100],lit [108,111,99,107],lit [103,117,97,114,100]],true⟩:Sl G0) i=some (lit s)->0<=i->i < 3->isP s ts=false->q31 qu q11 q15 (i,((k:Int),d,0,0),T,z,q,Sl.mk [lit [99,111,117,110,116,101,100],lit [108,111,99,107],lit [103,117,97,114,100]] true)=some (.next (i+1,((k:Int),d,0,0),T,z,q,Sl.mk [lit [99,111,117,110,116,101,100],lit [108,111,99,107],lit [103,117,97,114,100]] true)):=by
    intro i s z q hs h0 h3 hi;unfold q31;simp only [hs,YW g,hi,jf,jg,jk];rw [jr (by simp [Sl.len];omega),zM (by omega) (by omega)]
  have yes:∀ (i:Int) (s:List UInt8),zd (⟨[lit [99,111,117,110,116,101,100],lit [108,111,99,107],lit [103,117,97,114,100]],true⟩:Sl G0) i=some (lit s)->0<=i->i < 3->isP s ts=true->
      RS T d (ts.length - 1) ((z6 ts.tail).bd fun k t1 =>.ok (⟨2,(hd ts).T_,0,(hd ts).a_,⟨[k],true⟩⟩,t1)) ((lpO (q31 qu q11 q15) (i,((k:Int),d,0,0),T,((0,lit [],0,0):Int×G0×Int×Int),(2,(hd ts).T_,0,(hd ts).a_),Sl.mk [lit [99,111,117,110,116,101,100],lit [108,111,99,107],lit [103,117,97,114,100]] true)).bind fun y11=>
        Sum.elim (fun y12=>some (q6.mk y12.2.2.1.1 y12.2.2.1.2.1 y12.2.2.1.2.2.1 y12.2.2.1.2.2.2 y12.2.2.2,y12.1,y12.2.1)) (fun y13=>(q15 (20,y13.1,y13.2.1)).bind fun y14=>some (q6.mk y13.2.2.2.1 y13.2.2.2.2.1 y13.2.2.2.2.2.1 y13.2.2.2.2.2.2 (Sl.mk [] false),y14)) y11) (fun n st=>(rN n,st)) Prod.snd:=by
    intro i s hs h0 h3 hi;obtain ⟨g1,l1⟩:=g.is hi
    have hb:q31 qu q11 q15 (i,((k:Int),d,0,0),T,(0,lit [],0,0),(2,(hd ts).T_,0,(hd ts).a_),Sl.mk [lit [99,111,117,110,116,101,100],lit [108,111,99,107],lit [103,117,97,114,100]] true) =
        (q11 ((((k+1:Nat):Int),d,0,0),T)).bind fun y10=>some (.done (.inl (y10.2.1,y10.2.2,(2,(hd ts).T_,0,(hd ts).a_),Sl.mk [q6.mk y10.1.1 y10.1.2.1 y10.1.2.2.1 y10.1.2.2.2 (Sl.mk [] false)] true))):=by
      unfold q31;simp only [hs,YW g,hi,jf,jl];rw [jr (by simp [Sl.len];omega)]
    have hr:=ya (d:=d) g1;cases e:z6 ts.tail with
    |error er=>
      rw [e] at hr;obtain ⟨⟨v,_⟩,k1,e1,rfl,h5,h6⟩:=hr;rw [e1,jf] at hb;rw [zx hb];exact ⟨_,k1,rfl,rfl,h5,h6⟩
    |ok p=>
      obtain ⟨m,t1⟩:=p;rw [e] at hr;obtain ⟨k1,e1,g2,l2⟩:=hr;rw [e1,jf] at hb;rw [zx hb];refine .ok g2 (by omega) ?_;simp only [jf,jj];rw [Xz m (zJ e),xX,wN]
  cases h3:isP [99,111,117,110,116,101,100] ts with
  |true=>exact yes 0 _ rfl (by omega) (by omega) h3
  |false=>
  rw [zD (no 0 _ _ _ rfl (by omega) (by omega) h3)];simp only [jg,jk];cases h4:isP [108,111,99,107] ts with
  |true=>exact yes (0+1) _ rfl (by omega) (by omega) h4
  |false=>
  rw [zD (no (0+1) _ _ _ rfl (by omega) (by omega) h4)];simp only [jg,jk];cases h5:isP [103,117,97,114,100] ts with
  |true=>exact yes (0+1+1) _ rfl (by omega) (by omega) h5
  |false=>
  rw [zD (no (0+1+1) _ _ _ rfl (by omega) (by omega) h5),zx (y :=.inr (((k:Int),d,0,0),T,_,_)) rfl];simp only [jg,jk,jf,ji,Vg g];exact ⟨_,k,rfl,rfl,g.lt,by simp [xy]⟩
noncomputable def zdj (f:PS->G3 ((Int×G0×Int×Int)×(Int×Int×Int×Int)×Sl RTk×Sl RNd)) (st:PS):G3 (RNd×PS):=
 (f st).bind fun y=>some (q6.mk y.1.1 y.1.2.1 y.1.2.2.1 y.1.2.2.2 y.2.2.2,y.2.1,y.2.2.1)
theorem zpz {f:PS->G3 ((Int×G0×Int×Int)×(Int×Int×Int×Int)×Sl RTk×Sl RNd)}(h:∀ {ts k},GK T k ts->RS T d (ts.length - 1) (one ts) (f (((k:Int),d,0,0),T)) ndR pkR):zm0 T d one (zdj f):=by
 intro ts k g;have hr:=h g;unfold zdj;cases e:one ts with
 |error er=>
  rw [e] at hr;obtain ⟨⟨v,p,q,w⟩,k1,e1,hp,h5,h6⟩:=hr;rw [e1];exact ⟨_,k1,rfl,hp,h5,h6⟩
 |ok p=>
  obtain ⟨m,t1⟩:=p;rw [e] at hr;obtain ⟨k1,e1,g2,l2⟩:=hr;rw [e1];exact .ok g2 l2 (by simp only [jf,ndR,ndT];rw [yg])
theorem zua (g:GK T k ts):RS T d (ts.length - 1) (xh ts) (q32 (((k:Int),d,0,0),T)) ndR pkR:=by
 unfold q32 q9p xh;refine (ya g).bd ?_ fun m t1 k1 em g1 l1=>?_
 ·rintro ⟨v,_⟩ k e a rfl hk he;simp only [yl hk he,jf,jg,jk];exact ⟨_,rfl,rfl⟩
 refine yR g1 (fun h g2 l2=>?_) fun h=>?_
 ·simp only [jl,ga,jf];refine (ya g2).bd ?_ fun x t3 k3 ex g3 l3=>?_
  ·rintro ⟨v,_⟩ k e a rfl hk he;simp only [Zl hk he,jf];exact ⟨_,rfl,rfl⟩
  refine (Z9 g3 [93]).bd ?_ fun _ t4 k4 _ g4 l4 =>.ok g4 (by omega) ?_
  ·rintro _ k e a rfl hk he;exact ⟨_,rfl,rfl⟩
  ·simp only [ndR,wN];rw [Xz x (zJ ex)];rfl
 ·simp only [jg,jk,jf];exact .ok g1 (by omega) (by simp only [ndR,yk];rfl)
noncomputable abbrev vz:=qas q11 q38 qu q32 qy q1m
noncomputable abbrev Wm:=qat q11 q38 qu q32 qy q1m
theorem zw9 (k:Nat) (w:Sl RNd):vz (true,((k:Int),d,0,0),T,z,hdr,w)=zdi (zdj q32) (lit [125]) (fun b=>b) (((k:Int),d,0,0),T) z hdr w:=by
 unfold vz qas zdi zdj;grind
theorem zm1 (p:Int×Int×Int×Int) (w:Sl RNd):vz (false,p,T,z,hdr,w)=some (.done (p,T,z,hdr,w)):=rfl
theorem zxa (p:Int×Int×Int×Int) (w:Sl RNd):Wm (true,p,T,z,hdr,w)=(zdj q1m (p,T)).bind fun y=>(zp 64 w [y.1]).bind fun w'=>(qu (lit [44],y.2)).bind fun y9=>some (.next (y9.1,y9.2.1,y9.2.2,z,hdr,w')):=by
 unfold Wm qat zdj;grind
theorem zhG (p:Int×Int×Int×Int) (w:Sl RNd):Wm (false,p,T,z,hdr,w)=some (.done (p,T,z,hdr,w)):=rfl
theorem zfu:∀ (j:Nat) (ts:List Tk) (k:Nat) (acc:List Nd),GK T k ts->ts.length<=j->acc.length+ts.length<=30000->
    LQ T d (ts.length - 1) ((Ym ts).bd fun a t1=>Zm Ym j (acc++[a]) t1) (lpO Wm (true,((k:Int),d,0,0),T,z,hdr,rS (mkS acc))) z hdr
  |0,ts,k,acc,g,hj,ha=>absurd (GP (by omega)) g.g.ne
  |j+1,ts,k,acc,g,hj,ha=>by
    have hpos:=U8.2 g.g.ne;have hr:=zpz (T:=T) (d:=d) (one:=Ym) (f:=q1m) (fun g=>zpu g) g;have hb:=zxa (T:=T) (z:=z) (hdr:=hdr) ((k:Int),d,0,0) (rS (mkS acc));cases e:Ym ts with
    |error er=>
      rw [e] at hr;obtain ⟨⟨v,_⟩,k1,e1,rfl,h3,h4⟩:=hr;rw [e1] at hb;simp only [jf] at hb;rw [xk (acc:=acc) (by omega)] at hb;simp only [jf,yl h3 h4] at hb;rw [zD hb,zx (zhG _ _)];exact ⟨k1,_,rfl,h3,h4,by simp;omega⟩
    |ok p=>
      obtain ⟨x,t1⟩:=p;rw [e] at hr;obtain ⟨k1,e1,g1,l1⟩:=hr;rw [e1] at hb;simp only [jf] at hb;rw [xk (acc:=acc) (by omega),zfr] at hb;simp only [jf,YW g1] at hb;rw [PR.bd_ok];unfold Zm;have hpos1:=U8.2 g1.g.ne;cases h44:isP [44] t1 with
      |true=>
        obtain ⟨g2,l2⟩:=g1.is h44;rw [h44] at hb;simp only [jl] at hb;rw [zD hb];simp only [jl];exact (zfu j t1.tail (k1+1) (acc++[x]) g2 (by omega) (by simp;omega)).mono (by omega)
      |false=>
        rw [h44] at hb;simp only [jg,jk] at hb;simp only [jg,jk];rw [zD hb,zx (zhG _ _)];exact ⟨k1,rfl,g1,by omega,by simp;omega⟩
end
end
section
section
variable {T:Sl RTk}{d e a:Int}{k n:Nat}{ts:List Tk}{z hdr:Int×G0×Int×Int}
theorem Vi (p:List Nd):∀ (j:Nat) (acc:List Nd) (ts:List Tk),Zm one j (p++acc) ts=(Zm one j acc ts).bd fun l t =>.ok (p++l,t)
 |0,acc,ts=>rfl
 |j+1,acc,ts=>by
  unfold Zm;cases isP [44] ts with
  |false=>rfl
  |true=>
   simp only [jl,PR.bd_assoc];congr 1;funext a t;rw [Ub];exact Vi p j (acc++[a]) t
theorem zvG {l:List α}(h:l≠[]):mkS l=⟨l,true⟩:=by cases l;exact absurd rfl h;rfl
def Wn (s:Nd) (t2:List Tk):PR (List Nd):=if isP [123] t2=true then (Z3 xh t2.tail).bd fun l t3=>(zT [125] t3).bd fun _ t4 =>.ok ([s]++l,t4) else .ok ([s],t2)
def zaE (ks:List Nd) (t5:List Tk):PR (List Nd):=if isP [119,104,101,114,101] t5=true then (Z3 Ym t5.tail).bd fun l t6 =>.ok (ks++l,t6) else .ok (ks,t5)
theorem zru (g:GK T k ts) (hl:ts.length<=25000) (s:Nd):LQ T d ts.length (Wn s ts)
    ((qu (lit [123],((k:Int),d,0,0),T)).bind fun y2=>lpO vz (y2.1,y2.2.1,y2.2.2,z,hdr,rS (mkS [s]))) z hdr:=by
  rw [YW g,jf];unfold Wn;cases h:isP [123] ts with
  |true=>
    obtain ⟨g1,l1⟩:=g.is h;simp only [jl];have:=zcR (d:=d) (fl:=fun b=>b) (body:=vz) (z:=z) (hdr:=hdr) (zpz (one:=xh) (f:=q32) fun g=>zua g) zw9 zm1 ts.tail.length ts.tail (k+1) [s] g1 (GJ _) (by simp;omega);unfold Z3;simp only [Vi,PR.bd_assoc,PR.bd_ok] at this |-
    exact this.mono (by omega)
  |false=>
    simp only [jg,jk];rw [zx (zm1 _ _)];exact ⟨k,rfl,g,GJ _,by simp;omega⟩
theorem zrv (g:GK T k ts) (ks:List Nd) (hl:ks.length+ts.length<=30000):LQ T d ts.length (zaE ks ts)
    ((qu (lit [119,104,101,114,101],((k:Int),d,0,0),T)).bind fun y2=>lpO Wm (y2.1,y2.2.1,y2.2.2,z,hdr,rS (mkS ks))) z hdr:=by
  rw [YW g,jf];unfold zaE;cases h:isP [119,104,101,114,101] ts with
  |true=>
    obtain ⟨g1,l1⟩:=g.is h;simp only [jl];have:=zfu (d:=d) (z:=z) (hdr:=hdr) ts.tail.length ts.tail (k+1) ks g1 (GJ _) (by omega);unfold Z3;simp only [Vi,PR.bd_assoc,PR.bd_ok] at this |-
    exact this.mono (by omega)
  |false=>
    simp only [jg,jk];rw [zx (zhG _ _)];exact ⟨k,rfl,g,GJ _,by omega⟩
theorem zlv (at_:Int) (ts:List Tk):zcJ at_ ts=(z6 ts).bd fun n t1=>(WA t1).bd fun s t2=>(Wn s t2).bd fun ks t5=>(zaE ks t5).bd fun ks t7=>(zT [59] t7).bd fun _ t8 =>.ok (⟨1,n.T_,n.n_,at_,⟨ks,true⟩⟩,t8):=rfl
theorem zpA {s:Nd}{ts:List Tk}{l:List Nd}(h:Wn s ts = .ok (l,t)):l≠[]:=by
 unfold Wn at h;split at h
 ·obtain ⟨a,t1,_,h⟩:=bd_ok h;obtain ⟨b,t2,_,h⟩:=bd_ok h;cases h;simp
 grind
theorem zrw {ks:List Nd}{ts:List Tk}{l:List Nd}(hk:ks≠[]) (h:zaE ks ts = .ok (l,t)):l≠[]:=by
 unfold zaE at h;split at h
 ·obtain ⟨a,t1,_,h⟩:=bd_ok h;cases h;simp [hk]
 grind
theorem zxb (g:GK T k ts) (hl:ts.length<=25000) (at_:Int):RS T d (ts.length - 1) (zcJ at_ ts) (q4w (at_,((k:Int),d,0,0),T)) ndR pkR:=by
 unfold q4w qau;rw [zlv];have t2:∀ {k:Nat} {e a:Int} {w:Sl RNd} {hdr:Int×G0×Int×Int},k < T.xs.length->e≠0->∃ c,(qy (lit [59],((k:Int),d,e,a),T)).bind (fun y16=>some (hdr,y16.1,y16.2,w))=some c/\pkR c=(((k:Int),d,e,a),T):=by
  intro k e a w hdr hk he;rw [Zl hk he];exact ⟨_,rfl,rfl⟩
 have tl:∀ {k:Nat} {e a:Int} {w:Sl RNd} {z hdr:Int×G0×Int×Int},k < T.xs.length->e≠0->∃ c,((qu (lit [119,104,101,114,101],((k:Int),d,e,a),T)).bind fun y10=>(lpO Wm (y10.1,y10.2.1,y10.2.2,z,hdr,w)).bind fun y15=>(qy (lit [59],y15.1,y15.2.1)).bind fun y16=>some (y15.2.2.2.1,y16.1,y16.2,y15.2.2.2.2))=some c/\pkR c=(((k:Int),d,e,a),T):=by
  intro k e a w z hdr hk he;rw [yl hk he,jf,zx (zhG _ _),jf];exact t2 hk he
 have ts':∀ {k:Nat} {e a:Int} {w:Sl RNd} {z hdr:Int×G0×Int×Int},k < T.xs.length->e≠0->∃ c,((qu (lit [123],((k:Int),d,e,a),T)).bind fun y2=>(lpO vz (y2.1,y2.2.1,y2.2.2,z,hdr,w)).bind fun y9=>(qu (lit [119,104,101,114,101],y9.1,y9.2.1)).bind fun y10=>(lpO Wm (y10.1,y10.2.1,y10.2.2,y9.2.2)).bind fun y15=>(qy (lit [59],y15.1,y15.2.1)).bind fun y16=>some (y15.2.2.2.1,y16.1,y16.2,y15.2.2.2.2))=some c/\pkR c=(((k:Int),d,e,a),T):=by
  intro k e a w z hdr hk he;rw [yl hk he,jf,zx (zm1 _ _),jf];exact tl hk he
 refine (ya g).bd ?_ fun m t1 k1 em g1 l1=>?_
 ·rintro ⟨v,_⟩ k e a rfl hk he;obtain ⟨v2,hv⟩:=zvC (d:=d) (a:=a) hk he;simp only [hv,jf];exact ts' hk he
 refine (zvF g1).bd ?_ fun s t2' k2 es g2 l2=>?_
 ·rintro ⟨v,_⟩ k e a rfl hk he;exact ts' hk he
 simp only [zt];rw [show (⟨[rN s],true⟩:Sl RNd)=rS (mkS [s]) by rw [yj];rfl,<- ga];refine (zru g2 (by omega) s).bd ?_ fun ks t5 k5 ek g5 l5 l5b=>?_
 ·intro k e a w hk he hw;exact tl hk he
 rw [<- ga];have hpos:=U8.2 g5.g.ne;by_cases hks:ks.length+t5.length<=30000
 ·refine (zrv g5 ks hks).bd ?_ fun ks2 t7 k7 ef g7 l7 l7b=>?_
  ·intro k e a w hk he hw;exact t2 hk he
  refine (Z9 g7 [59]).bd ?_ fun _ t8 k8 _ g8 l8 =>.ok g8 (by omega) ?_
  ·rintro _ k e a rfl hk he;exact ⟨_,rfl,rfl⟩
  ·rw [zvG (zrw (zpA ek) ef)];rfl
 ·exfalso;have:∀ (j:Nat) (acc:List Nd) (t:List Tk) (l:List Nd) (t3:List Tk),Zm xh j acc t = .ok (l,t3)->l.length+t3.length<=acc.length+t.length:=by
   intro j
   induction j with
   |zero=>intro acc t l t3 e;cases e;grind
   |succ j ih=>
    intro acc t l t3 e;unfold Zm at e;split at e
    ·rename_i hp;obtain ⟨x,t',hx,e⟩:=bd_ok e;have h1:=ih _ _ _ _ e;have h2:=(zcM _ _ _ hx).2;grind
    grind
  unfold Wn at ek;split at ek
  ·rename_i hp;have h3:=zI hp;obtain ⟨l,t3,hx,ek⟩:=bd_ok ek;obtain ⟨u,t4,hm,ek⟩:=bd_ok ek;unfold Z3 at hx;obtain ⟨x,t',hx1,hx⟩:=bd_ok hx;have h1:=this _ _ _ _ _ hx;have h2:=(zcM _ _ _ hx1).2;have h4:=Zk hm;grind
  grind
theorem zj0:∀ (k:Nat) (n:Nd),zn n<=k->zn n<=1000000000->q2o k (rN n)=some (zn n:Int)
 |0,n,h,_=>by have:=ZR n;omega
 |k+1,n,h,hb=>by
  obtain ⟨a,b,c,d,⟨xs,nn⟩⟩:=n;rw [xX,yj];show ((lpO (q5d (q2o k)) (1,0,q6.mk a b c d ⟨xs.map rN,nn⟩)).bind fun y3=>some y3)=_;have hs:zn ⟨a,b,c,d,⟨xs,nn⟩⟩=ze xs+1:=by rw [zk]
  have loop:∀ (m i:Nat),i+m=xs.length->lpO (q5d (q2o k)) (((1+ze (xs.take i):Nat):Int),(i:Int),q6.mk a b c d ⟨xs.map rN,nn⟩)=some ((1+ze xs:Nat):Int):=by
   intro m
   induction m with
   |zero=>
    intro i hi;have hf:q5d (q2o k) (((1+ze (xs.take i):Nat):Int),(i:Int),q6.mk a b c d ⟨xs.map rN,nn⟩)=some (.done ((1+ze (xs.take i):Nat):Int)):=by
     show (if decide ((i:Int) < ((xs.map rN).length:Int))=true then _ else _)=_;grind
    rw [zx hf,List.take_of_length_le (by omega)]
   |succ m ih=>
    intro i hi;have hlt:i < xs.length:=by omega
    have hg:zd (⟨xs.map rN,nn⟩:Sl RNd) (i:Int)=some (rN xs[i]):=by
     rw [wi];simp [hlt]
    have h1:=zdY hlt;have h2:=zaC xs (i+1);have hr:q2o k (rN xs[i])=some (zn xs[i]:Int):=zj0 k xs[i] (by omega) (by omega);have hlen:xs.length<=ze xs:=by
     clear hr h1 h2 hg ih hs hb h hlt hi
     induction xs with
     |nil=>simp
     |cons x r ih=>have:=ZR x;simp only [ze,ju];omega
    have hf:q5d (q2o k) (((1+ze (xs.take i):Nat):Int),(i:Int),q6.mk a b c d ⟨xs.map rN,nn⟩)=some (.next (((1+ze (xs.take (i+1)):Nat):Int),((i+1:Nat):Int),q6.mk a b c d ⟨xs.map rN,nn⟩)):=by
     show (if decide ((i:Int) < ((xs.map rN).length:Int))=true then (zd (⟨xs.map rN,nn⟩:Sl RNd) (i:Int)).bind _ else _)=_;rw [jr (by simp;omega),hg];simp only [jf,zt,hr];rw [zM (by omega) (by omega),zM (by omega) (by omega),h1];have e1:((1+ze (xs.take i):Nat):Int)+(zn xs[i]:Int)=((1+(ze (xs.take i)+zn xs[i]):Nat):Int):=by omega
     grind
    rw [zD hf];grind
  have:=loop xs.length 0 (by omega);simp only [List.take_zero,ze,Ue] at this;grind
theorem zub {l:List UInt8}(h:two l=true):∀ c∈l.take 2,isL c=false:=by
 unfold two at h;simp only [GO,jh] at h;rcases h with h | h | h <;> rw [h] <;> decide
theorem zuc {l:List UInt8}{n:Nat}{v:Int}(h:nxt l = .tok 4 n v):∀ c∈l.take n,isL c=false:=by
 unfold nxt at h;split at h
 ·cases h
 rename_i c r;split at h
 ·cases h
 split at h
 ·cases h
 split at h
 ·unfold Xv at h;grind
 split at h
 ·unfold xf at h;grind
 ·unfold xg at h;split at h
  ·cases h
  ·cases h;unfold Yt;split
   ·rename_i h2;exact zub h2
   ·rename_i h2;simp only;grind
theorem zeu:∀ (f at_:Nat) (l:List UInt8) (ts:List Tk),wJ f at_ l = .inr ts->∀ t∈ts,t.k_=4->∀ c∈bs t.T_,isL c=false
 |0,at_,l,ts,h=>by cases h;simp
 |f+1,at_,l,ts,h=>by
  unfold wJ at h;split at h
  ·cases h;simp
  split at h
  ·exact zeu f _ _ ts h
  ·cases h
  ·rename_i k n v hn;split at h
   ·cases h
   ·rename_i ts' hts;cases h;intro t ht hk;rcases Ua.1 ht with rfl | ht
    ·simp only at hk;subst hk;rw [XO];exact zuc hn
    ·exact zeu f _ _ ts' hts t ht hk
theorem zj1 (s:G0):∀ t∈(ZU s).2.2.xs,t.k_=4->∀ c∈bs t.T_,isL c=false:=by
 unfold ZU;split
 ·simp
 ·split
  ·simp
  ·rename_i ts e;intro t ht hk;simp only [G5,Uw] at ht;rcases ht with ht | rfl
   ·exact zeu _ _ _ _ e t ht hk
   ·simp at hk
end
end
section
section
variable {T:Sl RTk}{d e a:Int}{k n:Nat}{ts:List Tk}{z1 z2:Int×G0×Int×Int}
noncomputable abbrev WP:=q6i q50 qu q5c qy q4w q8c
theorem zgw (he:e≠0) (p:Int) (w:Sl RNd):lpO WP (z1,(p,d,e,a),z2,T,w)=some (z1,(p,d,e,a),z2,T,w):=
 zx (by unfold WP q6i;grind)
theorem zfv:∀ (j:Nat) (ts:List Tk) (k:Nat) (acc:List Nd),GK T k ts->ts.length<=25000->ts.length<=j->acc.length+ts.length<=30000->
    match Yi j acc ts with
    | .error er=>∃ (k1:Nat) (w:Sl RNd),lpO WP (z1,((k:Int),0,0,0),z2,T,rS (mkS acc))=some (z1,((k1:Int),0,er.2,er.1),z2,T,w)/\er.2≠0
    | .ok (l,_)=>∃ k1:Nat,lpO WP (z1,((k:Int),0,0,0),z2,T,rS (mkS acc))=some (z1,((k1:Int),0,0,0),z2,T,rS (mkS l))
  |0,ts,k,acc,g,hl,hj,ha=>absurd (GP (by omega)) g.g.ne
  |j+1,ts,k,acc,g,hl,hj,ha=>by
    have hpos:=U8.2 g.g.ne;unfold Yi
    have hb:WP (z1,((k:Int),0,0,0),z2,T,rS (mkS acc))=if (hd ts).k_=0 then some (.done (z1,((k:Int),0,0,0),z2,T,rS (mkS acc))) else
        if isP [102,110] ts=true then (q5c ((hd ts).a_,(((k+1:Nat):Int),0,0,0),T)).bind fun y8=>(zp 64 (rS (mkS acc)) [q6.mk y8.1.1 y8.1.2.1 y8.1.2.2.1 y8.1.2.2.2 y8.2.2.2]).bind fun y9=>some (.next (z1,y8.2.1,z2,y8.2.2.1,y9))
        else (qy (lit [116,121,112,101],((k:Int),0,0,0),T)).bind fun y10=>(if y10.1.2.2.1=0 then (q4w ((hd ts).a_,y10)).bind fun y11=>(zp 64 (rS (mkS acc)) [q6.mk y11.1.1 y11.1.2.1 y11.1.2.2.1 y11.1.2.2.2 y11.2.2.2]).bind fun y12=>some (z1,y11.2.1,z2,y11.2.2.1,y12) else some (z1,y10.1,z2,y10.2,rS (mkS acc))).bind fun y=>some (.next y):=by
      unfold WP q6i;simp only [g.idx,jf,jo,jl,toR,jh];by_cases h0:(hd ts).k_=0
      ·grind
      · simp only [h0,Ui,jq,jk,jl,YW g,jf];cases h1:isP [102,110] ts with
        |true=>grind
        |false=>grind
    by_cases h0:(hd ts).k_=0
    · rw [jr h0] at hb |-
      exact ⟨k,zx hb⟩
    rw [js h0] at hb |-
    cases h1:isP [102,110] ts with
    |true=>
      obtain ⟨g1,l1⟩:=g.is h1;rw [h1] at hb;simp only [jl] at hb |-
      have hr:=zx4 g1 (by omega) (hd ts).a_;cases es:fnP (hd ts).a_ ts.tail with
      |error er=>
        rw [es] at hr;obtain ⟨⟨w,p,q,ks⟩,k1,e1,hp,h3,h4⟩:=hr;simp only [pkR,Prod.mk.injEq] at hp;obtain ⟨rfl,hq⟩:=hp;obtain rfl:T=q:=hq.symm;rw [e1,jf,xk (acc:=acc) (by omega)] at hb;exact ⟨k1,_,by rw [zD hb,zgw h4],h4⟩
      |ok p=>
        obtain ⟨x,t1⟩:=p;rw [es] at hr;obtain ⟨k1,e1,g2,l2⟩:=hr;rw [e1,jf] at hb;simp only [ndR,ndT] at hb;rw [xk (acc:=acc) (by omega),show q6.mk x.k_ x.T_ x.n_ x.a_ (rS x.K_)=rN x from (yg x).symm,zfr] at hb;have ih:=zfv j t1 k1 (acc++[x]) g2 (by omega) (by omega) (by simp;omega);rw [zD hb];exact ih
    |false=>
      rw [h1] at hb;simp only [jg,jk] at hb |-
      have hm:=Z9 (d:=0) g [116,121,112,101];cases em:zT [116,121,112,101] ts with
      |error er=>
        rw [em] at hm;obtain ⟨b,k1,e1,hp,h3,h4⟩:=hm;simp only [id] at hp;subst hp;rw [e1,jf] at hb;simp only [h4,jk,jf] at hb;exact ⟨k1,_,by rw [zD hb,zgw h4],h4⟩
      |ok p=>
        obtain ⟨u,t0⟩:=p;rw [em] at hm;obtain ⟨k0,e0,g0,l0⟩:=hm;rw [e0,jf] at hb;simp only [jl] at hb;rw [PR.bd_ok];have hr:=zxb (d:=0) g0 (by omega) (hd ts).a_;cases es:zcJ (hd ts).a_ t0 with
        |error er=>
          rw [es] at hr;obtain ⟨⟨w,p,q,ks⟩,k1,e1,hp,h3,h4⟩:=hr;simp only [pkR,Prod.mk.injEq] at hp;obtain ⟨rfl,hq⟩:=hp;obtain rfl:T=q:=hq.symm;rw [e1,jf,xk (acc:=acc) (by omega)] at hb;exact ⟨k1,_,by rw [zD hb,zgw h4],h4⟩
        |ok p=>
          obtain ⟨x,t1⟩:=p;rw [es] at hr;obtain ⟨k1,e1,g2,l2⟩:=hr;rw [e1,jf] at hb;simp only [ndR,ndT] at hb;rw [xk (acc:=acc) (by omega),show q6.mk x.k_ x.T_ x.n_ x.a_ (rS x.K_)=rN x from (yg x).symm,zfr] at hb;have ih:=zfv j t1 k1 (acc++[x]) g2 (by omega) (by omega) (by simp;omega);rw [zD hb];exact ih
end
theorem zhi (s:G0):q22 s=some (rN (xJ s).1,(xJ s).2):=by
 unfold q22 q9q;rw [zmY,jf];have hz:rN VI=q6.mk 0 (lit []) 0 0 (Sl.mk [] false):=by unfold VI;rw [xX,yk]
 unfold xJ;simp only [jh];by_cases h:(ZU s).2.1=0
 case neg=>grind
 case pos=>
 rw [js (by simpa using h),js (by simpa using h)];obtain ⟨g,hn⟩:=zcN h;have hs:=zj1 s;generalize hx:(ZU s).2.2=X at g hn hs;obtain ⟨ts,nn⟩:=X;simp only at g hn hs;subst hn;have hlen:=g.len;have gk:GK ⟨ts.map toR,true⟩ 0 ts:=⟨rfl,g,by omega,hs⟩;have lp:=zfv (z1:=(0,lit [],0,0)) (z2:=(0,lit [],0,0)) ts.length ts 0 [] gk (by omega) (GJ _) (by simp;omega);rw [zjY] at lp;cases e:Yi ts.length [] ts with
 |error er=>
  rw [e] at lp;obtain ⟨k1,w,lp,h2⟩:=lp;have lp:lpO WP ((0,lit [],0,0),(0,0,0,0),(0,lit [],0,0),⟨ts.map toR,true⟩,Sl.mk [] false)=_:=lp;grind
 |ok p=>
  obtain ⟨l,t1⟩:=p;rw [e] at lp;obtain ⟨k1,lp⟩:=lp;have lp:lpO WP ((0,lit [],0,0),(0,0,0,0),(0,lit [],0,0),⟨ts.map toR,true⟩,Sl.mk [] false)=_:=lp;rw [lp];have hsz:=VH _ _ _ _ _ e;simp only [ze] at hsz;have hsize:q8c (q6.mk 0 (lit []) 0 0 (rS (mkS l)))=some ((ze l+1:Nat):Int):=by
   have:=zj0 100000 ⟨0,lit [],0,0,mkS l⟩ (by rw [zk];simp only [mkS];omega) (by rw [zk];simp only [mkS];omega);rw [zk,xX] at this;exact this
  simp only [jf,Ui,jp,jk,hsize];by_cases hb:4096 < ze l+1
  ·grind
  ·rw [js (by omega),js hb,xX]
end
end Go.Px
