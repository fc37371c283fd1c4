/- Part Lf: Px22PX Px22PY Px22PZ Px22RA Px22RB. -/
import Derived.Test.YtpcipfnohfefhaaGreatDoorLe
set_option linter.unusedVariables false
set_option linter.unusedSimpArgs false
namespace Go.Px
theorem UA:∀ {α : Type _} {l : List α} {i : Nat} (h : i < l.length),List.take i l++[l[i]] = List.take (i + 1) l:=@List.take_append_getElem
abbrev Fk:=G3 (Int×G0)
abbrev CIx:=qi
def fk (i:CIx):Fk:=if i.O_=13 then some (i.a_,i.Y_) else none
theorem go {S R A:Type}{f:S->G3 (Step S R)}{n:Nat}{st:Nat->A->S}{fin:A->R}{J:Nat->A->Prop}
    (h:∀ i,i < n->∀ a,J i a->∃ a',f (st i a)=some (.next (st (i+1) a'))/\J (i+1) a') (h0:∀ a,J n a->f (st n a)=some (.done (fin a))) {a:A} (ha:J 0 a) :
    ∃ a',lpO f (st 0 a)=some (fin a')/\J n a':=by
  have:∀ (m i:Nat) (a:A),i+m=n->J i a->∃ a',lpO f (st i a)=some (fin a')/\J n a':=by
    intro m
    induction m with
    |zero=>
      intro i a hi ha;obtain rfl:i=n:=by omega
      exact ⟨a,zx (h0 a ha),ha⟩
    |succ m ih=>
      intro i a hi ha;obtain ⟨a',h1,h2⟩:=h i (by omega) a ha;obtain ⟨b,h3,h4⟩:=ih (i+1) a' (by omega) h2;exact ⟨b,by rw [zD h1,h3],h4⟩
  exact this n 0 a (by omega) ha
theorem yT {α:Type}{b:Nat}{s:Sl α}{x:α}(hb:b<=1000000) (h:s.xs.length<=100000):zp b s [x]=some ⟨s.xs++[x],true⟩:=by
 have:(s.xs.length+[x].length) * b<=100001 * 1000000:=Nat.mul_le_mul (by simp;omega) hb;rw [yY (by omega) (by simp;omega)];simp
theorem zkc (n:Nd) (hn:n.K_.xs.length<=50000):∃ l,q9r n=some l:=by
 obtain ⟨l,h,_⟩:=go (f:=qbq q8o) (n:=n.K_.xs.length) (A:=Sl qt) (st:=fun i a=>(n.K_,n.K_.len,(i:Int),a)) (fin:=fun a=>a) (J:=fun i a=>a.xs.length<=i)
  (fun i hi a ha=>by
   refine ⟨⟨a.xs++[⟨n.K_.xs[i].T_,n.K_.xs[i].n_⟩],true⟩,?_,by simp;omega⟩;unfold qbq;simp only [jh];rw [jr (by simp only [zu];omega),zr hi,jf];show ((some _).bind _)=_
   rw [jf,yT (by omega) (by omega),jf,zL (by omega)])
  (fun a ha=>by
   unfold qbq;simp only [jh]
   rw [js (by simp only [zu];omega)])
  (a:=Sl.mk [] false) (by simp)
 exact ⟨l,congrArg (fun o=>Option.bind o fun y=>some y) h⟩
theorem VN (n:Nd) (i:Nat):∃ t,q2y (n,(i:Int))=some t:=by
 unfold q2y qfo;simp only [jh];split
 ·grind
 ·rename_i h;rw [zr (by simp only [zu] at h;omega)];exact ⟨_,rfl⟩
theorem zur (n:Nd):∃ k,q8r n=some k/\k.K_.xs.length<=zn n:=by
 unfold q8r qd0;simp only [jh];split
 ·grind
 ·rename_i h;have h0:0 < n.K_.xs.length:=by simp only [zu] at h;omega
  rw [show (0:Int)=((0:Nat):Int) from rfl,zr h0];refine ⟨_,rfl,?_⟩;have h1:=YQ (jx h0);have h2:=@ZV n.K_.xs[0];grind
theorem yr {i:CIx}{l:Sl CIx}(h:l.xs.length<=50000):q2f (i,l)=some ((l.xs.length:Int),⟨l.xs++[i],true⟩):=by
 unfold q2f qa2;rw [yT (by omega) (by grind)];simp only [jf,zu,jt,jv];rw [zM (by omega) (by omega)];congr 2;omega
def One (r:G3 (Sl CIx)) (l:Sl CIx) (k:Fk):Prop:=∃ i,r=some ⟨l.xs++[i],true⟩/\fk i=k
theorem zxf {n e:Nd}{l:Sl CIx}(h:l.xs.length<=50000) (he:e.K_.xs.length<=50000):One (q57 (n,e,l)) l none:=by
 obtain ⟨ta,h0⟩:=VN e 0;obtain ⟨tb,h1⟩:=VN e 1;obtain ⟨sa,h2⟩:=zkc e he;obtain ⟨k,t,m,a,ks⟩:=e;unfold q57 qa3;have h0:q2y (⟨k,t,m,a,ks⟩,0)=_:=h0;have h1:q2y (⟨k,t,m,a,ks⟩,1)=_:=h1;have ht:∀ n:Nd,q8o n=some ⟨n.T_,n.n_⟩:=fun n=>rfl
 by_cases c:k=21
 ·subst c;simp (decide:=true) only [jf,jl,h0,h1,yr h,jo];exact ⟨_,rfl,rfl⟩
 by_cases c2:k=22
 ·subst c2;simp (decide:=true) only [jf,jl,h0,h1,yr h,jo,jk];exact ⟨_,rfl,rfl⟩
 by_cases c3:k=23
 ·subst c3;simp (decide:=true) only [jf,jl,yr h,jo,jk];exact ⟨_,rfl,rfl⟩
 by_cases c4:k=24
 ·subst c4;simp (decide:=true) only [jf,jl,yr h,jo,jk];exact ⟨_,rfl,rfl⟩
 by_cases c5:k=25
 ·subst c5;simp (decide:=true) only [jf,jl,yr h,jo,jk,h0];exact ⟨_,rfl,rfl⟩
 by_cases c6:k=28
 ·subst c6;simp (decide:=true) only [jf,jl,yr h,jo,jk,h2];exact ⟨_,rfl,rfl⟩
 by_cases c7:k=26
 ·subst c7;simp (decide:=true) only [jf,jl,yr h,jo,jk,ht];exact ⟨_,rfl,rfl⟩
 by_cases c8:k=27
 ·subst c8;simp (decide:=true) only [jf,jl,yr h,jo,jk,ht];exact ⟨_,rfl,rfl⟩
 ·simp only [jf,jl,yr h,jo,jk,ht,c,c2,c3,c4,c5,c6,c7,c8,jm,jg];exact ⟨_,rfl,rfl⟩
def fkN (n:Nd):Fk:=if n.k_=19 then some (n.a_,n.T_) else none
theorem zus {hb:Nd×Sl CIx->G3 (Sl CIx)}{n:Nd}{l:Sl CIx}(h:l.xs.length<=50000) (hn:zn n<=50000) (h1:n.k_≠15) (h2:n.k_≠16):One (q1u hb (n,l)) l (fkN n):=by
 obtain ⟨ta,k0⟩:=VN n 0;obtain ⟨tb,k1⟩:=VN n 1;obtain ⟨sa,k2⟩:=zkc n (by have:=@ZV n;omega);obtain ⟨f,k3,hf⟩:=zur n;obtain ⟨af,k4⟩:=zkc f (by omega);have ks:=@zxf n f l h (by omega);obtain ⟨k,t,m,a,kk⟩:=n;have k0:q2y (⟨k,t,m,a,kk⟩,0)=_:=k0;have k1:q2y (⟨k,t,m,a,kk⟩,1)=_:=k1;have ke:=zj f;simp only at h1 h2;unfold q1u q4d;by_cases c:k=10
 ·subst c;obtain ⟨i,e1,e2⟩:=ks;simp (decide:=true) only [jf,jl,jo,k3,ke,e1,jj];exact ⟨i,rfl,e2⟩
 by_cases c3:k=11
 ·subst c3;simp (decide:=true) only [jf,jl,yr h,jo,jk,k0,k1,ji];exact ⟨_,rfl,rfl⟩
 by_cases c4:k=12
 ·subst c4;simp (decide:=true) only [jf,jl,yr h,jo,jk,ji];exact ⟨_,rfl,rfl⟩
 by_cases c5:k=13
 ·subst c5;simp (decide:=true) only [jf,jl,yr h,jo,jk,ji];exact ⟨_,rfl,rfl⟩
 by_cases c6:k=14
 ·subst c6;simp (decide:=true) only [jf,jl,yr h,jo,jk,ji];exact ⟨_,rfl,rfl⟩
 by_cases c7:k=20
 ·subst c7;simp (decide:=true) only [jf,jl,yr h,jo,jk,ji,k3,ke,k4];exact ⟨_,rfl,rfl⟩
 by_cases c8:k=19
 ·subst c8;simp (decide:=true) only [jf,jl,yr h,jo,jk,ji,k2];exact ⟨_,rfl,rfl⟩
 have hk:fkN ⟨k,t,m,a,kk⟩=none:=by simp only [fkN,js c8]
 rw [hk];by_cases c9:k=17
 ·subst c9;simp (decide:=true) only [jf,jl,yr h,jo,jk,ji,k0];exact ⟨_,rfl,rfl⟩
 ·simp only [jf,jl,yr h,jo,jk,ji,h1,h2,c,c3,c4,c5,c6,c7,c8,c9,jm,jg];exact ⟨_,rfl,rfl⟩
abbrev RIx:=qm
def rfk (i:RIx):Fk:=if i.O_=13 then some (i.a_,i.Y_) else none
abbrev InT:=(Int×Int×G0×G0×G0×Int×G0×Int×Int×Bool)×Sl ql
theorem rk0 {n x:Nd}{l:List Nd}{b:Bool}(h:n.K_=⟨x::l,b⟩):zd (rN n).K_ 0=some (rN x):=by
 rw [zV,h,show (0:Int)=((0:Nat):Int) from rfl,zr (by simp)];rfl
theorem rk1 {n x y:Nd}{l:List Nd}{b:Bool}(h:n.K_=⟨x::y::l,b⟩):zd (rN n).K_ 1=some (rN y):=by
 rw [zV,h,show (1:Int)=((1:Nat):Int) from rfl,zr (by simp)];rfl
theorem zew (n:RNd):q24 n=some ⟨n.T_,n.n_⟩:=rfl
theorem zgz (n:Nd) (hn:n.K_.xs.length<=50000):∃ l,q7o (rN n).K_=some l:=by
 have hl:(rN n).K_.xs.length=n.K_.xs.length:=by rw [zV];simp
 obtain ⟨l,h,_⟩:=go (f:=q6m q24) (n:=(rN n).K_.xs.length) (A:=Sl ql) (st:=fun i a=>((rN n).K_,(i:Int),a)) (fin:=fun a=>a) (J:=fun i a=>a.xs.length<=i)
  (fun i hi a ha=>by
   refine ⟨⟨a.xs++[⟨(rN n).K_.xs[i].T_,(rN n).K_.xs[i].n_⟩],true⟩,?_,by simp;omega⟩;unfold q6m;simp only [jh];rw [jr (by simp only [zu];omega),zr hi,jf];show ((some _).bind _)=_
   rw [jf,yT (by omega) (by omega),jf,zL (by omega)])
  (fun a ha=>by
   unfold q6m;simp only [jh]
   rw [js (by simp only [zu];omega)])
  (a:=Sl.mk [] false) (by simp)
 exact ⟨l,congrArg (fun o=>Option.bind o fun y=>some y) h⟩
def zvP (r:G3 InT) (k:Fk):Prop:=∃ y,r=some y/\(if y.1.1=13 then some (y.1.2.1,y.1.2.2.2.1) else none)=k
theorem zvQ {n e:Nd}(he:ExprG e) (hn:n.K_=⟨[e],true⟩) (hl:e.K_.xs.length<=50000):zvP (q8z (rN n)) none:=by
 obtain ⟨sa,ht⟩:=zgz e hl;unfold q8z qav;simp only [rk0 hn,jf,zt,zew,XA];cases he with
 |term h1 h2=>
  simp (decide:=true) only [h1,jm,jo,jk,jl,jf,jg];exact ⟨_,rfl,rfl⟩
 |leaf h1 h2=>
  rcases h1 with h1 | h1 | h1 | h1 <;>
  ·simp (decide:=true) only [h1,jm,jo,jk,jl,jf,jg];exact ⟨_,rfl,rfl⟩
 |call h1=>
  simp (decide:=true) only [h1.1,jm,jo,jk,jl,jf,jg,ht];exact ⟨_,rfl,rfl⟩
 |load h1 h2 h3=>
  simp (decide:=true) only [h1,jm,jo,jk,jl,jf,jg,rk0 h2,zew];exact ⟨_,rfl,rfl⟩
 |two h1 h2 h3 h4=>
  rcases h1 with h1 | h1 <;>
  ·simp (decide:=true) only [h1,jm,jo,jk,jl,jf,jg,rk0 h2,rk1 h2,zew];exact ⟨_,rfl,rfl⟩
theorem zrG {n:Nd}(h:StmtG n) (hn:zn n<=50000) (h1:n.k_≠15) (h2:n.k_≠16):zvP (q2b (rN n)) (fkN n):=by
 obtain ⟨sa,ht⟩:=zgz n (by have:=@ZV n;omega);have kl:∀ {k:Nd} {n:Nd},n.K_=⟨[k],true⟩->zn n<=50000->k.K_.xs.length<=50000:=by
  intro k n e hn;have a:=@YQ n k (by rw [e];simp);have b:=@ZV k;omega
 unfold q2b q9s;simp only [zt];simp only [XA];cases h with
 |leaf c=>
  have hk:∀ (k:Int) (t:G0) (n a:Int),(Sl.len (rN ⟨k,t,n,a,nilS⟩).K_)=0:=by intros;rw [zV];rfl
  rcases c with rfl | rfl | rfl | rfl | rfl <;>
  ·simp (decide:=true) only [jm,jo,jk,jl,jf,jg,hk];exact ⟨_,rfl,rfl⟩
 |ite=>grind
 |whl=>grind
 | @ret t n a x c=>
  have hk:Sl.len (rN ⟨17,t,n,a,⟨[x],true⟩⟩).K_=1:=by rw [zV];rfl
  simp (decide:=true) only [jm,jo,jk,jl,jf,jg,hk,rk0 (n:=⟨17,t,n,a,⟨[x],true⟩⟩) rfl,zew];exact ⟨_,rfl,rfl⟩
 | @fork t n a ks c=>
  simp (decide:=true) only [jm,jo,jk,jl,jf,jg,ht,YG,ZG];exact ⟨_,rfl,rfl⟩
 | @call t n a x c=>
  obtain ⟨ax,hx⟩:=zgz x (kl rfl hn);simp (decide:=true) only [jm,jo,jk,jl,jf,jg,rk0 (n:=⟨20,t,n,a,⟨[x],true⟩⟩) rfl,hx];exact ⟨_,rfl,rfl⟩
 | @store t n a x y c1 c2=>
  simp (decide:=true) only [jm,jo,jk,jl,jf,jg,rk0 (n:=⟨11,t,n,a,⟨[x,y],true⟩⟩) rfl,rk1 (n:=⟨11,t,n,a,⟨[x,y],true⟩⟩) rfl,zew];exact ⟨_,rfl,rfl⟩
 | @set t n a e c=>
  obtain ⟨y,e1,e2⟩:=zvQ (n:=⟨10,t,n,a,⟨[e],true⟩⟩) c rfl (kl rfl hn);simp (decide:=true) only [jm,jo,jk,jl,jf,jg,e1];exact ⟨y,rfl,e2⟩
def zex (s:Nd) (L:List Fk):Prop:=
 L.length<=zn s/\
 (∀ F (l:Sl CIx),zn s<=F->l.xs.length+zn s<=40000->∃ l',q1u (q2c F) (s,l)=some l'/\l'.xs.map fk=l.xs.map fk++L)/\
 ∀ F from_ (i:Nat) (n:RNd) (out:Sl RIx) (hi:i < n.K_.xs.length),n.K_.xs[i]=rN s->zn s<=F->out.xs.length+zn s<=40000->i < 100000->
  ∃ out',q3c q2b q24 (q2i F) (from_,(i:Int),n,out)=some (.next (from_,((i+1:Nat):Int),n,out'))/\out'.xs.map rfk=out.xs.map rfk++L
def zgA (b:Nd) (L:List Fk):Prop:=
 L.length+1<=zn b/\
 (∀ F (l:Sl CIx),zn b<=F->l.xs.length+zn b<=40000->∃ l',q2c F (b,l)=some l'/\l'.xs.map fk=l.xs.map fk++L)/\
 ∀ F from_,zn b<=F->zn b<=40000->∃ out,q2i F (rN b,from_)=some out/\out.xs.map rfk=L
theorem zrH {g:Nd->List Fk}:∀ l:List Nd,(∀ s∈l,(g s).length<=zn s)->(l.flatMap g).length<=ze l
 |[],h=>by simp
 |x::l,h=>by
  have h1:=h x (by simp);have h2:=zrH l fun s hs=>h s (by simp [hs])
  simp only [List.flatMap_cons,jt,ze];omega
theorem zpK {α β:Type}{g:α->List β}{l:List α}{i:Nat}(h:i < l.length):(l.take (i+1)).flatMap g=(l.take i).flatMap g++g l[i]:=by
 rw [<- UA h,List.flatMap_append];simp
theorem wO {l:List Nd}{i:Nat}(h:i < l.length):ze (l.take i)+zn l[i]<=ze l:=by
 have h1:ze (l.take i++l.drop i)=ze l:=by rw [List.take_append_drop]
 rw [zX,Uo h] at h1;simp only [ze] at h1;omega
theorem zhj {b:Nd}(h:∀ s∈b.K_.xs,∃ L,zex s L):∃ L,zgA b L:=by
 have:∀ s,∃ L,s∈b.K_.xs->zex s L:=fun s=>by
  by_cases hs:s∈b.K_.xs
  ·grind
  ·exact ⟨[],fun h=>absurd h hs⟩
 obtain ⟨g,hg⟩:=Classical.axiomOfChoice this;have hsz:=zk b;have ht:∀ {i:Nat},i < b.K_.xs.length->((b.K_.xs.take i).flatMap g).length<=ze (b.K_.xs.take i):=fun _=>zrH _ fun s hs=>(hg s (List.mem_of_mem_take hs)).1
 refine ⟨b.K_.xs.flatMap g,by have:=zrH (g:=g) b.K_.xs fun s hs=>(hg s hs).1;omega,?_,?_⟩
 ·intro F l hF hl;obtain ⟨F,rfl⟩:∃ k,F=k+1:=⟨F - 1,by omega⟩
  obtain ⟨l',h1,h2⟩:=go (f:=q6d (q1u (q2c F))) (n:=b.K_.xs.length) (A:=Sl CIx) (st:=fun i a=>(b.K_,b.K_.len,(i:Int),a)) (fin:=fun a=>a) (J:=fun i a=>a.xs.map fk=l.xs.map fk++(b.K_.xs.take i).flatMap g)
   (fun i hi a ha=>by
    have hm:=jx hi;have hlen:=congrArg List.length ha;have h3:=ht hi;have h4:=wO hi;simp only [jt,Uy] at hlen;obtain ⟨a',e1,e2⟩:=(hg _ hm).2.1 F a (by omega) (by omega);have hk:=@ZV b;refine ⟨a',?_,by rw [e2,ha,zpK hi,Ub]⟩;unfold q6d;simp only [jh,zj]
    rw [jr (by simp only [zu];omega),zr hi,jf,e1,jf,zL (by omega)])
   (fun a ha=>by
    unfold q6d;simp only [jh]
    rw [js (by simp only [zu];omega)])
   (a:=l) (by simp)
  exact ⟨l',congrArg (fun o=>Option.bind o fun y=>some y) h1,by grind⟩
 ·intro F fr hF hb;obtain ⟨F,rfl⟩:∃ k,F=k+1:=⟨F - 1,by omega⟩
  have hk:(rN b).K_.xs=b.K_.xs.map rN:=by rw [zV]
  have hkl:(rN b).K_.xs.length=b.K_.xs.length:=by rw [hk];simp
  obtain ⟨l',h1,h2⟩:=go (f:=q3c q2b q24 (q2i F)) (n:=b.K_.xs.length) (A:=Sl RIx) (st:=fun i a=>(fr,(i:Int),rN b,a)) (fin:=fun a=>a) (J:=fun i a=>a.xs.map rfk=(b.K_.xs.take i).flatMap g)
   (fun i hi a ha=>by
    have hm:=jx hi;have hlen:=congrArg List.length ha;have h3:=ht hi;have h4:=wO hi;have hk2:=@ZV b;simp only [Uy] at hlen;obtain ⟨a',e1,e2⟩:=(hg _ hm).2.2 F fr i (rN b) a (by omega) (by grind) (by omega) (by omega) (by omega)
    exact ⟨a',e1,by rw [e2,ha,zpK hi]⟩)
   (fun a ha=>by
    unfold q3c;simp only [jh]
    rw [js (by simp only [zu,hkl];omega)])
   (a:=Sl.mk [] false) (by simp)
  refine ⟨l',?_,by grind⟩;show ((lpO _ (fr,0,kr (rN b),Sl.mk [] false)).bind _)=_;rw [zt];grind
theorem vC {s:Nd}(h:StmtG s) (hs:zn s<=40000) (h1:s.k_≠15) (h2:s.k_≠16):zex s [fkN s]:=by
 refine ⟨by have:=ZR s;simp;omega,fun F l hF hl=>?_,fun F fr i n out hi hn hF ho hi2=>?_⟩
 ·obtain ⟨j,e1,e2⟩:=zus (hb:=q2c F) (n:=s) (l:=l) (by omega) (by omega) h1 h2;grind
 ·obtain ⟨y,e1,e2⟩:=zrG h (by omega) h1 h2;refine ⟨⟨out.xs++[⟨y.1.1,y.1.2.1,y.1.2.2.1,y.1.2.2.2.1,⟨y.1.2.2.2.2.1,y.1.2.2.2.2.2.1⟩,⟨y.1.2.2.2.2.2.2.1,y.1.2.2.2.2.2.2.2.1⟩,y.2,y.1.2.2.2.2.2.2.2.2.1,y.1.2.2.2.2.2.2.2.2.2⟩],true⟩,?_,by simp only [U5,GE,List.map_nil,<- e2];rfl⟩;have k1:(rN s).k_≠15:=by rw [XA];exact h1
  have k2:(rN s).k_≠16:=by rw [XA];exact h2
  unfold q3c;simp only [jh];rw [jr (by simp only [zu];omega),zr hi,hn,jf,jr k1];simp only [jf,zt,e1];rw [jr (gc k2),yT (by omega) (by omega)];simp only [jf];rw [zL (by omega)]
theorem zkd {l:Sl CIx}{i:Nat}{v:CIx}(h:i < l.xs.length) (hv:fk v=fk l.xs[i]):(l.set (i:Int) v).xs.map fk=l.xs.map fk:=by
 simp only [Sl.set,Int.toNat_natCast,List.map_set,hv];rw [<- List.getElem_map fk (h:=by simpa using h)];exact List.set_getElem_self _
theorem zsz {p q r} {a b c d:Int}{n s:RNd}{out t:Sl RIx}(h:out.xs.length+t.xs.length<=90000):∃ o,lpO (q52 p q r) (a,b,c,d,0,n,out,s,t)=some (a,b,c,d,n,o,s)/\o.xs=out.xs++t.xs:=by
 obtain ⟨o,h1,h2⟩:=go (f:=q52 p q r) (n:=t.xs.length) (A:=Sl RIx) (st:=fun i o=>(a,b,c,d,(i:Int),n,o,s,t)) (fin:=fun o=>(a,b,c,d,n,o,s)) (J:=fun i o=>o.xs=out.xs++t.xs.take i)
  (fun i hi o ho=>by
   have:=congrArg List.length ho;simp only [jt,Uk] at this;refine ⟨⟨o.xs++[t.xs[i]],true⟩,?_,by simp only;rw [ho,Ub,UA hi]⟩;unfold q52;simp only [jh,zt]
   rw [jr (by simp only [zu];omega),zr hi,jf,jf,yT (by omega) (by omega),jf,zL (by omega)])
  (fun o ho=>by
   unfold q52;simp only [jh,zt]
   rw [js (by simp only [zu];omega)])
  (a:=out) (by simp)
 grind
theorem zxg {p q r} {a b:Int}{n:RNd}{out t:Sl RIx}(h:out.xs.length+t.xs.length<=90000):∃ o,lpO (q53 p q r) (a,b,0,n,out,t)=some (a,b,n,o)/\o.xs=out.xs++t.xs:=by
 obtain ⟨o,h1,h2⟩:=go (f:=q53 p q r) (n:=t.xs.length) (A:=Sl RIx) (st:=fun i o=>(a,b,(i:Int),n,o,t)) (fin:=fun o=>(a,b,n,o)) (J:=fun i o=>o.xs=out.xs++t.xs.take i)
  (fun i hi o ho=>by
   have:=congrArg List.length ho;simp only [jt,Uk] at this;refine ⟨⟨o.xs++[t.xs[i]],true⟩,?_,by simp only;rw [ho,Ub,UA hi]⟩;unfold q53;simp only [jh,zt]
   rw [jr (by simp only [zu];omega),zr hi,jf,jf,yT (by omega) (by omega),jf,zL (by omega)])
  (fun o ho=>by
   unfold q53;simp only [jh,zt]
   rw [js (by simp only [zu];omega)])
  (a:=out) (by simp)
 grind
theorem zaI {α:Type}{l' l:List α}{f:α->Fk}{L:List Fk}(h:l'.map f=l.map f++L):l'.length=l.length+L.length:=by
 have:=congrArg List.length h;grind
theorem zd1 {hb} {n:Nd}{l:Sl CIx}(h:n.k_=15\/n.k_=16):q1u hb (n,l)=q29 hb (n,l):=by
 unfold q1u q4d;have key:∀ o:G3 (Sl CIx),((o.bind fun y3=>some (Sum.inl y3)).bind fun y18:Sl CIx⊕_=>Sum.elim (fun y19:Sl CIx=>some y19) (fun y20:Sl CIx×(Int×Int×G0×G0×G0×Int×G0×Int×Int×Bool)×Sl qt=>(q2f (qi.mk y20.2.1.1 y20.2.1.2.1 y20.2.1.2.2.1 y20.2.1.2.2.2.1 ⟨y20.2.1.2.2.2.2.1,y20.2.1.2.2.2.2.2.1⟩ ⟨y20.2.1.2.2.2.2.2.2.1,y20.2.1.2.2.2.2.2.2.2.1⟩ y20.2.2 y20.2.1.2.2.2.2.2.2.2.2.1 y20.2.1.2.2.2.2.2.2.2.2.2,y20.1)).bind fun y21=>some y21.2) y18)=o:=by
  intro o;cases o <;> rfl
 rcases h with h | h <;>
 ·simp (decide:=true) only [h,jo,jm,jl,jk,jf,jg]
  first | rw [<- h,zj] | simp only [zj]
  exact key _
theorem zut {op:G0}{n a:Int}{x y B1 B2:Nd}{L1 L2:List Fk}(h1:zgA B1 L1) (h2:zgA B2 L2) (hz:zn ⟨15,op,n,a,⟨[x,y,B1,B2],true⟩⟩<=40000) :
    zex ⟨15,op,n,a,⟨[x,y,B1,B2],true⟩⟩ (none::L1++none::L2):=by
  have hs:zn ⟨15,op,n,a,⟨[x,y,B1,B2],true⟩⟩=zn x+(zn y+(zn B1+zn B2))+1:=by rw [zk];simp [ze]
  have px:=ZR x;have py:=ZR y;refine ⟨by have:=h1.1;have:=h2.1;simp only [jt,ju];omega,fun F l hF hl=>?_,fun F fr i n' out hi hn hF ho hi2=>?_⟩
  · rw [zd1 (.inl rfl)];unfold q29 q3r;obtain ⟨ta,k0⟩:=VN ⟨15,op,n,a,⟨[x,y,B1,B2],true⟩⟩ 0;obtain ⟨tb,k1⟩:=VN ⟨15,op,n,a,⟨[x,y,B1,B2],true⟩⟩ 1;have k0:q2y (⟨15,op,n,a,⟨[x,y,B1,B2],true⟩⟩,0)=_:=k0;have k1:q2y (⟨15,op,n,a,⟨[x,y,B1,B2],true⟩⟩,1)=_:=k1;have g2:zd (⟨[x,y,B1,B2],true⟩:Sl Nd) 2=some B1:=rfl;have g3:zd (⟨[x,y,B1,B2],true⟩:Sl Nd) 3=some B2:=rfl;simp only [k0,k1,jf,jh,g2,g3,zj];rw [js (by show ¬((4:Int) < 3);omega),yr (by omega),jf];obtain ⟨l2,e2,m2⟩:=h1.2.1 F ⟨l.xs++[⟨10,a,op,lit [],ta,tb,Sl.mk [] false,0,false⟩],true⟩ (by omega) (by simp only [jt,jv];omega);have n2:=zaI m2;have q1:=h1.1;have q2:=h2.1;simp only [jt,jv] at n2;simp only [e2,jf];rw [yr (by omega)];simp only [jf];rw [zr (by simp only [jt,jv];omega)];simp only [jf,jl];rw [jr (by rfl)];generalize hv:Sl.set _ _ _=l4;have fv:l4.xs.map fk=l.xs.map fk++(none::L1++[none]):=by
      rw [<- hv,zkd (by simp only [jt,jv];omega) (by rfl)];simp [m2,fk]
    have n4:=zaI fv;simp only [jt,jv,ju,List.length_nil] at n4;obtain ⟨l5,e5,m5⟩:=h2.2.1 F l4 (by omega) (by omega);have n5:=zaI m5;simp only [g3,e5,jf];rw [zr (by omega)];refine ⟨_,rfl,?_⟩;rw [zkd (by omega) (by rfl),m5,fv];simp
  · unfold q3c;have r0:=rk0 (n:=⟨15,op,n,a,⟨[x,y,B1,B2],true⟩⟩) rfl;have r1:=rk1 (n:=⟨15,op,n,a,⟨[x,y,B1,B2],true⟩⟩) rfl;have r2:zd (rN ⟨15,op,n,a,⟨[x,y,B1,B2],true⟩⟩).K_ 2=some (rN B1):=by rw [zV];rfl
    have r3:zd (rN ⟨15,op,n,a,⟨[x,y,B1,B2],true⟩⟩).K_ 3=some (rN B2):=by rw [zV];rfl
    simp only [jh];rw [jr (by simp only [zu];omega),zr hi,hn,jf];have hK:(rN ⟨15,op,n,a,⟨[x,y,B1,B2],true⟩⟩).k_=15:=XA _;generalize rN ⟨15,op,n,a,⟨[x,y,B1,B2],true⟩⟩=S at *
    simp only [zt];simp (decide:=true) only [hK,jk,jf,jm,jg,r0,r1,r2,r3,zew];obtain ⟨o1,e1,m1⟩:=h1.2.2 F (G4 (G4 (fr+out.len)+1)) (by omega) (by omega);have n1:=congrArg List.length m1;have q1:=h1.1;have q2:=h2.1;simp only [Uy] at n1;rw [e1,jf,yT (by omega) (by omega),jf]
    obtain ⟨o2,e2,m2⟩:=zsz (p:=q2b) (q:=q24) (r:=q2i F) (a:=fr) (b:=(i:Int)) (c:=G4 (fr+out.len)) (d:=G4 (G4 (G4 (fr+out.len)+1)+o1.len)) (n:=n') (s:=S)
      (out:=⟨out.xs++[⟨10,S.a_,S.T_,lit [],⟨(rN x).T_,(rN x).n_⟩,⟨(rN y).T_,(rN y).n_⟩,Sl.mk [] false,G4 (G4 (G4 (G4 (fr+out.len)+1)+o1.len)+1),false⟩],true⟩) (t:=o1) (by simp only [jt,jv];omega)
    have n2:=congrArg List.length m2;simp only [jt,jv] at n2;rw [e2];simp only [jf];obtain ⟨o3,e3,m3⟩:=h2.2.2 F (G4 (G4 (G4 (G4 (fr+out.len)+1)+o1.len)+1)) (by omega) (by omega);have n3:=congrArg List.length m3;simp only [Uy] at n3;rw [js (by rw [hK];decide),r3];simp only [jf,zt,e3];rw [yT (by omega) (by omega),jf]
    obtain ⟨o4,e4,m4⟩:=zxg (p:=q2b) (q:=q24) (r:=q2i F) (a:=fr) (b:=(i:Int)) (n:=n')
      (out:=⟨o2.xs++[⟨11,S.a_,lit [],lit [],⟨lit [],0⟩,⟨lit [],0⟩,Sl.mk [] false,G4 (G4 (G4 (G4 (G4 (fr+out.len)+1)+o1.len)+1)+o3.len),false⟩],true⟩) (t:=o3) (by simp only [jt,jv];omega)
    rw [e4];simp only [jf];rw [zL (by omega)];exact ⟨_,rfl,by rw [m4];simp only [m2,U5,m1,m3,GE,List.map_nil,rfk];simp⟩
theorem zuu {op:G0}{n a:Int}{x y B1:Nd}{L1:List Fk}(h1:zgA B1 L1) (hz:zn ⟨16,op,n,a,⟨[x,y,B1],true⟩⟩<=40000) :
    zex ⟨16,op,n,a,⟨[x,y,B1],true⟩⟩ (none::L1++[none]):=by
  have hs:zn ⟨16,op,n,a,⟨[x,y,B1],true⟩⟩=zn x+(zn y+zn B1)+1:=by rw [zk];simp [ze]
  have px:=ZR x;have py:=ZR y;refine ⟨by have:=h1.1;grind,fun F l hF hl=>?_,fun F fr i n' out hi hn hF ho hi2=>?_⟩
  ·rw [zd1 (.inr rfl)];unfold q29 q3r;obtain ⟨ta,k0⟩:=VN ⟨16,op,n,a,⟨[x,y,B1],true⟩⟩ 0;obtain ⟨tb,k1⟩:=VN ⟨16,op,n,a,⟨[x,y,B1],true⟩⟩ 1;have k0:q2y (⟨16,op,n,a,⟨[x,y,B1],true⟩⟩,0)=_:=k0;have k1:q2y (⟨16,op,n,a,⟨[x,y,B1],true⟩⟩,1)=_:=k1;have g2:zd (⟨[x,y,B1],true⟩:Sl Nd) 2=some B1:=rfl;simp only [k0,k1,jf,jh,g2,zj];rw [js (by show ¬((3:Int) < 3);omega),yr (by omega),jf];obtain ⟨l2,e2,m2⟩:=h1.2.1 F ⟨l.xs++[⟨10,a,op,lit [],ta,tb,Sl.mk [] false,0,false⟩],true⟩ (by omega) (by grind);have n2:=zaI m2;have q1:=h1.1;simp only [jt,jv] at n2;simp only [e2,jf];rw [yr (by omega)];simp only [jf];rw [zr (by grind)];simp (decide:=true) only [jf,jk,jg];refine ⟨_,rfl,?_⟩;rw [zkd (by grind) (by rfl)];simp [m2,fk]
  · unfold q3c;have r0:=rk0 (n:=⟨16,op,n,a,⟨[x,y,B1],true⟩⟩) rfl;have r1:=rk1 (n:=⟨16,op,n,a,⟨[x,y,B1],true⟩⟩) rfl;have r2:zd (rN ⟨16,op,n,a,⟨[x,y,B1],true⟩⟩).K_ 2=some (rN B1):=by rw [zV];rfl
    simp only [jh];rw [jr (by simp only [zu];omega),zr hi,hn,jf];have hK:(rN ⟨16,op,n,a,⟨[x,y,B1],true⟩⟩).k_=16:=XA _;generalize rN ⟨16,op,n,a,⟨[x,y,B1],true⟩⟩=S at *
    simp only [zt];simp (decide:=true) only [hK,jk,jl,jf,jm,jg,r0,r1,r2,zew];obtain ⟨o1,e1,m1⟩:=h1.2.2 F (G4 (G4 (fr+out.len)+1)) (by omega) (by omega);have n1:=congrArg List.length m1;have q1:=h1.1;simp only [Uy] at n1;rw [e1,jf,yT (by omega) (by omega),jf]
    obtain ⟨o2,e2,m2⟩:=zsz (p:=q2b) (q:=q24) (r:=q2i F) (a:=fr) (b:=(i:Int)) (c:=G4 (fr+out.len)) (d:=G4 (G4 (G4 (fr+out.len)+1)+o1.len)) (n:=n') (s:=S)
      (out:=⟨out.xs++[⟨10,S.a_,S.T_,lit [],⟨(rN x).T_,(rN x).n_⟩,⟨(rN y).T_,(rN y).n_⟩,Sl.mk [] false,G4 (G4 (G4 (G4 (fr+out.len)+1)+o1.len)+1),false⟩],true⟩) (t:=o1) (by grind)
    have n2:=congrArg List.length m2;simp only [jt,jv] at n2;rw [e2];simp only [jf];rw [jr hK,yT (by omega) (by omega)];simp only [jf];rw [zL (by omega)];exact ⟨_,rfl,by simp only [m2,U5,m1,GE,List.map_nil,rfk];simp⟩
theorem zrI {s:Nd}(h:StmtG s) (hs:zn s<=40000):∃ L,zex s L:=by
 have blk:∀ (a:Int) (b:List Nd),(∀ s∈b,StmtG s)->(∀ s∈b,zn s<=40000->∃ L,zex s L)->zn ⟨9,lit [],0,a,mkS b⟩<=40000->∃ L,zgA ⟨9,lit [],0,a,mkS b⟩ L:=fun a b _ ih hz=>zhj fun s hs=>ih s hs (by have:=@YQ ⟨9,lit [],0,a,mkS b⟩ s hs;omega)
 induction h with
 | @ite op n a x y b1 a1 b2 a2 hx hy h1 h2 i1 i2=>
  obtain ⟨L1,b1⟩:=blk a1 _ h1 i1 (by rw [zk] at hs;simp [ze] at hs;omega);obtain ⟨L2,b2⟩:=blk a2 _ h2 i2 (by rw [zk] at hs;simp [ze] at hs;omega);exact ⟨_,zut b1 b2 hs⟩
 | @whl op n a x y b1 a1 hx hy h1 i1=>
  obtain ⟨L1,b1⟩:=blk a1 _ h1 i1 (by rw [zk] at hs;simp [ze] at hs;omega);exact ⟨_,zuu b1 hs⟩
 | @leaf k t n a c=>exact ⟨_,vC (.leaf c) hs (by grind) (by grind)⟩
 |ret c=>exact ⟨_,vC (.ret c) hs (by simp) (by simp)⟩
 |fork c=>exact ⟨_,vC (.fork c) hs (by simp) (by simp)⟩
 |call c=>exact ⟨_,vC (.call c) hs (by simp) (by simp)⟩
 |store c d=>exact ⟨_,vC (.store c d) hs (by simp) (by simp)⟩
 |set c=>exact ⟨_,vC (.set c) hs (by simp) (by simp)⟩
theorem zvR {k:Nd}(h:FnG k) (hs:zn k<=40000):∃ c rc,q5u k=some c/\q5g (rN k)=some rc/\c.L_.xs.map fk=rc.2.2.xs.map rfk/\c.L_.xs.length<=40000:=by
 obtain ⟨h6,ps,r,b,hk,hp,hr,hr8,hb⟩:=h;have hk':=congrArg Sl.xs hk;simp only at hk';obtain ⟨a,l,rfl,hl⟩:=hb;have hsz:=YQ (n:=k) (k:=⟨9,lit [],0,a,mkS l⟩) (by rw [hk'];simp);obtain ⟨L,hL⟩:∃ L,zgA ⟨9,lit [],0,a,mkS l⟩ L:=zhj fun s hs=>zrI (hl s hs) (by have:=@YQ ⟨9,lit [],0,a,mkS l⟩ s hs;omega)
 have hlen:k.K_.xs.length=ps.length+2:=by rw [hk'];simp
 have hkl:=@ZV k;have hq:=hL.1;have hsp:=ZR ⟨9,lit [],0,a,mkS l⟩
 obtain ⟨⟨P,l1⟩,e1,e2,e3⟩:=go (f:=qb9 q77 q2f) (n:=k.K_.xs.length) (A:=Sl G0×Sl CIx) (st:=fun i a=>(k.K_,k.K_.len,(i:Int),lit [],k.T_,a.1,a.2)) (fin:=fun a=>(lit [],k.T_,a.1,a.2))
  (J:=fun i a=>a.1.xs.length<=i/\a.2.xs.map fk=if i=k.K_.xs.length then L++[none] else [])
  (fun i hi P hP=>by
   obtain ⟨P,l1⟩:=P;obtain ⟨hP,hl1⟩:=hP;simp only at hP hl1;rw [js (by omega)] at hl1;unfold qb9;simp only [jh,zj];rw [jr (by simp only [zu];omega),zr hi,jf];have wk:=@zL i (by omega);by_cases c:i < ps.length
   ·have hx:k.K_.xs[i]=ps[i]:=by grind
    refine ⟨(⟨P.xs++[k.K_.xs[i].T_],true⟩,l1),?_,by simp;omega,by grind⟩;rw [jr (by rw [hx];exact (hp _ (jx c)).1),yT (by omega) (by omega)];grind
   by_cases c2:i=ps.length
   ·have hx:k.K_.xs[i]=r:=by grind
    refine ⟨(P,l1),?_,by grind,by grind⟩;grind
   ·obtain rfl:i=ps.length+1:=by omega
    have hx:k.K_.xs[ps.length+1]=⟨9,lit [],0,a,mkS l⟩:=by grind
    have h0:l1.xs=[]:=List.map_eq_nil_iff.1 hl1;obtain ⟨l2,f1,f2⟩:=hL.2.1 100000 l1 (by omega) (by grind);have n2:=zaI f2;rw [h0,List.length_nil] at n2;refine ⟨(P,⟨l2.xs++[⟨14,a,lit [],lit [],⟨lit [],0⟩,⟨lit [],0⟩,Sl.mk [] false,0,false⟩],true⟩),?_,by grind,by simp only [U5,f2,hl1];rw [jr (by omega)];simp [fk]⟩;rw [hx,js (by grind),jr (by rfl)];show (((((q2c 100000 (_,l1)).bind _)).bind _).bind _)=_;rw [f1,jf,yr (by omega)]
    grind)
  (fun P hP=>by
   unfold qb9;simp only [jh]
   rw [js (by simp only [zu];omega)])
  (a:=(Sl.mk [] false,Sl.mk [] false)) ⟨by simp,by grind⟩
 rw [jr rfl] at e3;have ek:(rN k).K_.xs=k.K_.xs.map rN:=by rw [zV]
 have ekl:(rN k).K_.xs.length=k.K_.xs.length:=by rw [ek];simp
 obtain ⟨P2,g1,g2⟩:=go (f:=q54 q5h) (n:=ps.length) (A:=Sl G0) (st:=fun i a=>(((ps.length+1:Nat):Int),(i:Int),rN k,lit [],k.T_,a)) (fin:=fun a=>(((ps.length+1:Nat):Int),rN k,lit [],k.T_,a))
  (J:=fun i a=>a.xs.length<=i)
  (fun i hi P hP=>by
   refine ⟨⟨P.xs++[((rN k).K_.xs[i]'(by omega)).T_],true⟩,?_,by simp;omega⟩;unfold q54;simp only [jh,zt]
   rw [zM (by omega) (by omega),jr (by omega),zr (by omega),jf,yT (by omega) (by omega),jf,zL (by omega)])
  (fun P hP=>by
   unfold q54;simp only [jh,zt]
   rw [zM (by omega) (by omega),js (by omega)])
  (a:=Sl.mk [] false) (by simp)
 obtain ⟨out,o1,o2⟩:=hL.2.2 100000 0 (by omega) (by omega);have on:=congrArg List.length o2;simp only [Uy] at on;have hlast:zd (rN k).K_ ((ps.length+1:Nat):Int)=some (rN ⟨9,lit [],0,a,mkS l⟩):=by
  rw [zr (by omega)];grind
 have n3:=congrArg List.length e3;simp only [Uy,jt,jv] at n3;refine ⟨⟨k.T_,P,l1⟩,(k.T_,P2,⟨out.xs++[⟨14,(rN ⟨9,lit [],0,a,mkS l⟩).a_,lit [],lit [],⟨lit [],0⟩,⟨lit [],0⟩,Sl.mk [] false,0,false⟩],true⟩),?_,?_,?_,?_⟩
 ·unfold q5u qd1;rw [js (by simp [h6])];exact congrArg (fun o=>Option.bind o fun y7:G0×G0×Sl G0×Sl CIx=>some (q1h.mk y7.2.1 y7.2.2.1 y7.2.2.2)) e1
 ·unfold q5g q9t;have hw:G4 ((rN k).K_.len - 1)=((ps.length+1:Nat):Int):=by rw [zu,ekl,hlen,zM (by omega) (by omega)];omega
  simp only [hw,zt];simp only [ZG];have g1:lpO (q54 q5h) (((ps.length+1:Nat):Int),0,rN k,lit [],k.T_,Sl.mk [] false)=_:=g1;have o1:q5h (rN ⟨9,lit [],0,a,mkS l⟩,0)=_:=o1;rw [g1];simp only [jf,hlast,zt,o1];rw [yT (by omega) (by omega)];rfl
 ·simp only [e3,U5,o2];rfl
 grind
end Go.Px
