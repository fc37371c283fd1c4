/- Part Lf. -/
import Derived.Test.YtlhommikjhhmbaaGreatDoorLe
set_option linter.unusedVariables false
set_option linter.unusedSimpArgs false
set_option linter.unusedSectionVars false
namespace Go.Px
open Bool renaming true->u,false->B
open List renaming length->D,take->G
open _root_.Option renaming some->w,bind->E
open Sl renaming mk->C
theorem DG:∀{α : Type _} {l : List α} {i : Nat} (h : i < l.length),G i l++[l[i]] = G (i + 1) l:=@List.take_append_getElem
inductive AllN(p:Nd->Prop):Nd->Prop
 |mk {n:Nd}:p n->(∀k∈n.K_.xs,AllN p k)->AllN p n
theorem AllN.mono{p q:Nd->Prop}(h:∀n,p n->q n){n:Nd}(a:AllN p n):AllN q n:=by
 induction a with
 |mk a b c=>exact .mk (h _ a) c
theorem zme{p:Nd->Prop}(h:∀n,p n)(n:Nd):AllN p n:=by
 have:∀(m:Nat) (n:Nd),zl n<=m->AllN p n:=by
  intro m
  induction m with
  |zero=>intro n b;have:=z6 n;omega
  |succ m c=>exact λn b =>.mk (h n) λk a=>c k (by have:=ZX a;omega)
 exact this _ n (UK _)
abbrev CIx:=qm
inductive QK
 |y
 |n (b:U0)
 |x (b:U0)
 |c (b:U0) (l:List U0)
 |f (b:U0) (l:List U0)
structure Gi(Q:QK->Prop)(N:Nat)(i:CIx):Prop where
 t:0<=i.H_/\i.H_<=N
 y:5<=i.O_->i.O_<=9->Q .y
 a:Q (.n i.A_.N_)
 b:Q (.n i.B_.N_)
 l:i.Q_.xs.length<=50000/\∀t∈i.Q_.xs,Q (.n t.N_)
 x:i.O_=0->Q (.x i.X_)
 c:i.O_=12->Q (.c i.Y_ (i.Q_.xs.map qz.N_))
 f:i.O_=13->Q (.f i.Y_ (i.Q_.xs.map qz.N_))
theorem Gi.mono{Q:QK->Prop}{N M:Nat}{i:CIx}(h:Gi Q N i)(d:N<=M):Gi Q M i:=⟨⟨h.t.1,by have:=h.t.2;omega⟩,h.y,h.a,h.b,h.l,h.x,h.c,h.f⟩
structure pQ(Q:QK->Prop)(n:Nd):Prop where
 q:n.k_=5\/n.k_=24\/n.k_=26\/n.k_=27->Q (.n n.T_)
 y:11<=n.k_/\n.k_<=14\/n.k_=25->Q .y
 s:n.k_=10->Q (.x n.T_)
 c:n.k_=28->Q (.c n.T_ (n.K_.xs.map q8.T_))
 f:n.k_=19->Q (.f n.T_ (n.K_.xs.map q8.T_))
theorem pQ.o{Q:QK->Prop}{n:Nd}(q:n.k_=5\/n.k_=24\/n.k_=26\/n.k_=27->Q (.n n.T_))(y:11<=n.k_/\n.k_<=14\/n.k_=25->Q .y)(h:n.k_≠10/\n.k_≠28/\n.k_≠19):pQ Q n:=
 ⟨q,y,λc=>absurd c h.1,λc=>absurd c h.2.1,λc=>absurd c h.2.2⟩
theorem go {S R A:Type}{f:S->U3 (Step S R)}{n:Nat}{st:Nat->A->S}{fin:A->R}{J:Nat->A->Prop}
    (h:∀i,i < n->∀a,J i a->∃a',f (st i a)=w (.next (st (i+1) a'))/\J (i+1) a') (h0:∀a,J n a->f (st n a)=w (.done (fin a))) {a:A} (c:J 0 a) :
    ∃a',lpO f (st 0 a)=w (fin a')/\J n a':=by
 have:∀(m i:Nat) (a:A),i+m=n->J i a->∃a',lpO f (st i a)=w (fin a')/\J n a':=by
  intro m
  induction m with
  |zero=>
   intro i a hi c;obtain rfl:i=n:=Zc
   exact⟨a,zw (h0 a c),c⟩
  |succ m g=>
   intro i a hi c;obtain⟨a',h1,h2⟩:=h i Zc a c;obtain⟨b,e,d⟩:=g (i+1) a' Zc h2;exact⟨b,by rw[zA h1,e],d⟩
 exact this n 0 a Zc c
theorem Zu{α:Type}{b:Nat}{s:Sl α}{x:α}(hb:b<=1000000)(h:s.xs.length<=100000):zo b s [x]=w ⟨s.xs++[x],u⟩:=by
 have:(s.xs.length+[x].length) * b<=100001 * 1000000:=Nat.mul_le_mul ji hb;rw[yy Zc ji];simp
theorem zmf(n:Nd)(e:n.K_.xs.length<=50000):∃l,qco n=w l/\l.xs=n.K_.xs.map λk=>⟨k.T_,k.n_⟩:=by
 obtain⟨l,h,d⟩:=go (f:=qeq qbd) (n:=n.K_.xs.length) (A:=Sl qz) (st:=λi a=>(n.K_,n.K_.len,(i:Int),a)) (fin:=λa=>a) (J:=λi a=>a.xs=(n.K_.xs.take i).map λk=>⟨k.T_,k.n_⟩)
  (λi hi a c=>by
   have b:=congrArg D c;simp only[D1,Dl] at b;refine⟨⟨a.xs++[⟨n.K_.xs[i].T_,n.K_.xs[i].n_⟩],u⟩,?_,by rw[<- DG hi,DA,c];rfl⟩;unfold qeq;simp only[jl];rw[jv jA,ze hi,jj];show((w _).bind _)=_
   rw[jj,Zu Zc Zc,jj,zu Zc])
  (λa c=>by
   unfold qeq;simp only[jl]
   rw[jx jA])
  (a:=C [] B) rfl
 rw[Dt] at d;exact⟨l,congrArg (λo=>E o λy=>w y) h,d⟩
theorem zmg{Q:QK->Prop}{n:Nd}{l:Sl qz}(h:l.xs=n.K_.xs.map λk=>⟨k.T_,k.n_⟩)(a:n.K_.xs.length<=50000)(q:∀k∈n.K_.xs,Q (.n k.T_)):(l.xs.length<=50000/\∀t∈l.xs,Q (.n t.N_))/\l.xs.map qz.N_=n.K_.xs.map q8.T_:=by
 rw[h];refine⟨⟨by simpa using a,λt b=>?_⟩,je⟩;grind
def kT(n:Nd)(i:Nat):qz:=(n.K_.xs[i]?).elim ⟨lit [],0⟩ λx=>⟨x.T_,x.n_⟩
theorem zaz(n:Nd)(i:Nat):q39 (n,(i:Int))=w (kT n i):=by
 unfold q39 qhc kT;simp only[jl];split
 ·rename_i h;rw[UP (by simp only[zf] at h;omega)];rfl
 ·rename_i h;have hi:i < n.K_.xs.length:=by simp only[zf] at h;omega
  rw[ze hi,UJ hi];rfl
theorem zpF{Q:QK->Prop}{n:Nd}{i:Nat}(q0:Q (.n (lit [])))(h:∀k∈n.K_.xs,Q (.n k.T_)):Q (.n (kT n i).N_):=by
 unfold kT;grind
def zmh(n:Nd):Nd:=(n.K_.xs[0]?).getD vp
theorem zxu(n:Nd):q7w n=w (zmh n)/\(zmh n).K_.xs.length<=zl n:=by
 unfold q7w qfs zmh;simp only[jl];split
 ·rename_i h;have:n.K_.xs=[]:=by simp only[zf] at h;exact UQ Zc
  rw[this];exact⟨rfl,by simp[vp]⟩
 ·rename_i h;have h0:0 < n.K_.xs.length:=by simp only[zf] at h;omega
  rw[show(0:Int)=((0:Nat):Int) from rfl,ze h0,UJ h0];refine⟨by simp only[jj,Option.getD_some,zm],?_⟩;have h1:=ZX (gc h0);have h2:=@Zl n.K_.xs[0];grind
theorem x6{i:CIx}{l:Sl CIx}(h:l.xs.length<=50000):q2w (i,l)=w ((l.xs.length:Int),⟨l.xs++[i],u⟩):=by
 unfold q2w qcv;rw[Zu Zc jE];simp only[jj,zf,jy,g9];rw[zE Zc Zc];congr 2;omega
def One(Q:QK->Prop)(r:U3 (Sl CIx))(l:Sl CIx):Prop:=∃i,r=w ⟨l.xs++[i],u⟩/\Gi Q 0 i
theorem zAD{Q:QK->Prop}{n e:Nd}{l:Sl CIx}(qx:Q (.x n.T_))(h:l.xs.length<=50000)(r:e.K_.xs.length<=50000)(g:ExprG e)(a:AllN (pQ Q) e)(q0:Q (.n (lit []))):One Q (q77 (n,e,l)) l:=by
 obtain⟨F,h2,a2⟩:=zmf e r;have h0:=zaz e 0;have h1:=zaz e 1;obtain⟨q,qk⟩:=a;have f:(∀k∈e.K_.xs,ZP k)->∀k∈e.K_.xs,Q (.n k.T_):=λt k o=>by
  obtain⟨h,_⟩:=qk k o;exact h.q (.inl (t k o).2)
 have z:(0:Int)<=0/\(0:Int)<=(0:Nat):=⟨Zc,Zc⟩;have d:([]:List qz).length<=50000/\∀t∈([]:List qz),Q (.n t.N_):=je
 have t0:=@zpF Q e 0 q0;have p:=@zpF Q e 1 q0;obtain⟨k,t,m,a,ks⟩:=e;have h0:q39 (⟨k,t,m,a,ks⟩,0)=_:=h0;have h1:q39 (⟨k,t,m,a,ks⟩,1)=_:=h1;have i:∀n:Nd,qbd n=w ⟨n.T_,n.n_⟩:=λn=>rfl
 unfold q77 qcw;cases g with
 |term b=>
  obtain rfl:k=5:=b;simp (decide:=true) only [jj,jp,x6 h,i,jr,jk];exact⟨_,rfl,z,je,q.q (.inl rfl),q0,d,λ_=>qx,je,je⟩
 |leaf b=>
  rcases b with b | b | b | b<;>obtain rfl:k=_:=b<;>simp (decide:=true) only [jj,jq,jp,x6 h,js,i,jr,jk]
  ·exact⟨_,rfl,z,je,q0,q0,d,je,je,je⟩
  ·exact⟨_,rfl,z,je,q.q je,q0,d,je,je,je⟩
  ·exact⟨_,rfl,z,je,q.q je,q0,d,λ_=>qx,je,je⟩
  ·exact⟨_,rfl,z,je,q.q je,q0,d,λ_=>qx,je,je⟩
 |call b=>
  obtain⟨b,j⟩:=b;obtain rfl:k=28:=b;simp (decide:=true) only [jj,jq,jp,x6 h,js,i,jr,jk,h2];obtain⟨v,A⟩:=zmg a2 r (f j);exact⟨_,rfl,z,je,q0,q0,v,je,λ_=>by simp only[A];exact q.c rfl,je⟩
 |load b j s=>
  obtain rfl:k=25:=b;simp (decide:=true) only [jj,jq,jp,x6 h,js,i,jr,jk,h0];exact⟨_,rfl,z,λ_ _=>q.y je,t0 (f jE),q0,d,je,je,je⟩
 |two b j s H=>
  have f:=f jE;rcases b with b | b<;>obtain rfl:k=_:=b<;>simp (decide:=true) only [jj,jq,jp,x6 h,js,i,jr,jk,h0,h1]
  ·exact⟨_,rfl,z,λh _=>absurd h (jI:¬ 5<=U4 (1+U4 (21 - 21))),t0 f,p f,d,λh=>absurd h (jI:¬ U4 (1+U4 (21 - 21))=0),λh=>absurd h (jI:¬ U4 (1+U4 (21 - 21))=12),λh=>absurd h (jI:¬ U4 (1+U4 (21 - 21))=13)⟩
  ·exact⟨_,rfl,z,λh _=>absurd h (jI:¬ 5<=U4 (1+U4 (22 - 21))),t0 f,p f,d,λh=>absurd h (jI:¬ U4 (1+U4 (22 - 21))=0),λh=>absurd h (jI:¬ U4 (1+U4 (22 - 21))=12),λh=>absurd h (jI:¬ U4 (1+U4 (22 - 21))=13)⟩
theorem zxv{Q:QK->Prop}{hb:Nd×Sl CIx->U3 (Sl CIx)}{n:Nd}{l:Sl CIx}(h:l.xs.length<=50000)(P:zl n<=50000)(g:StmtG n)(a:AllN (pQ Q) n)(q0:Q (.n (lit [])))(h1:n.k_≠15)(h2:n.k_≠16):One Q (q28 hb (n,l)) l:=by
 have k0:=zaz n 0;have v:=zaz n 1;have o:n.K_.xs.length<=50000:=by have:=@Zl n;omega
 obtain⟨O,N,a2⟩:=zmf n o;obtain⟨j,R⟩:=zxu n;obtain⟨q,qk⟩:=a;have e:(∀k∈n.K_.xs,ZP k)->∀k∈n.K_.xs,Q (.n k.T_):=λt k p=>by
  obtain⟨h,_⟩:=qk k p;exact h.q (.inl (t k p).2)
 have z:(0:Int)<=0/\(0:Int)<=(0:Nat):=⟨Zc,Zc⟩;have b:([]:List qz).length<=50000/\∀t∈([]:List qz),Q (.n t.N_):=je
 have t0:=@zpF Q n 0 q0;have M:=@zpF Q n 1 q0;unfold q28 q64;cases g with
 | @leaf k t m a c=>
  have k0:q39 (⟨k,t,m,a,nilS⟩,0)=_:=k0;rcases c with rfl | rfl | rfl | rfl | rfl<;>simp (decide:=true) only [jj,jq,x6 h,js,jp,jr,jk,k0,jm]
  ·exact⟨_,rfl,z,λ_ _=>q.y je,q0,q0,b,je,je,je⟩
  ·exact⟨_,rfl,z,λ_ _=>q.y je,q0,q0,b,je,je,je⟩
  ·exact⟨_,rfl,z,λ_ _=>q.y je,q0,q0,b,je,je,je⟩
  ·exact⟨_,rfl,z,je,t0 je,q0,b,je,je,je⟩
  ·exact⟨_,rfl,z,je,q0,q0,b,je,je,je⟩
 |ite=>grind
 |whl=>grind
 | @ret t m a x c=>
  have k0:q39 (⟨17,t,m,a,⟨[x],u⟩⟩,0)=_:=k0;simp (decide:=true) only [jj,jq,x6 h,js,jp,jr,jk,k0,jm];exact⟨_,rfl,z,je,t0 (e (by simpa using c)),q0,b,je,je,je⟩
 | @fork t m a ks c=>
  simp (decide:=true) only [jj,jq,x6 h,js,jp,jr,jk,N,jm];obtain⟨A,r⟩:=zmg a2 o (e c);exact⟨_,rfl,z,je,q0,q0,A,je,je,λ_=>by simp only[r];exact q.f rfl⟩
 | @call t m a x c=>
  have j:q7w ⟨20,t,m,a,⟨[x],u⟩⟩=w x:=j;have F:x.K_.xs.length<=50000:=jE;obtain⟨S,L,a4⟩:=zmf x F;obtain⟨K,qx⟩:=qk x je;obtain⟨A,r⟩:=zmg (Q:=Q) a4 F λk p=>by obtain⟨h,_⟩:=qx k p;exact h.q (.inl (c.2 k p).2)
  simp (decide:=true) only [jj,jq,x6 h,js,jp,jr,jk,j,zm,L,jm];exact⟨_,rfl,z,je,q0,q0,A,je,λ_=>by simp only[r];exact K.c c.1,je⟩
 | @store t m a x y c d=>
  have k0:q39 (⟨11,t,m,a,⟨[x,y],u⟩⟩,0)=_:=k0;have v:q39 (⟨11,t,m,a,⟨[x,y],u⟩⟩,1)=_:=v;have e:=e jE;simp (decide:=true) only [jj,jq,x6 h,js,jp,jr,jk,k0,v,jm];exact⟨_,rfl,z,λ_ _=>q.y je,t0 e,M e,b,je,je,je⟩
 | @set t m a x c=>
  have j:q7w ⟨10,t,m,a,⟨[x],u⟩⟩=w x:=j;obtain⟨i,H,I⟩:=zAD (n:=⟨10,t,m,a,⟨[x],u⟩⟩) (q.s rfl) h (jE:x.K_.xs.length<=50000) c (qk x je) q0;simp (decide:=true) only [jj,jq,js,j,zm,H,jo];exact⟨i,rfl,I⟩
abbrev RIx:=qq
abbrev InT:=(Int×Int×U0×U0×U0×Int×U0×Int×Int×Bool)×Sl qp
theorem rk0{n x:Nd}{l:List Nd}{b:Bool}(h:n.K_=⟨x::l,b⟩):za (rN n).K_ 0=w (rN x):=by
 rw[zJ,h,show(0:Int)=((0:Nat):Int) from rfl,ze je];rfl
theorem rk1{n x y:Nd}{l:List Nd}{b:Bool}(h:n.K_=⟨x::y::l,b⟩):za (rN n).K_ 1=w (rN y):=by
 rw[zJ,h,show(1:Int)=((1:Nat):Int) from rfl,ze je];rfl
theorem zfO(n:RNd):q23 n=w ⟨n.T_,n.n_⟩:=rfl
theorem zib(n:Nd)(d:n.K_.xs.length<=50000):∃l,q60 (rN n).K_=w l:=by
 have c:(rN n).K_.xs.length=n.K_.xs.length:=by rw[zJ];simp
 obtain⟨l,h,_⟩:=go (f:=q71 q23) (n:=(rN n).K_.xs.length) (A:=Sl qp) (st:=λi a=>((rN n).K_,(i:Int),a)) (fin:=λa=>a) (J:=λi a=>a.xs.length=i)
  (λi hi a b=>by
   refine⟨⟨a.xs++[⟨(rN n).K_.xs[i].T_,(rN n).K_.xs[i].n_⟩],u⟩,?_,by simp[b]⟩;unfold q71;simp only[jl];rw[jv jA,ze hi,jj];show((w _).bind _)=_
   rw[jj,Zu Zc Zc,jj,zu Zc])
  (λa b=>by
   unfold q71;simp only[jl]
   rw[jx jA])
  (a:=C [] B) rfl
 exact⟨l,congrArg (λo=>E o λy=>w y) h⟩
def zy4(r:U3 InT):Prop:=∃y,r=w y
theorem zy5{n e:Nd}(b:ExprG e)(d:n.K_=⟨[e],u⟩)(a:e.K_.xs.length<=50000):zy4 (q6t (rN n)):=by
 obtain⟨g,c⟩:=zib e a;unfold q6t qb3;simp only[rk0 d,jj,zj,zfO,ZT];cases b with
 |term h1 h2=>
  simp (decide:=true) only [h1,jr,js,jp,jq,jj,jk];exact⟨_,rfl⟩
 |leaf h1 h2=>
  rcases h1 with h1 | h1 | h1 | h1<;>
  ·simp (decide:=true) only [h1,jr,js,jp,jq,jj,jk];exact⟨_,rfl⟩
 |call h1=>
  simp (decide:=true) only [h1.1,jr,js,jp,jq,jj,jk,c];exact⟨_,rfl⟩
 |load h1 h2 f=>
  simp (decide:=true) only [h1,jr,js,jp,jq,jj,jk,rk0 h2,zfO];exact⟨_,rfl⟩
 |two h1 h2 f h=>
  rcases h1 with h1 | h1<;>
  ·simp (decide:=true) only [h1,jr,js,jp,jq,jj,jk,rk0 h2,rk1 h2,zfO];exact⟨_,rfl⟩
theorem zur{n:Nd}(h:StmtG n)(f:zl n<=50000)(h1:n.k_≠15)(h2:n.k_≠16):zy4 (q27 (rN n)):=by
 obtain⟨m,l⟩:=zib n (by have:=@Zl n;omega);have g:∀{k:Nd} {n:Nd},n.K_=⟨[k],u⟩->zl n<=50000->k.K_.xs.length<=50000:=by
  intro k n e f;have a:=@ZX n k (by rw[e];simp);have b:=@Zl k;omega
 unfold q27 q8u;simp only[zj];simp only[ZT];cases h with
 |leaf c=>
  have d:∀(k:Int) (t:U0) (n a:Int),(Sl.len (rN ⟨k,t,n,a,nilS⟩).K_)=0:=by intros;rw[zJ];rfl
  rcases c with rfl | rfl | rfl | rfl | rfl<;>
  ·simp (decide:=true) only [jr,js,jp,jq,jj,jk,d];exact⟨_,rfl⟩
 |ite=>grind
 |whl=>grind
 | @ret t n a x c=>
  have d:Sl.len (rN ⟨17,t,n,a,⟨[x],u⟩⟩).K_=1:=by rw[zJ];rfl
  simp (decide:=true) only [jr,js,jp,jq,jj,jk,d,rk0 (n:=⟨17,t,n,a,⟨[x],u⟩⟩) rfl,zfO];exact⟨_,rfl⟩
 | @fork t n a ks c=>
  simp (decide:=true) only [jr,js,jp,jq,jj,jk,l,Y3,zZ];exact⟨_,rfl⟩
 | @call t n a x c=>
  obtain⟨o,i⟩:=zib x (g rfl f);simp (decide:=true) only [jr,js,jp,jq,jj,jk,rk0 (n:=⟨20,t,n,a,⟨[x],u⟩⟩) rfl,i];exact⟨_,rfl⟩
 | @store t n a x y c1 c2=>
  simp (decide:=true) only [jr,js,jp,jq,jj,jk,rk0 (n:=⟨11,t,n,a,⟨[x,y],u⟩⟩) rfl,rk1 (n:=⟨11,t,n,a,⟨[x,y],u⟩⟩) rfl,zfO];exact⟨_,rfl⟩
 | @set t n a e c=>
  obtain⟨y,j⟩:=zy5 (n:=⟨10,t,n,a,⟨[e],u⟩⟩) c rfl (g rfl f);simp (decide:=true) only [jr,js,jp,jq,jj,jk,j];exact⟨y,rfl⟩
structure Ls(Q:QK->Prop)(m:Nat)(l l':Sl CIx):Prop where
 a:l.xs.length<=l'.xs.length
 b:l'.xs.length<=l.xs.length+m
 g:(∀i∈l.xs,Gi Q l.xs.length i)->∀i∈l'.xs,Gi Q l'.xs.length i
theorem Ls.trans{Q:QK->Prop}{m k:Nat}{a b c:Sl CIx}(h:Ls Q m a b)(g:Ls Q k b c):Ls Q (m+k) a c:=⟨by have:=h.a;have:=g.a;omega,by have:=h.b;have:=g.b;omega,λx=>g.g (h.g x)⟩
theorem Ls.mono{Q:QK->Prop}{m k:Nat}{a b:Sl CIx}(h:Ls Q m a b)(c:m<=k):Ls Q k a b:=⟨h.a,by have:=h.b;omega,h.g⟩
theorem Ls.snoc{Q:QK->Prop}{l:Sl CIx}{i:CIx}(h:Gi Q (l.xs.length+1) i):Ls Q 1 l ⟨l.xs++[i],u⟩:=by
 refine⟨je,je,λg j a=>?_⟩;simp only[jy,g9];rcases U5.1 a with a | a
 ·exact(g j a).mono Zc
 ·rw[Dz] at a;subst a;exact h
theorem Ls.set{Q:QK->Prop}{l:Sl CIx}{k:Nat}{i:CIx}(b:k < l.xs.length)(h:Gi Q l.xs.length l.xs[k]->Gi Q l.xs.length i):Ls Q 0 l (l.set (k:Int) i):=by
 refine⟨by simp[Sl.set],by simp[Sl.set],λg j a=>?_⟩;simp only[Sl.set,Int.toNat_natCast,List.length_set] at a |-
 rcases D3 a with a | rfl
 ·exact g j a
 ·exact h (g _ (gc b))
def zic(s:Nd):Prop:=
 (∀Q:QK->Prop,Q (.n (lit []))->AllN (pQ Q) s->∀F (l:Sl CIx),zl s<=F->l.xs.length+zl s<=40000->∃b,q28 (q2u F) (s,l)=w b/\Ls Q (zl s) l b)/\
 ∀F from_ (i:Nat) (n:RNd) (out:Sl RIx) (hi:i < n.K_.xs.length),n.K_.xs[i]=rN s->zl s<=F->out.xs.length+zl s<=40000->i < 100000->
  ∃a,q3q q27 q23 (q2m F) (from_,(i:Int),n,out)=w (.next (from_,((i+1:Nat):Int),n,a))/\a.xs.length<=out.xs.length+zl s
def zfP(b:Nd):Prop:=
 (∀Q:QK->Prop,Q (.n (lit []))->AllN (pQ Q) b->∀F (l:Sl CIx),zl b<=F->l.xs.length+zl b<=40000->∃c,q2u F (b,l)=w c/\Ls Q (zl b - 1) l c)/\
 ∀F a,zl b<=F->zl b<=40000->∃out,q2m F (rN b,a)=w out/\out.xs.length+1<=zl b
theorem Y4{l:List Nd}{i:Nat}(h:i < l.length):zd (l.take i)+zl l[i]<=zd l:=by
 have h1:zd (l.take i++l.drop i)=zd l:=by rw[List.take_append_drop]
 rw[zN,Dq h] at h1;simp only[zd] at h1;omega
theorem zg2{l:List Nd}{i:Nat}(h:i < l.length):zd (l.take (i+1))=zd (l.take i)+zl l[i]:=by
 rw[<- DG h,zN];simp[zd]
theorem zd1{b:Nd}(m:∀s∈b.K_.xs,zic s):zfP b:=by
 have t:=zk b;have H:=@Zl b;refine⟨λQ q0 q F l z I=>?_,λF j z hb=>?_⟩
 ·obtain⟨_,q⟩:=q;obtain⟨F,rfl⟩:∃k,F=k+1:=⟨F - 1,Zc⟩
  obtain⟨e,h1,h2⟩:=go (f:=q8i (q28 (q2u F))) (n:=b.K_.xs.length) (A:=Sl CIx) (st:=λi a=>(b.K_,b.K_.len,(i:Int),a)) (fin:=λa=>a) (J:=λi a=>Ls Q (zd (b.K_.xs.take i)) l a)
   (λi hi a c=>by
    have p:=gc hi;have x:=Y4 hi;have:=c.b;obtain⟨a',g,r⟩:=(m _ p).1 Q q0 (q _ p) F a Zc Zc;refine⟨a',?_,by rw[zg2 hi];exact c.trans r⟩;unfold q8i;simp only[jl,zm]
    rw[jv jA,ze hi,jj,g,jj,zu Zc])
   (λa c=>by
    unfold q8i;simp only[jl]
    rw[jx jA])
   (a:=l) ⟨UK _,Zc,λh=>h⟩
  rw[Dt] at h2;exact⟨e,congrArg (λo=>E o λy=>w y) h1,h2.mono Zc⟩
 ·obtain⟨F,rfl⟩:∃k,F=k+1:=⟨F - 1,Zc⟩
  have v:(rN b).K_.xs=b.K_.xs.map rN:=by rw[zJ]
  have d:(rN b).K_.xs.length=b.K_.xs.length:=by rw[v];simp
  obtain⟨e,h1,h2⟩:=go (f:=q3q q27 q23 (q2m F)) (n:=b.K_.xs.length) (A:=Sl RIx) (st:=λi a=>(j,(i:Int),rN b,a)) (fin:=λa=>a) (J:=λi a=>a.xs.length<=zd (b.K_.xs.take i))
   (λi hi a c=>by
    have x:=Y4 hi;obtain⟨a',g,r⟩:=(m _ (gc hi)).2 F j i (rN b) a Zc jE Zc Zc Zc
    exact⟨a',g,by rw[zg2 hi];omega⟩)
   (λa c=>by
    unfold q3q;simp only[jl]
    rw[jx (by simp only[zf,d];omega)])
   (a:=C [] B) je
  rw[Dt] at h2;refine⟨e,?_,Zc⟩;show((lpO _ (j,0,kr (rN b),C [] B)).bind _)=_;rw[zj];grind
theorem Vv{s:Nd}(h:StmtG s)(hs:zl s<=40000)(h1:s.k_≠15)(h2:s.k_≠16):zic s:=by
 have hp:=z6 s;refine⟨λQ q0 q F l d m=>?_,λF o i n out hi f d k c=>?_⟩
 ·obtain⟨j,a,g⟩:=zxv (hb:=q2u F) (n:=s) (l:=l) Zc Zc h q q0 h1 h2;exact⟨_,a,(Ls.snoc (g.mono (UL _))).mono Zc⟩
 ·obtain⟨y,a⟩:=zur h Zc h1 h2;refine⟨⟨out.xs++[⟨y.1.1,y.1.2.1,y.1.2.2.1,y.1.2.2.2.1,⟨y.1.2.2.2.2.1,y.1.2.2.2.2.2.1⟩,⟨y.1.2.2.2.2.2.2.1,y.1.2.2.2.2.2.2.2.1⟩,y.2,y.1.2.2.2.2.2.2.2.2.1,y.1.2.2.2.2.2.2.2.2.2⟩],u⟩,?_,by simp only[jy,g9];omega⟩;have e:(rN s).k_≠15:=by rw[ZT];exact h1
  have b:(rN s).k_≠16:=by rw[ZT];exact h2
  unfold q3q;simp only[jl];rw[jv jA,ze hi,f,jj,jv e];simp only[jj,zj,a];rw[jv (gm b),Zu Zc Zc];simp only[jj];rw[zu Zc]
theorem zvt{p q r}{a b c d:Int}{n s:RNd}{out t:Sl RIx}(h:out.xs.length+t.xs.length<=90000):∃o,lpO (q5e p q r) (a,b,c,d,0,n,out,s,t)=w (a,b,c,d,n,o,s)/\o.xs=out.xs++t.xs:=by
 obtain⟨o,h1,h2⟩:=go (f:=q5e p q r) (n:=t.xs.length) (A:=Sl RIx) (st:=λi o=>(a,b,c,d,(i:Int),n,o,s,t)) (fin:=λo=>(a,b,c,d,n,o,s)) (J:=λi o=>o.xs=out.xs++t.xs.take i)
  (λi hi o e=>by
   have:=congrArg D e;simp only[jy,Dl] at this;refine⟨⟨o.xs++[t.xs[i]],u⟩,?_,by simp only;rw[e,Dc,DG hi]⟩;unfold q5e;simp only[jl,zj]
   rw[jv jA,ze hi,jj,jj,Zu Zc Zc,jj,zu Zc])
  (λo e=>by
   unfold q5e;simp only[jl,zj]
   rw[jx jA])
  (a:=out) je
 grind
theorem zAE{p q r}{a b:Int}{n:RNd}{out t:Sl RIx}(h:out.xs.length+t.xs.length<=90000):∃o,lpO (q5f p q r) (a,b,0,n,out,t)=w (a,b,n,o)/\o.xs=out.xs++t.xs:=by
 obtain⟨o,h1,h2⟩:=go (f:=q5f p q r) (n:=t.xs.length) (A:=Sl RIx) (st:=λi o=>(a,b,(i:Int),n,o,t)) (fin:=λo=>(a,b,n,o)) (J:=λi o=>o.xs=out.xs++t.xs.take i)
  (λi hi o c=>by
   have:=congrArg D c;simp only[jy,Dl] at this;refine⟨⟨o.xs++[t.xs[i]],u⟩,?_,by simp only;rw[c,Dc,DG hi]⟩;unfold q5f;simp only[jl,zj]
   rw[jv jA,ze hi,jj,jj,Zu Zc Zc,jj,zu Zc])
  (λo c=>by
   unfold q5f;simp only[jl,zj]
   rw[jx jA])
  (a:=out) je
 grind
theorem Ls.to{Q:QK->Prop}{l:Sl CIx}{k:Nat}{v:CIx}(d:k < l.xs.length)(e:l.xs[k]=v):Ls Q 0 l (l.set (k:Int) ⟨v.O_,v.a_,v.X_,v.Y_,v.A_,v.B_,v.Q_,l.len,v.h_⟩):=
 Ls.set d λg=>by subst e;exact⟨⟨by simp only[zf];omega,by simp only[zf];omega⟩,g.y,g.a,g.b,g.l,g.x,g.c,g.f⟩
theorem zfh{hb}{n:Nd}{l:Sl CIx}(h:n.k_=15\/n.k_=16):q28 hb (n,l)=q2q hb (n,l):=by
 unfold q28 q64;have key:∀o:U3 (Sl CIx),((o.bind λe=>w (Sum.inl e)).bind λd:Sl CIx⊕_=>Sum.elim (λc:Sl CIx=>w c) (λa:Sl CIx×(Int×Int×U0×U0×U0×Int×U0×Int×Int×Bool)×Sl qz=>(q2w (qm.mk a.2.1.1 a.2.1.2.1 a.2.1.2.2.1 a.2.1.2.2.2.1 ⟨a.2.1.2.2.2.2.1,a.2.1.2.2.2.2.2.1⟩ ⟨a.2.1.2.2.2.2.2.2.1,a.2.1.2.2.2.2.2.2.2.1⟩ a.2.2 a.2.1.2.2.2.2.2.2.2.2.1 a.2.1.2.2.2.2.2.2.2.2.2,a.1)).bind λb=>w b.2) d)=o:=by
  intro o;cases o<;>rfl
 rcases h with h | h<;>
 ·simp (decide:=true) only [h,js,jr,jq,jp,jj,jk]
  first | rw[<- h,zm] | simp only[zm]
  exact key _
abbrev brI(a:Int)(op:U0)(x y:Nd):CIx:=⟨10,a,op,lit [],⟨x.T_,x.n_⟩,⟨y.T_,y.n_⟩,C [] B,0,B⟩
theorem zxw {op:U0}{n a:Int}{x y e f:Nd}(N:ZP x) (X:ZP y) (h1:zfP e) (h2:zfP f) (hz:zl ⟨15,op,n,a,⟨[x,y,e,f],u⟩⟩<=40000) :
    zic ⟨15,op,n,a,⟨[x,y,e,f],u⟩⟩:=by
 have hs:zl ⟨15,op,n,a,⟨[x,y,e,f],u⟩⟩=zl x+(zl y+(zl e+zl f))+1:=by rw[zk];simp[zd]
 have px:=z6 x;have py:=z6 y;have p1:=z6 e;have p2:=z6 f;refine⟨λQ q0 q F l U hl=>?_,λF g i A out hi W U ho T=>?_⟩
 · rw[zfh (.inl rfl)];unfold q2q q57;obtain⟨_,q⟩:=q;have qx:Q (.n x.T_):=by obtain⟨h,_⟩:=q x je;exact h.q (.inl N.2)
   have qy:Q (.n y.T_):=by obtain⟨h,_⟩:=q y je;exact h.q (.inl X.2)
   have k0:q39 (⟨15,op,n,a,⟨[x,y,e,f],u⟩⟩,0)=w ⟨x.T_,x.n_⟩:=zaz _ 0;have V:q39 (⟨15,op,n,a,⟨[x,y,e,f],u⟩⟩,1)=w ⟨y.T_,y.n_⟩:=zaz _ 1;have g2:za (⟨[x,y,e,f],u⟩:Sl Nd) 2=w e:=rfl;have H:za (⟨[x,y,e,f],u⟩:Sl Nd) 3=w f:=rfl;simp only[k0,V,jj,jl,g2,H,zm];rw[jx (by show¬((4:Int) < 3);omega),x6 Zc,jj];have s1:Ls Q 1 l ⟨l.xs++[brI a op x y],u⟩ :=.snoc ⟨⟨je,ji⟩,je,qx,qy,je,je,je,je⟩;obtain⟨l2,o,m⟩:=h1.1 Q q0 (q e je) F ⟨l.xs++[brI a op x y],u⟩ Zc (by have:=s1.b;omega);have t2:=s1.trans m;have a2:=m.a;have b2:=t2.b;simp only[jy,g9] at a2;simp only[o,jj];rw[x6 Zc];simp only[jj];rw[ze (by simp only[jy,g9];omega)];simp only[jj,jq];rw[jv (by rfl)];have t3:=t2.trans (.snoc (i:=⟨11,a,lit [],lit [],⟨lit [],0⟩,⟨lit [],0⟩,C [] B,(l.xs.length:Int),B⟩) ⟨⟨je,by simp only;omega⟩,je,q0,q0,je,je,je,je⟩);generalize I:Sl.set _ _ _=v;have t4:Ls Q (1+(zl e - 1)+1+0) l v:=by rw[<- I];exact t3.trans (.to (k:=l.xs.length) (by simp only[jy,g9];omega) rfl)
   have a4:=t4.a;have b4:=t4.b;obtain⟨l5,e5,M⟩:=h2.1 Q q0 (q f je) F v Zc Zc;have l4l:v.xs.length=l2.xs.length+1:=by rw[<- I];simp[Sl.set]
   have a5:=M.a;simp only[H,e5,jj];rw[ze Zc];refine⟨_,rfl,((t4.trans M).trans (.to Zc rfl)).mono Zc⟩
 · unfold q3q;have r0:=rk0 (n:=⟨15,op,n,a,⟨[x,y,e,f],u⟩⟩) rfl;have R:=rk1 (n:=⟨15,op,n,a,⟨[x,y,e,f],u⟩⟩) rfl;have r2:za (rN ⟨15,op,n,a,⟨[x,y,e,f],u⟩⟩).K_ 2=w (rN e):=by rw[zJ];rfl
   have z:za (rN ⟨15,op,n,a,⟨[x,y,e,f],u⟩⟩).K_ 3=w (rN f):=by rw[zJ];rfl
   simp only[jl];rw[jv jA,ze hi,W,jj];have L:(rN ⟨15,op,n,a,⟨[x,y,e,f],u⟩⟩).k_=15:=ZT _;generalize rN ⟨15,op,n,a,⟨[x,y,e,f],u⟩⟩=S at *
   simp only[zj];simp (decide:=true) only [L,jp,jj,jr,jk,r0,R,r2,z,zfO];obtain⟨j,O,q1⟩:=h1.2 F (U4 (U4 (g+out.len)+1)) Zc Zc;rw[O,jj,Zu Zc Zc,jj]
   obtain⟨Y,o,m⟩:=zvt (p:=q27) (q:=q23) (r:=q2m F) (a:=g) (b:=(i:Int)) (c:=U4 (g+out.len)) (d:=U4 (U4 (U4 (g+out.len)+1)+j.len)) (n:=A) (s:=S)
    (out:=⟨out.xs++[⟨10,S.a_,S.T_,lit [],⟨(rN x).T_,(rN x).n_⟩,⟨(rN y).T_,(rN y).n_⟩,C [] B,U4 (U4 (U4 (U4 (g+out.len)+1)+j.len)+1),B⟩],u⟩) (t:=j) (by simp only[jy,g9];omega)
   have P:=congrArg D m;simp only[jy,g9] at P;rw[o];simp only[jj];obtain⟨K,e3,n3⟩:=h2.2 F (U4 (U4 (U4 (U4 (g+out.len)+1)+j.len)+1)) Zc Zc;rw[jx (by rw[L];decide),z];simp only[jj,zj,e3];rw[Zu Zc Zc,jj]
   obtain⟨o4,e4,Z⟩:=zAE (p:=q27) (q:=q23) (r:=q2m F) (a:=g) (b:=(i:Int)) (n:=A)
    (out:=⟨Y.xs++[⟨11,S.a_,lit [],lit [],⟨lit [],0⟩,⟨lit [],0⟩,C [] B,U4 (U4 (U4 (U4 (U4 (g+out.len)+1)+j.len)+1)+K.len),B⟩],u⟩) (t:=K) (by simp only[jy,g9];omega)
   rw[e4];simp only[jj];rw[zu Zc];exact⟨_,rfl,by rw[Z];simp only[jy,g9];omega⟩
theorem zxx {op:U0}{n a:Int}{x y e:Nd}(z:ZP x) (O:ZP y) (h1:zfP e) (X:zl ⟨16,op,n,a,⟨[x,y,e],u⟩⟩<=40000) :
    zic ⟨16,op,n,a,⟨[x,y,e],u⟩⟩:=by
 have hs:zl ⟨16,op,n,a,⟨[x,y,e],u⟩⟩=zl x+(zl y+zl e)+1:=by rw[zk];simp[zd]
 have U:=z6 x;have Y:=z6 y;have Z:=z6 e;refine⟨λQ q0 q F l L T=>?_,λF f i v out hi N L R K=>?_⟩
 · rw[zfh (.inr rfl)];unfold q2q q57;obtain⟨_,q⟩:=q;have qx:Q (.n x.T_):=by obtain⟨h,_⟩:=q x je;exact h.q (.inl z.2)
   have qy:Q (.n y.T_):=by obtain⟨h,_⟩:=q y je;exact h.q (.inl O.2)
   have k0:q39 (⟨16,op,n,a,⟨[x,y,e],u⟩⟩,0)=w ⟨x.T_,x.n_⟩:=zaz _ 0;have M:q39 (⟨16,op,n,a,⟨[x,y,e],u⟩⟩,1)=w ⟨y.T_,y.n_⟩:=zaz _ 1;have g2:za (⟨[x,y,e],u⟩:Sl Nd) 2=w e:=rfl;simp only[k0,M,jj,jl,g2,zm];rw[jx (by show¬((3:Int) < 3);omega),x6 Zc,jj];have s1:Ls Q 1 l ⟨l.xs++[brI a op x y],u⟩ :=.snoc ⟨⟨je,ji⟩,je,qx,qy,je,je,je,je⟩;obtain⟨l2,j,g⟩:=h1.1 Q q0 (q e je) F ⟨l.xs++[brI a op x y],u⟩ Zc jE;have t2:=s1.trans g;have a2:=g.a;have b2:=t2.b;simp only[jy,g9] at a2;simp only[j,jj];rw[x6 Zc];simp only[jj];rw[ze jE];simp (decide:=true) only [jj,jp,jk];have t3:=t2.trans (.snoc (i:=⟨11,a,lit [],lit [],⟨lit [],0⟩,⟨lit [],0⟩,C [] B,(l.xs.length:Int),B⟩) ⟨⟨je,jE⟩,je,q0,q0,je,je,je,je⟩);exact⟨_,rfl,(t3.trans (.to (k:=l.xs.length) jE rfl)).mono Zc⟩
 · unfold q3q;have r0:=rk0 (n:=⟨16,op,n,a,⟨[x,y,e],u⟩⟩) rfl;have I:=rk1 (n:=⟨16,op,n,a,⟨[x,y,e],u⟩⟩) rfl;have P:za (rN ⟨16,op,n,a,⟨[x,y,e],u⟩⟩).K_ 2=w (rN e):=by rw[zJ];rfl
   simp only[jl];rw[jv jA,ze hi,N,jj];have o:(rN ⟨16,op,n,a,⟨[x,y,e],u⟩⟩).k_=16:=ZT _;generalize rN ⟨16,op,n,a,⟨[x,y,e],u⟩⟩=S at *
   simp only[zj];simp (decide:=true) only [o,jp,jq,jj,jr,jk,r0,I,P,zfO];obtain⟨m,A,W⟩:=h1.2 F (U4 (U4 (f+out.len)+1)) Zc Zc;rw[A,jj,Zu Zc Zc,jj]
   obtain⟨V,j,g⟩:=zvt (p:=q27) (q:=q23) (r:=q2m F) (a:=f) (b:=(i:Int)) (c:=U4 (f+out.len)) (d:=U4 (U4 (U4 (f+out.len)+1)+m.len)) (n:=v) (s:=S)
    (out:=⟨out.xs++[⟨10,S.a_,S.T_,lit [],⟨(rN x).T_,(rN x).n_⟩,⟨(rN y).T_,(rN y).n_⟩,C [] B,U4 (U4 (U4 (U4 (f+out.len)+1)+m.len)+1),B⟩],u⟩) (t:=m) jE
   have H:=congrArg D g;simp only[jy,g9] at H;rw[j];simp only[jj];rw[jv o,Zu Zc Zc];simp only[jj];rw[zu Zc];grind
theorem zmi{s:Nd}(h:StmtG s)(hs:zl s<=40000):zic s:=by
 have e:∀(a:Int) (b:List Nd),(∀s∈b,zl s<=40000->zic s)->zl ⟨9,lit [],0,a,mkS b⟩<=40000->zfP ⟨9,lit [],0,a,mkS b⟩:=λa b l o=>zd1 λs hs=>l s hs (by have:=@ZX ⟨9,lit [],0,a,mkS b⟩ s hs;omega)
 induction h with
 | @ite op n a x y m g b2 a2 f j h1 h2 i i2=>
  exact zxw f j (e g _ i (by rw[zk] at hs;simp[zd] at hs;omega)) (e a2 _ i2 (by rw[zk] at hs;simp[zd] at hs;omega)) hs
 | @whl op n a x y m g f j h1 i=>exact zxx f j (e g _ i (by rw[zk] at hs;simp[zd] at hs;omega)) hs
 | @leaf k t n a c=>exact Vv (.leaf c) hs jE jE
 |ret c=>exact Vv (.ret c) hs je je
 |fork c=>exact Vv (.fork c) hs je je
 |call c=>exact Vv (.call c) hs je je
 |store c d=>exact Vv (.store c d) hs je je
 |set c=>exact Vv (.set c) hs je je
def zjs(Q:QK->Prop)(l:List CIx):Prop:=∃a i,l=a++[i]/\i.O_=14/\∀j∈l,Gi Q a.length j
theorem zpG{Q:QK->Prop}{k:Nd}(h:FnG k)(hs:zl k<=40000)(q0:Q (.n (lit [])))(q:∀b∈k.K_.xs,b.k_=9->AllN (pQ Q) b):∃c,q5b k=w c/\c.L_.xs.length<=40000/\zjs Q c.L_.xs:=by
 obtain⟨R,ps,r,b,O,hp,V,U,hb⟩:=h;have d:=congrArg Sl.xs O;simp only at d;obtain⟨a,l,rfl,I⟩:=hb;have H:=ZX (n:=k) (k:=⟨9,lit [],0,a,mkS l⟩) (by rw[d];simp);have T:zfP ⟨9,lit [],0,a,mkS l⟩:=zd1 λs hs=>zmi (I s hs) (by have:=@ZX ⟨9,lit [],0,a,mkS l⟩ s hs;omega)
 have z:k.K_.xs.length=ps.length+2:=by rw[d];simp
 have N:=@Zl k;have M:=z6 ⟨9,lit [],0,a,mkS l⟩
 obtain⟨⟨P,p⟩,K,W,F⟩:=go (f:=qe3 q9g q2w) (n:=k.K_.xs.length) (A:=Sl U0×Sl CIx) (st:=λi a=>(k.K_,k.K_.len,(i:Int),lit [],k.T_,a.1,a.2)) (fin:=λa=>(lit [],k.T_,a.1,a.2))
  (J:=λi a=>a.1.xs.length<=i/\if i=k.K_.xs.length then a.2.xs.length<=40000/\zjs Q a.2.xs else a.2.xs=[])
  (λi hi P v=>by
   obtain⟨P,p⟩:=P;obtain⟨v,e⟩:=v;simp only at v e;rw[jx Zc] at e;unfold qe3;simp only[jl,zm];rw[jv jA,ze hi,jj];have X:=@zu i Zc;by_cases c:i < ps.length
   ·have t:k.K_.xs[i]=ps[i]:=jE
    refine⟨(⟨P.xs++[k.K_.xs[i].T_],u⟩,p),?_,ji,jE⟩;rw[jv (by rw[t];exact(hp _ (gc c)).1),Zu Zc Zc];grind
   by_cases c2:i=ps.length
   ·have t:k.K_.xs[i]=r:=jE
    refine⟨(P,p),?_,jE,jE⟩;grind
   ·obtain rfl:i=ps.length+1:=Zc
    have t:k.K_.xs[ps.length+1]=⟨9,lit [],0,a,mkS l⟩:=jE
    obtain⟨l2,S,y⟩:=T.1 Q q0 (q _ (by rw[d];simp) rfl) 100000 p Zc jE;have L:=y.b;rw[e,List.length_nil] at L;refine⟨(P,⟨l2.xs++[⟨14,a,lit [],lit [],⟨lit [],0⟩,⟨lit [],0⟩,C [] B,0,B⟩],u⟩),?_,jE,?_⟩
    ·rw[t,jx jE,jv (by rfl)];show(((((q2u 100000 (_,p)).bind _)).bind _).bind _)=_;rw[S,jj,x6 Zc];grind
    ·rw[jv Zc];refine⟨jE,l2.xs,_,rfl,rfl,λj m=>?_⟩;rcases U5.1 m with m | m
     ·exact y.g (by rw[e];simp) j m
     ·rw[Dz] at m;subst m;exact⟨⟨je,je⟩,je,q0,q0,je,je,je,je⟩)
  (λP v=>by
   unfold qe3;simp only[jl]
   rw[jx jA])
  (a:=(C [] B,C [] B)) ⟨je,jE⟩
 rw[jv rfl] at F;refine⟨⟨k.T_,P,p⟩,?_,F⟩;unfold q5b qft;rw[jx (by simp[R])];exact congrArg (λo=>E o λx:U0×U0×Sl U0×Sl CIx=>w (q1m.mk x.2.1 x.2.2.1 x.2.2.2)) K
theorem znN{k:Nd}(h:FnG k)(hs:zl k<=40000):∃z,q2j (rN k)=w z:=by
 obtain⟨L,ps,r,b,v,hp,I,H,hb⟩:=h;have c:=congrArg Sl.xs v;simp only at c;obtain⟨a,l,rfl,p⟩:=hb;have o:=ZX (n:=k) (k:=⟨9,lit [],0,a,mkS l⟩) (by rw[c];simp);have F:zfP ⟨9,lit [],0,a,mkS l⟩:=zd1 λs hs=>zmi (p s hs) (by have:=@ZX ⟨9,lit [],0,a,mkS l⟩ s hs;omega)
 have e:k.K_.xs.length=ps.length+2:=by rw[c];simp
 have q:=@Zl k;have t:(rN k).K_.xs=k.K_.xs.map rN:=by rw[zJ]
 have m:(rN k).K_.xs.length=k.K_.xs.length:=by rw[t];simp
 obtain⟨P2,g,g2⟩:=go (f:=q5g q4p) (n:=ps.length) (A:=Sl U0) (st:=λi a=>(((ps.length+1:Nat):Int),(i:Int),rN k,lit [],k.T_,a)) (fin:=λa=>(((ps.length+1:Nat):Int),rN k,lit [],k.T_,a))
  (J:=λi a=>a.xs.length<=i)
  (λi hi P x=>by
   refine⟨⟨P.xs++[((rN k).K_.xs[i]' Zc).T_],u⟩,?_,ji⟩;unfold q5g;simp only[jl,zj]
   rw[zE Zc Zc,jv Zc,ze Zc,jj,Zu Zc Zc,jj,zu Zc])
  (λP x=>by
   unfold q5g;simp only[jl,zj]
   rw[zE Zc Zc,jx Zc])
  (a:=C [] B) je
 obtain⟨out,j,K⟩:=F.2 100000 0 Zc Zc;have d:za (rN k).K_ ((ps.length+1:Nat):Int)=w (rN ⟨9,lit [],0,a,mkS l⟩):=by
  rw[ze Zc];grind
 refine⟨(k.T_,P2,⟨out.xs++[⟨14,(rN ⟨9,lit [],0,a,mkS l⟩).a_,lit [],lit [],⟨lit [],0⟩,⟨lit [],0⟩,C [] B,0,B⟩],u⟩),?_⟩
 ·unfold q2j q8v;have y:U4 ((rN k).K_.len - 1)=((ps.length+1:Nat):Int):=by rw[zf,m,e,zE Zc Zc];omega
  simp only[y,zj];simp only[zZ];have g:lpO (q5g q4p) (((ps.length+1:Nat):Int),0,rN k,lit [],k.T_,C [] B)=_:=g;have j:q4p (rN ⟨9,lit [],0,a,mkS l⟩,0)=_:=j;rw[g];simp only[jj,d,j];rw[Zu Zc Zc];rfl
end Go.Px
