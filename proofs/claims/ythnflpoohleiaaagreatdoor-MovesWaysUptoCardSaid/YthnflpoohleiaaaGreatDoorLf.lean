/- Part Lf. -/
import Derived.Test.YthnflpoohleiaaaGreatDoorLe
set_option linter.unusedVariables false
set_option linter.unusedSimpArgs false
namespace Go.Px
open Bool renaming true->u,false->B
open List renaming length->D,take->G
open _root_.Option renaming some->w,bind->E
open Sl renaming mk->C
theorem D7:∀{α : Type _} {l : List α} {i : Nat} (h : i < l.length),G i l++[l[i]] = G (i + 1) l:=@List.take_append_getElem
inductive AllN(p:Nd->Prop):Nd->Prop
 |mk {n:Nd}:p n->(∀k∈n.K_.xs,AllN p k)->AllN p n
theorem AllN.mono{p q:Nd->Prop}(h:∀n,p n->q n){n:Nd}(a:AllN p n):AllN q n:=by
 induction a with
 |mk a b c=>exact .mk (h _ a) c
theorem zl3{p:Nd->Prop}(h:∀n,p n)(n:Nd):AllN p n:=by
 have:∀(m:Nat) (n:Nd),zl n<=m->AllN p n:=by
  intro m
  induction m with
  |zero=>intro n c;have:=z7 n;omega
  |succ m a=>exact λn c =>.mk (h n) λk b=>a k (by have:=ZY b;omega)
 exact this _ n (UD _)
abbrev CIx:=qm
inductive QK
 |y
 |n (b:Ut)
 |x (b:Ut)
 |c (b:Ut) (l:List Ut)
 |f (b:Ut) (l:List Ut)
structure Gi(Q:QK->Prop)(N:Nat)(i:CIx):Prop where
 t:0<=i.H_/\i.H_<=N
 y:5<=i.O_->i.O_<=9->Q .y
 a:Q (.n i.A_.N_)
 b:Q (.n i.B_.N_)
 l:i.Q_.xs.length<=50000/\∀t∈i.Q_.xs,Q (.n t.N_)
 x:i.O_=0->Q (.x i.X_)
 c:i.O_=12->Q (.c i.Y_ (i.Q_.xs.map qz.N_))
 f:i.O_=13->Q (.f i.Y_ (i.Q_.xs.map qz.N_))
theorem Gi.mono{Q:QK->Prop}{N M:Nat}{i:CIx}(h:Gi Q N i)(d:N<=M):Gi Q M i:=⟨⟨h.t.1,by have:=h.t.2;omega⟩,h.y,h.a,h.b,h.l,h.x,h.c,h.f⟩
structure pQ(Q:QK->Prop)(n:Nd):Prop where
 q:n.k_=5\/n.k_=24\/n.k_=26\/n.k_=27->Q (.n n.T_)
 y:11<=n.k_/\n.k_<=14\/n.k_=25->Q .y
 s:n.k_=10->Q (.x n.T_)
 c:n.k_=28->Q (.c n.T_ (n.K_.xs.map q8.T_))
 f:n.k_=19->Q (.f n.T_ (n.K_.xs.map q8.T_))
theorem pQ.o{Q:QK->Prop}{n:Nd}(q:n.k_=5\/n.k_=24\/n.k_=26\/n.k_=27->Q (.n n.T_))(y:11<=n.k_/\n.k_<=14\/n.k_=25->Q .y)(h:n.k_≠10/\n.k_≠28/\n.k_≠19):pQ Q n:=
 ⟨q,y,λc=>absurd c h.1,λc=>absurd c h.2.1,λc=>absurd c h.2.2⟩
theorem go {S R A:Type}{f:S->Uv (Step S R)}{n:Nat}{st:Nat->A->S}{fin:A->R}{J:Nat->A->Prop}
    (h:∀i,i < n->∀a,J i a->∃a',f (st i a)=w (.next (st (i+1) a'))/\J (i+1) a') (h0:∀a,J n a->f (st n a)=w (.done (fin a))) {a:A} (c:J 0 a) :
    ∃a',lpO f (st 0 a)=w (fin a')/\J n a':=by
 have:∀(m i:Nat) (a:A),i+m=n->J i a->∃a',lpO f (st i a)=w (fin a')/\J n a':=by
  intro m
  induction m with
  |zero=>
   intro i a hi c;obtain rfl:i=n:=Zd
   exact⟨a,zw (h0 a c),c⟩
  |succ m g=>
   intro i a hi c;obtain⟨a',h1,h2⟩:=h i Zd a c;obtain⟨b,e,d⟩:=g (i+1) a' Zd h2;exact⟨b,by rw[zB h1,e],d⟩
 exact this n 0 a Zd c
theorem ZA{α:Type}{b:Nat}{s:Sl α}{x:α}(hb:b<=1000000)(h:s.xs.length<=100000):zo b s [x]=w ⟨s.xs++[x],u⟩:=by
 have:(s.xs.length+[x].length) * b<=100001 * 1000000:=Nat.mul_le_mul ji hb;rw[yy Zd ji];simp
theorem zl4(n:Nd)(e:n.K_.xs.length<=50000):∃l,qcq n=w l/\l.xs=n.K_.xs.map λk=>⟨k.T_,k.n_⟩:=by
 obtain⟨l,h,d⟩:=go (f:=qej qbb) (n:=n.K_.xs.length) (A:=Sl qz) (st:=λi a=>(n.K_,n.K_.len,(i:Int),a)) (fin:=λa=>a) (J:=λi a=>a.xs=(n.K_.xs.take i).map λk=>⟨k.T_,k.n_⟩)
  (λi hi a c=>by
   have b:=congrArg D c;simp only[Dt,De] at b;refine⟨⟨a.xs++[⟨n.K_.xs[i].T_,n.K_.xs[i].n_⟩],u⟩,?_,by rw[<- D7 hi,D2,c];rfl⟩;unfold qej;simp only[jl];rw[jv jA,ze hi,jj];show((w _).bind _)=_
   rw[jj,ZA Zd Zd,jj,zu Zd])
  (λa c=>by
   unfold qej;simp only[jl]
   rw[jx jA])
  (a:=C [] B) rfl
 rw[Dl] at d;exact⟨l,congrArg (λo=>E o λy=>w y) h,d⟩
theorem zl5{Q:QK->Prop}{n:Nd}{l:Sl qz}(h:l.xs=n.K_.xs.map λk=>⟨k.T_,k.n_⟩)(a:n.K_.xs.length<=50000)(q:∀k∈n.K_.xs,Q (.n k.T_)):(l.xs.length<=50000/\∀t∈l.xs,Q (.n t.N_))/\l.xs.map qz.N_=n.K_.xs.map q8.T_:=by
 rw[h];refine⟨⟨by simpa using a,λt b=>?_⟩,je⟩;grind
def kT(n:Nd)(i:Nat):qz:=(n.K_.xs[i]?).elim ⟨lit [],0⟩ λx=>⟨x.T_,x.n_⟩
theorem zaC(n:Nd)(i:Nat):q3e (n,(i:Int))=w (kT n i):=by
 unfold q3e qh2 kT;simp only[jl];split
 ·rename_i h;rw[UI (by simp only[zh] at h;omega)];rfl
 ·rename_i h;have hi:i < n.K_.xs.length:=by simp only[zh] at h;omega
  rw[ze hi,UC hi];rfl
theorem zpv{Q:QK->Prop}{n:Nd}{i:Nat}(q0:Q (.n (lit [])))(h:∀k∈n.K_.xs,Q (.n k.T_)):Q (.n (kT n i).N_):=by
 unfold kT;grind
def zl6(n:Nd):Nd:=(n.K_.xs[0]?).getD vn
theorem zxq(n:Nd):q81 n=w (zl6 n)/\(zl6 n).K_.xs.length<=zl n:=by
 unfold q81 qfj zl6;simp only[jl];split
 ·rename_i h;have:n.K_.xs=[]:=by simp only[zh] at h;exact UJ Zd
  rw[this];exact⟨rfl,by simp[vn]⟩
 ·rename_i h;have h0:0 < n.K_.xs.length:=by simp only[zh] at h;omega
  rw[show(0:Int)=((0:Nat):Int) from rfl,ze h0,UC h0];refine⟨by simp only[jj,Option.getD_some,zm],?_⟩;have h1:=ZY (gc h0);have h2:=@Zm n.K_.xs[0];grind
theorem x5{i:CIx}{l:Sl CIx}(h:l.xs.length<=50000):q2z (i,l)=w ((l.xs.length:Int),⟨l.xs++[i],u⟩):=by
 unfold q2z qcz;rw[ZA Zd jE];simp only[jj,zh,jy,g9];rw[zF Zd Zd];congr 2;omega
def One(Q:QK->Prop)(r:Uv (Sl CIx))(l:Sl CIx):Prop:=∃i,r=w ⟨l.xs++[i],u⟩/\Gi Q 0 i
theorem zAv{Q:QK->Prop}{n e:Nd}{l:Sl CIx}(qx:Q (.x n.T_))(h:l.xs.length<=50000)(r:e.K_.xs.length<=50000)(g:ExprG e)(a:AllN (pQ Q) e)(q0:Q (.n (lit []))):One Q (q79 (n,e,l)) l:=by
 obtain⟨F,h2,a2⟩:=zl4 e r;have h0:=zaC e 0;have h1:=zaC e 1;obtain⟨q,qk⟩:=a;have d:(∀k∈e.K_.xs,ZQ k)->∀k∈e.K_.xs,Q (.n k.T_):=λt k p=>by
  obtain⟨h,_⟩:=qk k p;exact h.q (.inl (t k p).2)
 have z:(0:Int)<=0/\(0:Int)<=(0:Nat):=⟨Zd,Zd⟩;have f:([]:List qz).length<=50000/\∀t∈([]:List qz),Q (.n t.N_):=je
 have t0:=@zpv Q e 0 q0;have o:=@zpv Q e 1 q0;obtain⟨k,t,m,a,ks⟩:=e;have h0:q3e (⟨k,t,m,a,ks⟩,0)=_:=h0;have h1:q3e (⟨k,t,m,a,ks⟩,1)=_:=h1;have i:∀n:Nd,qbb n=w ⟨n.T_,n.n_⟩:=λn=>rfl
 unfold q79 qd0;cases g with
 |term b=>
  obtain rfl:k=5:=b;simp (decide:=true) only [jj,jp,x5 h,i,jr,jk];exact⟨_,rfl,z,je,q.q (.inl rfl),q0,f,λ_=>qx,je,je⟩
 |leaf b=>
  rcases b with b | b | b | b<;>obtain rfl:k=_:=b<;>simp (decide:=true) only [jj,jq,jp,x5 h,js,i,jr,jk]
  ·exact⟨_,rfl,z,je,q0,q0,f,je,je,je⟩
  ·exact⟨_,rfl,z,je,q.q je,q0,f,je,je,je⟩
  ·exact⟨_,rfl,z,je,q.q je,q0,f,λ_=>qx,je,je⟩
  ·exact⟨_,rfl,z,je,q.q je,q0,f,λ_=>qx,je,je⟩
 |call b=>
  obtain⟨b,j⟩:=b;obtain rfl:k=28:=b;simp (decide:=true) only [jj,jq,jp,x5 h,js,i,jr,jk,h2];obtain⟨s,v⟩:=zl5 a2 r (d j);exact⟨_,rfl,z,je,q0,q0,s,je,λ_=>by simp only[v];exact q.c rfl,je⟩
 |load b j A=>
  obtain rfl:k=25:=b;simp (decide:=true) only [jj,jq,jp,x5 h,js,i,jr,jk,h0];exact⟨_,rfl,z,λ_ _=>q.y je,t0 (d jE),q0,f,je,je,je⟩
 |two b j A H=>
  have d:=d jE;rcases b with b | b<;>obtain rfl:k=_:=b<;>simp (decide:=true) only [jj,jq,jp,x5 h,js,i,jr,jk,h0,h1]
  ·exact⟨_,rfl,z,λh _=>absurd h (jI:¬ 5<=Uw (1+Uw (21 - 21))),t0 d,o d,f,λh=>absurd h (jI:¬ Uw (1+Uw (21 - 21))=0),λh=>absurd h (jI:¬ Uw (1+Uw (21 - 21))=12),λh=>absurd h (jI:¬ Uw (1+Uw (21 - 21))=13)⟩
  ·exact⟨_,rfl,z,λh _=>absurd h (jI:¬ 5<=Uw (1+Uw (22 - 21))),t0 d,o d,f,λh=>absurd h (jI:¬ Uw (1+Uw (22 - 21))=0),λh=>absurd h (jI:¬ Uw (1+Uw (22 - 21))=12),λh=>absurd h (jI:¬ Uw (1+Uw (22 - 21))=13)⟩
theorem zxr{Q:QK->Prop}{hb:Nd×Sl CIx->Uv (Sl CIx)}{n:Nd}{l:Sl CIx}(h:l.xs.length<=50000)(S:zl n<=50000)(g:StmtG n)(a:AllN (pQ Q) n)(q0:Q (.n (lit [])))(h1:n.k_≠15)(h2:n.k_≠16):One Q (q28 hb (n,l)) l:=by
 have k0:=zaC n 0;have A:=zaC n 1;have o:n.K_.xs.length<=50000:=by have:=@Zm n;omega
 obtain⟨R,I,a2⟩:=zl4 n o;obtain⟨e,P⟩:=zxq n;obtain⟨q,qk⟩:=a;have j:(∀k∈n.K_.xs,ZQ k)->∀k∈n.K_.xs,Q (.n k.T_):=λt k p=>by
  obtain⟨h,_⟩:=qk k p;exact h.q (.inl (t k p).2)
 have z:(0:Int)<=0/\(0:Int)<=(0:Nat):=⟨Zd,Zd⟩;have b:([]:List qz).length<=50000/\∀t∈([]:List qz),Q (.n t.N_):=je
 have t0:=@zpv Q n 0 q0;have H:=@zpv Q n 1 q0;unfold q28 q67;cases g with
 | @leaf k t m a c=>
  have k0:q3e (⟨k,t,m,a,nilS⟩,0)=_:=k0;rcases c with rfl | rfl | rfl | rfl | rfl<;>simp (decide:=true) only [jj,jq,x5 h,js,jp,jr,jk,k0,jm]
  ·exact⟨_,rfl,z,λ_ _=>q.y je,q0,q0,b,je,je,je⟩
  ·exact⟨_,rfl,z,λ_ _=>q.y je,q0,q0,b,je,je,je⟩
  ·exact⟨_,rfl,z,λ_ _=>q.y je,q0,q0,b,je,je,je⟩
  ·exact⟨_,rfl,z,je,t0 je,q0,b,je,je,je⟩
  ·exact⟨_,rfl,z,je,q0,q0,b,je,je,je⟩
 |ite=>grind
 |whl=>grind
 | @ret t m a x c=>
  have k0:q3e (⟨17,t,m,a,⟨[x],u⟩⟩,0)=_:=k0;simp (decide:=true) only [jj,jq,x5 h,js,jp,jr,jk,k0,jm];exact⟨_,rfl,z,je,t0 (j (by simpa using c)),q0,b,je,je,je⟩
 | @fork t m a ks c=>
  simp (decide:=true) only [jj,jq,x5 h,js,jp,jr,jk,I,jm];obtain⟨v,r⟩:=zl5 a2 o (j c);exact⟨_,rfl,z,je,q0,q0,v,je,je,λ_=>by simp only[r];exact q.f rfl⟩
 | @call t m a x c=>
  have e:q81 ⟨20,t,m,a,⟨[x],u⟩⟩=w x:=e;have F:x.K_.xs.length<=50000:=jE;obtain⟨O,L,a4⟩:=zl4 x F;obtain⟨K,qx⟩:=qk x je;obtain⟨v,r⟩:=zl5 (Q:=Q) a4 F λk p=>by obtain⟨h,_⟩:=qx k p;exact h.q (.inl (c.2 k p).2)
  simp (decide:=true) only [jj,jq,x5 h,js,jp,jr,jk,e,zm,L,jm];exact⟨_,rfl,z,je,q0,q0,v,je,λ_=>by simp only[r];exact K.c c.1,je⟩
 | @store t m a x y c d=>
  have k0:q3e (⟨11,t,m,a,⟨[x,y],u⟩⟩,0)=_:=k0;have A:q3e (⟨11,t,m,a,⟨[x,y],u⟩⟩,1)=_:=A;have j:=j jE;simp (decide:=true) only [jj,jq,x5 h,js,jp,jr,jk,k0,A,jm];exact⟨_,rfl,z,λ_ _=>q.y je,t0 j,H j,b,je,je,je⟩
 | @set t m a x c=>
  have e:q81 ⟨10,t,m,a,⟨[x],u⟩⟩=w x:=e;obtain⟨i,N,M⟩:=zAv (n:=⟨10,t,m,a,⟨[x],u⟩⟩) (q.s rfl) h (jE:x.K_.xs.length<=50000) c (qk x je) q0;simp (decide:=true) only [jj,jq,js,e,zm,N,jo];exact⟨i,rfl,M⟩
abbrev RIx:=qq
abbrev InT:=(Int×Int×Ut×Ut×Ut×Int×Ut×Int×Int×Bool)×Sl qp
theorem rk0{n x:Nd}{l:List Nd}{b:Bool}(h:n.K_=⟨x::l,b⟩):za (rN n).K_ 0=w (rN x):=by
 rw[zJ,h,show(0:Int)=((0:Nat):Int) from rfl,ze je];rfl
theorem rk1{n x y:Nd}{l:List Nd}{b:Bool}(h:n.K_=⟨x::y::l,b⟩):za (rN n).K_ 1=w (rN y):=by
 rw[zJ,h,show(1:Int)=((1:Nat):Int) from rfl,ze je];rfl
theorem zfN(n:RNd):q24 n=w ⟨n.T_,n.n_⟩:=rfl
theorem zh4(n:Nd)(d:n.K_.xs.length<=50000):∃l,q61 (rN n).K_=w l:=by
 have c:(rN n).K_.xs.length=n.K_.xs.length:=by rw[zJ];simp
 obtain⟨l,h,_⟩:=go (f:=q73 q24) (n:=(rN n).K_.xs.length) (A:=Sl qp) (st:=λi a=>((rN n).K_,(i:Int),a)) (fin:=λa=>a) (J:=λi a=>a.xs.length=i)
  (λi hi a b=>by
   refine⟨⟨a.xs++[⟨(rN n).K_.xs[i].T_,(rN n).K_.xs[i].n_⟩],u⟩,?_,by simp[b]⟩;unfold q73;simp only[jl];rw[jv jA,ze hi,jj];show((w _).bind _)=_
   rw[jj,ZA Zd Zd,jj,zu Zd])
  (λa b=>by
   unfold q73;simp only[jl]
   rw[jx jA])
  (a:=C [] B) rfl
 exact⟨l,congrArg (λo=>E o λy=>w y) h⟩
def zyZ(r:Uv InT):Prop:=∃y,r=w y
theorem zy0{n e:Nd}(c:ExprG e)(f:n.K_=⟨[e],u⟩)(b:e.K_.xs.length<=50000):zyZ (q6u (rN n)):=by
 obtain⟨h,a⟩:=zh4 e b;unfold q6u qb0;simp only[rk0 f,jj,zj,zfN,ZU];cases c with
 |term h1 h2=>
  simp (decide:=true) only [h1,jr,js,jp,jq,jj,jk];exact⟨_,rfl⟩
 |leaf h1 h2=>
  rcases h1 with h1 | h1 | h1 | h1<;>
  ·simp (decide:=true) only [h1,jr,js,jp,jq,jj,jk];exact⟨_,rfl⟩
 |call h1=>
  simp (decide:=true) only [h1.1,jr,js,jp,jq,jj,jk,a];exact⟨_,rfl⟩
 |load h1 h2 d=>
  simp (decide:=true) only [h1,jr,js,jp,jq,jj,jk,rk0 h2,zfN];exact⟨_,rfl⟩
 |two h1 h2 d g=>
  rcases h1 with h1 | h1<;>
  ·simp (decide:=true) only [h1,jr,js,jp,jq,jj,jk,rk0 h2,rk1 h2,zfN];exact⟨_,rfl⟩
theorem zun{n:Nd}(h:StmtG n)(f:zl n<=50000)(h1:n.k_≠15)(h2:n.k_≠16):zyZ (q27 (rN n)):=by
 obtain⟨o,i⟩:=zh4 n (by have:=@Zm n;omega);have g:∀{k:Nd} {n:Nd},n.K_=⟨[k],u⟩->zl n<=50000->k.K_.xs.length<=50000:=by
  intro k n e f;have a:=@ZY n k (by rw[e];simp);have b:=@Zm k;omega
 unfold q27 q8x;simp only[zj];simp only[ZU];cases h with
 |leaf c=>
  have d:∀(k:Int) (t:Ut) (n a:Int),(Sl.len (rN ⟨k,t,n,a,nilS⟩).K_)=0:=by intros;rw[zJ];rfl
  rcases c with rfl | rfl | rfl | rfl | rfl<;>
  ·simp (decide:=true) only [jr,js,jp,jq,jj,jk,d];exact⟨_,rfl⟩
 |ite=>grind
 |whl=>grind
 | @ret t n a x c=>
  have d:Sl.len (rN ⟨17,t,n,a,⟨[x],u⟩⟩).K_=1:=by rw[zJ];rfl
  simp (decide:=true) only [jr,js,jp,jq,jj,jk,d,rk0 (n:=⟨17,t,n,a,⟨[x],u⟩⟩) rfl,zfN];exact⟨_,rfl⟩
 | @fork t n a ks c=>
  simp (decide:=true) only [jr,js,jp,jq,jj,jk,i,Y1,z6];exact⟨_,rfl⟩
 | @call t n a x c=>
  obtain⟨m,j⟩:=zh4 x (g rfl f);simp (decide:=true) only [jr,js,jp,jq,jj,jk,rk0 (n:=⟨20,t,n,a,⟨[x],u⟩⟩) rfl,j];exact⟨_,rfl⟩
 | @store t n a x y c1 c2=>
  simp (decide:=true) only [jr,js,jp,jq,jj,jk,rk0 (n:=⟨11,t,n,a,⟨[x,y],u⟩⟩) rfl,rk1 (n:=⟨11,t,n,a,⟨[x,y],u⟩⟩) rfl,zfN];exact⟨_,rfl⟩
 | @set t n a e c=>
  obtain⟨y,l⟩:=zy0 (n:=⟨10,t,n,a,⟨[e],u⟩⟩) c rfl (g rfl f);simp (decide:=true) only [jr,js,jp,jq,jj,jk,l];exact⟨y,rfl⟩
structure Ls(Q:QK->Prop)(m:Nat)(l l':Sl CIx):Prop where
 a:l.xs.length<=l'.xs.length
 b:l'.xs.length<=l.xs.length+m
 g:(∀i∈l.xs,Gi Q l.xs.length i)->∀i∈l'.xs,Gi Q l'.xs.length i
theorem Ls.trans{Q:QK->Prop}{m k:Nat}{a b c:Sl CIx}(h:Ls Q m a b)(g:Ls Q k b c):Ls Q (m+k) a c:=⟨by have:=h.a;have:=g.a;omega,by have:=h.b;have:=g.b;omega,λx=>g.g (h.g x)⟩
theorem Ls.mono{Q:QK->Prop}{m k:Nat}{a b:Sl CIx}(h:Ls Q m a b)(c:m<=k):Ls Q k a b:=⟨h.a,by have:=h.b;omega,h.g⟩
theorem Ls.snoc{Q:QK->Prop}{l:Sl CIx}{i:CIx}(h:Gi Q (l.xs.length+1) i):Ls Q 1 l ⟨l.xs++[i],u⟩:=by
 refine⟨je,je,λg j a=>?_⟩;simp only[jy,g9];rcases Ux.1 a with a | a
 ·exact(g j a).mono Zd
 ·rw[Dr] at a;subst a;exact h
theorem Ls.set{Q:QK->Prop}{l:Sl CIx}{k:Nat}{i:CIx}(b:k < l.xs.length)(h:Gi Q l.xs.length l.xs[k]->Gi Q l.xs.length i):Ls Q 0 l (l.set (k:Int) i):=by
 refine⟨by simp[Sl.set],by simp[Sl.set],λg j a=>?_⟩;simp only[Sl.set,Int.toNat_natCast,List.length_set] at a |-
 rcases Dv a with a | rfl
 ·exact g j a
 ·exact h (g _ (gc b))
def zh5(s:Nd):Prop:=
 (∀Q:QK->Prop,Q (.n (lit []))->AllN (pQ Q) s->∀F (l:Sl CIx),zl s<=F->l.xs.length+zl s<=40000->∃b,q28 (q2x F) (s,l)=w b/\Ls Q (zl s) l b)/\
 ∀F from_ (i:Nat) (n:RNd) (out:Sl RIx) (hi:i < n.K_.xs.length),n.K_.xs[i]=rN s->zl s<=F->out.xs.length+zl s<=40000->i < 100000->
  ∃a,q3v q27 q24 (q2p F) (from_,(i:Int),n,out)=w (.next (from_,((i+1:Nat):Int),n,a))/\a.xs.length<=out.xs.length+zl s
def zfO(b:Nd):Prop:=
 (∀Q:QK->Prop,Q (.n (lit []))->AllN (pQ Q) b->∀F (l:Sl CIx),zl b<=F->l.xs.length+zl b<=40000->∃c,q2x F (b,l)=w c/\Ls Q (zl b - 1) l c)/\
 ∀F a,zl b<=F->zl b<=40000->∃out,q2p F (rN b,a)=w out/\out.xs.length+1<=zl b
theorem Y2{l:List Nd}{i:Nat}(h:i < l.length):zd (l.take i)+zl l[i]<=zd l:=by
 have h1:zd (l.take i++l.drop i)=zd l:=by rw[List.take_append_drop]
 rw[zN,Di h] at h1;simp only[zd] at h1;omega
theorem zg0{l:List Nd}{i:Nat}(h:i < l.length):zd (l.take (i+1))=zd (l.take i)+zl l[i]:=by
 rw[<- D7 h,zN];simp[zd]
theorem zd4{b:Nd}(p:∀s∈b.K_.xs,zh5 s):zfO b:=by
 have H:=zk b;have z:=@Zm b;refine⟨λQ q0 q F l v I=>?_,λF j v hb=>?_⟩
 ·obtain⟨_,q⟩:=q;obtain⟨F,rfl⟩:∃k,F=k+1:=⟨F - 1,Zd⟩
  obtain⟨e,h1,h2⟩:=go (f:=q8n (q28 (q2x F))) (n:=b.K_.xs.length) (A:=Sl CIx) (st:=λi a=>(b.K_,b.K_.len,(i:Int),a)) (fin:=λa=>a) (J:=λi a=>Ls Q (zd (b.K_.xs.take i)) l a)
   (λi hi a c=>by
    have r:=gc hi;have t:=Y2 hi;have:=c.b;obtain⟨a',g,m⟩:=(p _ r).1 Q q0 (q _ r) F a Zd Zd;refine⟨a',?_,by rw[zg0 hi];exact c.trans m⟩;unfold q8n;simp only[jl,zm]
    rw[jv jA,ze hi,jj,g,jj,zu Zd])
   (λa c=>by
    unfold q8n;simp only[jl]
    rw[jx jA])
   (a:=l) ⟨UD _,Zd,λh=>h⟩
  rw[Dl] at h2;exact⟨e,congrArg (λo=>E o λy=>w y) h1,h2.mono Zd⟩
 ·obtain⟨F,rfl⟩:∃k,F=k+1:=⟨F - 1,Zd⟩
  have x:(rN b).K_.xs=b.K_.xs.map rN:=by rw[zJ]
  have d:(rN b).K_.xs.length=b.K_.xs.length:=by rw[x];simp
  obtain⟨e,h1,h2⟩:=go (f:=q3v q27 q24 (q2p F)) (n:=b.K_.xs.length) (A:=Sl RIx) (st:=λi a=>(j,(i:Int),rN b,a)) (fin:=λa=>a) (J:=λi a=>a.xs.length<=zd (b.K_.xs.take i))
   (λi hi a c=>by
    have t:=Y2 hi;obtain⟨a',g,m⟩:=(p _ (gc hi)).2 F j i (rN b) a Zd jE Zd Zd Zd
    exact⟨a',g,by rw[zg0 hi];omega⟩)
   (λa c=>by
    unfold q3v;simp only[jl]
    rw[jx (by simp only[zh,d];omega)])
   (a:=C [] B) je
  rw[Dl] at h2;refine⟨e,?_,Zd⟩;show((lpO _ (j,0,kr (rN b),C [] B)).bind _)=_;rw[zj];grind
theorem Vx{s:Nd}(h:StmtG s)(hs:zl s<=40000)(h1:s.k_≠15)(h2:s.k_≠16):zh5 s:=by
 have hp:=z7 s;refine⟨λQ q0 q F l e k=>?_,λF m i n out hi d e o b=>?_⟩
 ·obtain⟨j,a,c⟩:=zxr (hb:=q2x F) (n:=s) (l:=l) Zd Zd h q q0 h1 h2;exact⟨_,a,(Ls.snoc (c.mono (UE _))).mono Zd⟩
 ·obtain⟨y,a⟩:=zun h Zd h1 h2;refine⟨⟨out.xs++[⟨y.1.1,y.1.2.1,y.1.2.2.1,y.1.2.2.2.1,⟨y.1.2.2.2.2.1,y.1.2.2.2.2.2.1⟩,⟨y.1.2.2.2.2.2.2.1,y.1.2.2.2.2.2.2.2.1⟩,y.2,y.1.2.2.2.2.2.2.2.2.1,y.1.2.2.2.2.2.2.2.2.2⟩],u⟩,?_,by simp only[jy,g9];omega⟩;have f:(rN s).k_≠15:=by rw[ZU];exact h1
  have g:(rN s).k_≠16:=by rw[ZU];exact h2
  unfold q3v;simp only[jl];rw[jv jA,ze hi,d,jj,jv f];simp only[jj,zj,a];rw[jv (gm g),ZA Zd Zd];simp only[jj];rw[zu Zd]
theorem zvo{p q r}{a b c d:Int}{n s:RNd}{out t:Sl RIx}(h:out.xs.length+t.xs.length<=90000):∃o,lpO (q5h p q r) (a,b,c,d,0,n,out,s,t)=w (a,b,c,d,n,o,s)/\o.xs=out.xs++t.xs:=by
 obtain⟨o,h1,h2⟩:=go (f:=q5h p q r) (n:=t.xs.length) (A:=Sl RIx) (st:=λi o=>(a,b,c,d,(i:Int),n,o,s,t)) (fin:=λo=>(a,b,c,d,n,o,s)) (J:=λi o=>o.xs=out.xs++t.xs.take i)
  (λi hi o e=>by
   have:=congrArg D e;simp only[jy,De] at this;refine⟨⟨o.xs++[t.xs[i]],u⟩,?_,by simp only;rw[e,UV,D7 hi]⟩;unfold q5h;simp only[jl,zj]
   rw[jv jA,ze hi,jj,jj,ZA Zd Zd,jj,zu Zd])
  (λo e=>by
   unfold q5h;simp only[jl,zj]
   rw[jx jA])
  (a:=out) je
 grind
theorem zAw{p q r}{a b:Int}{n:RNd}{out t:Sl RIx}(h:out.xs.length+t.xs.length<=90000):∃o,lpO (q5i p q r) (a,b,0,n,out,t)=w (a,b,n,o)/\o.xs=out.xs++t.xs:=by
 obtain⟨o,h1,h2⟩:=go (f:=q5i p q r) (n:=t.xs.length) (A:=Sl RIx) (st:=λi o=>(a,b,(i:Int),n,o,t)) (fin:=λo=>(a,b,n,o)) (J:=λi o=>o.xs=out.xs++t.xs.take i)
  (λi hi o c=>by
   have:=congrArg D c;simp only[jy,De] at this;refine⟨⟨o.xs++[t.xs[i]],u⟩,?_,by simp only;rw[c,UV,D7 hi]⟩;unfold q5i;simp only[jl,zj]
   rw[jv jA,ze hi,jj,jj,ZA Zd Zd,jj,zu Zd])
  (λo c=>by
   unfold q5i;simp only[jl,zj]
   rw[jx jA])
  (a:=out) je
 grind
theorem Ls.to{Q:QK->Prop}{l:Sl CIx}{k:Nat}{v:CIx}(d:k < l.xs.length)(e:l.xs[k]=v):Ls Q 0 l (l.set (k:Int) ⟨v.O_,v.a_,v.X_,v.Y_,v.A_,v.B_,v.Q_,l.len,v.h_⟩):=
 Ls.set d λg=>by subst e;exact⟨⟨by simp only[zh];omega,by simp only[zh];omega⟩,g.y,g.a,g.b,g.l,g.x,g.c,g.f⟩
theorem zfi{hb}{n:Nd}{l:Sl CIx}(h:n.k_=15\/n.k_=16):q28 hb (n,l)=q2t hb (n,l):=by
 unfold q28 q67;have key:∀o:Uv (Sl CIx),((o.bind λe=>w (Sum.inl e)).bind λc:Sl CIx⊕_=>Sum.elim (λd:Sl CIx=>w d) (λa:Sl CIx×(Int×Int×Ut×Ut×Ut×Int×Ut×Int×Int×Bool)×Sl qz=>(q2z (qm.mk a.2.1.1 a.2.1.2.1 a.2.1.2.2.1 a.2.1.2.2.2.1 ⟨a.2.1.2.2.2.2.1,a.2.1.2.2.2.2.2.1⟩ ⟨a.2.1.2.2.2.2.2.2.1,a.2.1.2.2.2.2.2.2.2.1⟩ a.2.2 a.2.1.2.2.2.2.2.2.2.2.1 a.2.1.2.2.2.2.2.2.2.2.2,a.1)).bind λb=>w b.2) c)=o:=by
  intro o;cases o<;>rfl
 rcases h with h | h<;>
 ·simp (decide:=true) only [h,js,jr,jq,jp,jj,jk]
  first | rw[<- h,zm] | simp only[zm]
  exact key _
abbrev brI(a:Int)(op:Ut)(x y:Nd):CIx:=⟨10,a,op,lit [],⟨x.T_,x.n_⟩,⟨y.T_,y.n_⟩,C [] B,0,B⟩
theorem zxs {op:Ut}{n a:Int}{x y e f:Nd}(N:ZQ x) (U:ZQ y) (h1:zfO e) (h2:zfO f) (hz:zl ⟨15,op,n,a,⟨[x,y,e,f],u⟩⟩<=40000) :
    zh5 ⟨15,op,n,a,⟨[x,y,e,f],u⟩⟩:=by
 have hs:zl ⟨15,op,n,a,⟨[x,y,e,f],u⟩⟩=zl x+(zl y+(zl e+zl f))+1:=by rw[zk];simp[zd]
 have px:=z7 x;have py:=z7 y;have p1:=z7 e;have p2:=z7 f;refine⟨λQ q0 q F l V hl=>?_,λF g i L out hi hn V ho O=>?_⟩
 · rw[zfi (.inl rfl)];unfold q2t q5a;obtain⟨_,q⟩:=q;have qx:Q (.n x.T_):=by obtain⟨h,_⟩:=q x je;exact h.q (.inl N.2)
   have qy:Q (.n y.T_):=by obtain⟨h,_⟩:=q y je;exact h.q (.inl U.2)
   have k0:q3e (⟨15,op,n,a,⟨[x,y,e,f],u⟩⟩,0)=w ⟨x.T_,x.n_⟩:=zaC _ 0;have k1:q3e (⟨15,op,n,a,⟨[x,y,e,f],u⟩⟩,1)=w ⟨y.T_,y.n_⟩:=zaC _ 1;have g2:za (⟨[x,y,e,f],u⟩:Sl Nd) 2=w e:=rfl;have M:za (⟨[x,y,e,f],u⟩:Sl Nd) 3=w f:=rfl;simp only[k0,k1,jj,jl,g2,M,zm];rw[jx (by show¬((4:Int) < 3);omega),x5 Zd,jj];have s1:Ls Q 1 l ⟨l.xs++[brI a op x y],u⟩ :=.snoc ⟨⟨je,ji⟩,je,qx,qy,je,je,je,je⟩;obtain⟨l2,o,m⟩:=h1.1 Q q0 (q e je) F ⟨l.xs++[brI a op x y],u⟩ Zd (by have:=s1.b;omega);have t2:=s1.trans m;have a2:=m.a;have b2:=t2.b;simp only[jy,g9] at a2;simp only[o,jj];rw[x5 Zd];simp only[jj];rw[ze (by simp only[jy,g9];omega)];simp only[jj,jq];rw[jv (by rfl)];have t3:=t2.trans (.snoc (i:=⟨11,a,lit [],lit [],⟨lit [],0⟩,⟨lit [],0⟩,C [] B,(l.xs.length:Int),B⟩) ⟨⟨je,by simp only;omega⟩,je,q0,q0,je,je,je,je⟩);generalize K:Sl.set _ _ _=v;have t4:Ls Q (1+(zl e - 1)+1+0) l v:=by rw[<- K];exact t3.trans (.to (k:=l.xs.length) (by simp only[jy,g9];omega) rfl)
   have a4:=t4.a;have b4:=t4.b;obtain⟨l5,Z,z⟩:=h2.1 Q q0 (q f je) F v Zd Zd;have Y:v.xs.length=l2.xs.length+1:=by rw[<- K];simp[Sl.set]
   have a5:=z.a;simp only[M,Z,jj];rw[ze Zd];refine⟨_,rfl,((t4.trans z).trans (.to Zd rfl)).mono Zd⟩
 · unfold q3v;have r0:=rk0 (n:=⟨15,op,n,a,⟨[x,y,e,f],u⟩⟩) rfl;have r1:=rk1 (n:=⟨15,op,n,a,⟨[x,y,e,f],u⟩⟩) rfl;have r2:za (rN ⟨15,op,n,a,⟨[x,y,e,f],u⟩⟩).K_ 2=w (rN e):=by rw[zJ];rfl
   have A:za (rN ⟨15,op,n,a,⟨[x,y,e,f],u⟩⟩).K_ 3=w (rN f):=by rw[zJ];rfl
   simp only[jl];rw[jv jA,ze hi,hn,jj];have I:(rN ⟨15,op,n,a,⟨[x,y,e,f],u⟩⟩).k_=15:=ZU _;generalize rN ⟨15,op,n,a,⟨[x,y,e,f],u⟩⟩=S at *
   simp only[zj];simp (decide:=true) only [I,jp,jj,jr,jk,r0,r1,r2,A,zfN];obtain⟨j,W,q1⟩:=h1.2 F (Uw (Uw (g+out.len)+1)) Zd Zd;rw[W,jj,ZA Zd Zd,jj]
   obtain⟨R,o,m⟩:=zvo (p:=q27) (q:=q24) (r:=q2p F) (a:=g) (b:=(i:Int)) (c:=Uw (g+out.len)) (d:=Uw (Uw (Uw (g+out.len)+1)+j.len)) (n:=L) (s:=S)
    (out:=⟨out.xs++[⟨10,S.a_,S.T_,lit [],⟨(rN x).T_,(rN x).n_⟩,⟨(rN y).T_,(rN y).n_⟩,C [] B,Uw (Uw (Uw (Uw (g+out.len)+1)+j.len)+1),B⟩],u⟩) (t:=j) (by simp only[jy,g9];omega)
   have P:=congrArg D m;simp only[jy,g9] at P;rw[o];simp only[jj];obtain⟨H,e3,n3⟩:=h2.2 F (Uw (Uw (Uw (Uw (g+out.len)+1)+j.len)+1)) Zd Zd;rw[jx (by rw[I];decide),A];simp only[jj,zj,e3];rw[ZA Zd Zd,jj]
   obtain⟨o4,T,X⟩:=zAw (p:=q27) (q:=q24) (r:=q2p F) (a:=g) (b:=(i:Int)) (n:=L)
    (out:=⟨R.xs++[⟨11,S.a_,lit [],lit [],⟨lit [],0⟩,⟨lit [],0⟩,C [] B,Uw (Uw (Uw (Uw (Uw (g+out.len)+1)+j.len)+1)+H.len),B⟩],u⟩) (t:=H) (by simp only[jy,g9];omega)
   rw[T];simp only[jj];rw[zu Zd];exact⟨_,rfl,by rw[X];simp only[jy,g9];omega⟩
theorem zxt {op:Ut}{n a:Int}{x y e:Nd}(v:ZQ x) (K:ZQ y) (h1:zfO e) (R:zl ⟨16,op,n,a,⟨[x,y,e],u⟩⟩<=40000) :
    zh5 ⟨16,op,n,a,⟨[x,y,e],u⟩⟩:=by
 have hs:zl ⟨16,op,n,a,⟨[x,y,e],u⟩⟩=zl x+(zl y+zl e)+1:=by rw[zk];simp[zd]
 have U:=z7 x;have Y:=z7 y;have X:=z7 e;refine⟨λQ q0 q F l I T=>?_,λF f i H out hi P I Z z=>?_⟩
 · rw[zfi (.inr rfl)];unfold q2t q5a;obtain⟨_,q⟩:=q;have qx:Q (.n x.T_):=by obtain⟨h,_⟩:=q x je;exact h.q (.inl v.2)
   have qy:Q (.n y.T_):=by obtain⟨h,_⟩:=q y je;exact h.q (.inl K.2)
   have k0:q3e (⟨16,op,n,a,⟨[x,y,e],u⟩⟩,0)=w ⟨x.T_,x.n_⟩:=zaC _ 0;have N:q3e (⟨16,op,n,a,⟨[x,y,e],u⟩⟩,1)=w ⟨y.T_,y.n_⟩:=zaC _ 1;have g2:za (⟨[x,y,e],u⟩:Sl Nd) 2=w e:=rfl;simp only[k0,N,jj,jl,g2,zm];rw[jx (by show¬((3:Int) < 3);omega),x5 Zd,jj];have s1:Ls Q 1 l ⟨l.xs++[brI a op x y],u⟩ :=.snoc ⟨⟨je,ji⟩,je,qx,qy,je,je,je,je⟩;obtain⟨l2,m,g⟩:=h1.1 Q q0 (q e je) F ⟨l.xs++[brI a op x y],u⟩ Zd jE;have t2:=s1.trans g;have a2:=g.a;have b2:=t2.b;simp only[jy,g9] at a2;simp only[m,jj];rw[x5 Zd];simp only[jj];rw[ze jE];simp (decide:=true) only [jj,jp,jk];have t3:=t2.trans (.snoc (i:=⟨11,a,lit [],lit [],⟨lit [],0⟩,⟨lit [],0⟩,C [] B,(l.xs.length:Int),B⟩) ⟨⟨je,jE⟩,je,q0,q0,je,je,je,je⟩);exact⟨_,rfl,(t3.trans (.to (k:=l.xs.length) jE rfl)).mono Zd⟩
 · unfold q3v;have r0:=rk0 (n:=⟨16,op,n,a,⟨[x,y,e],u⟩⟩) rfl;have M:=rk1 (n:=⟨16,op,n,a,⟨[x,y,e],u⟩⟩) rfl;have O:za (rN ⟨16,op,n,a,⟨[x,y,e],u⟩⟩).K_ 2=w (rN e):=by rw[zJ];rfl
   simp only[jl];rw[jv jA,ze hi,P,jj];have o:(rN ⟨16,op,n,a,⟨[x,y,e],u⟩⟩).k_=16:=ZU _;generalize rN ⟨16,op,n,a,⟨[x,y,e],u⟩⟩=S at *
   simp only[zj];simp (decide:=true) only [o,jp,jq,jj,jr,jk,r0,M,O,zfN];obtain⟨j,L,V⟩:=h1.2 F (Uw (Uw (f+out.len)+1)) Zd Zd;rw[L,jj,ZA Zd Zd,jj]
   obtain⟨W,m,g⟩:=zvo (p:=q27) (q:=q24) (r:=q2p F) (a:=f) (b:=(i:Int)) (c:=Uw (f+out.len)) (d:=Uw (Uw (Uw (f+out.len)+1)+j.len)) (n:=H) (s:=S)
    (out:=⟨out.xs++[⟨10,S.a_,S.T_,lit [],⟨(rN x).T_,(rN x).n_⟩,⟨(rN y).T_,(rN y).n_⟩,C [] B,Uw (Uw (Uw (Uw (f+out.len)+1)+j.len)+1),B⟩],u⟩) (t:=j) jE
   have A:=congrArg D g;simp only[jy,g9] at A;rw[m];simp only[jj];rw[jv o,ZA Zd Zd];simp only[jj];rw[zu Zd];grind
theorem zl7{s:Nd}(h:StmtG s)(hs:zl s<=40000):zh5 s:=by
 have e:∀(a:Int) (b:List Nd),(∀s∈b,zl s<=40000->zh5 s)->zl ⟨9,lit [],0,a,mkS b⟩<=40000->zfO ⟨9,lit [],0,a,mkS b⟩:=λa b m o=>zd4 λs hs=>m s hs (by have:=@ZY ⟨9,lit [],0,a,mkS b⟩ s hs;omega)
 induction h with
 | @ite op n a x y l j b2 a2 g i h1 h2 f i2=>
  exact zxs g i (e j _ f (by rw[zk] at hs;simp[zd] at hs;omega)) (e a2 _ i2 (by rw[zk] at hs;simp[zd] at hs;omega)) hs
 | @whl op n a x y l j g i h1 f=>exact zxt g i (e j _ f (by rw[zk] at hs;simp[zd] at hs;omega)) hs
 | @leaf k t n a c=>exact Vx (.leaf c) hs jE jE
 |ret c=>exact Vx (.ret c) hs je je
 |fork c=>exact Vx (.fork c) hs je je
 |call c=>exact Vx (.call c) hs je je
 |store c d=>exact Vx (.store c d) hs je je
 |set c=>exact Vx (.set c) hs je je
def zji(Q:QK->Prop)(l:List CIx):Prop:=∃a i,l=a++[i]/\i.O_=14/\∀j∈l,Gi Q a.length j
theorem zpw{Q:QK->Prop}{k:Nd}(h:FnG k)(hs:zl k<=40000)(q0:Q (.n (lit [])))(q:∀b∈k.K_.xs,b.k_=9->AllN (pQ Q) b):∃c,q5e k=w c/\c.L_.xs.length<=40000/\zji Q c.L_.xs:=by
 obtain⟨N,ps,r,b,U,hp,V,T,hb⟩:=h;have e:=congrArg Sl.xs U;simp only at e;obtain⟨a,l,rfl,I⟩:=hb;have K:=ZY (n:=k) (k:=⟨9,lit [],0,a,mkS l⟩) (by rw[e];simp);have L:zfO ⟨9,lit [],0,a,mkS l⟩:=zd4 λs hs=>zl7 (I s hs) (by have:=@ZY ⟨9,lit [],0,a,mkS l⟩ s hs;omega)
 have z:k.K_.xs.length=ps.length+2:=by rw[e];simp
 have R:=@Zm k;have H:=z7 ⟨9,lit [],0,a,mkS l⟩
 obtain⟨⟨P,p⟩,S,W,F⟩:=go (f:=qe3 q9j q2z) (n:=k.K_.xs.length) (A:=Sl Ut×Sl CIx) (st:=λi a=>(k.K_,k.K_.len,(i:Int),lit [],k.T_,a.1,a.2)) (fin:=λa=>(lit [],k.T_,a.1,a.2))
  (J:=λi a=>a.1.xs.length<=i/\if i=k.K_.xs.length then a.2.xs.length<=40000/\zji Q a.2.xs else a.2.xs=[])
  (λi hi P t=>by
   obtain⟨P,p⟩:=P;obtain⟨t,d⟩:=t;simp only at t d;rw[jx Zd] at d;unfold qe3;simp only[jl,zm];rw[jv jA,ze hi,jj];have X:=@zu i Zd;by_cases c:i < ps.length
   ·have v:k.K_.xs[i]=ps[i]:=jE
    refine⟨(⟨P.xs++[k.K_.xs[i].T_],u⟩,p),?_,ji,jE⟩;rw[jv (by rw[v];exact(hp _ (gc c)).1),ZA Zd Zd];grind
   by_cases c2:i=ps.length
   ·have v:k.K_.xs[i]=r:=jE
    refine⟨(P,p),?_,jE,jE⟩;grind
   ·obtain rfl:i=ps.length+1:=Zd
    have v:k.K_.xs[ps.length+1]=⟨9,lit [],0,a,mkS l⟩:=jE
    obtain⟨l2,O,y⟩:=L.1 Q q0 (q _ (by rw[e];simp) rfl) 100000 p Zd jE;have M:=y.b;rw[d,List.length_nil] at M;refine⟨(P,⟨l2.xs++[⟨14,a,lit [],lit [],⟨lit [],0⟩,⟨lit [],0⟩,C [] B,0,B⟩],u⟩),?_,jE,?_⟩
    ·rw[v,jx jE,jv (by rfl)];show(((((q2x 100000 (_,p)).bind _)).bind _).bind _)=_;rw[O,jj,x5 Zd];grind
    ·rw[jv Zd];refine⟨jE,l2.xs,_,rfl,rfl,λj m=>?_⟩;rcases Ux.1 m with m | m
     ·exact y.g (by rw[d];simp) j m
     ·rw[Dr] at m;subst m;exact⟨⟨je,je⟩,je,q0,q0,je,je,je,je⟩)
  (λP t=>by
   unfold qe3;simp only[jl]
   rw[jx jA])
  (a:=(C [] B,C [] B)) ⟨je,jE⟩
 rw[jv rfl] at F;refine⟨⟨k.T_,P,p⟩,?_,F⟩;unfold q5e qfk;rw[jx (by simp[N])];exact congrArg (λo=>E o λx:Ut×Ut×Sl Ut×Sl CIx=>w (q1m.mk x.2.1 x.2.2.1 x.2.2.2)) S
theorem znD{k:Nd}(h:FnG k)(hs:zl k<=40000):∃y,q2m (rN k)=w y:=by
 obtain⟨K,ps,r,b,H,hp,I,F,hb⟩:=h;have c:=congrArg Sl.xs H;simp only at c;obtain⟨a,l,rfl,p⟩:=hb;have q:=ZY (n:=k) (k:=⟨9,lit [],0,a,mkS l⟩) (by rw[c];simp);have t:zfO ⟨9,lit [],0,a,mkS l⟩:=zd4 λs hs=>zl7 (p s hs) (by have:=@ZY ⟨9,lit [],0,a,mkS l⟩ s hs;omega)
 have e:k.K_.xs.length=ps.length+2:=by rw[c];simp
 have z:=@Zm k;have v:(rN k).K_.xs=k.K_.xs.map rN:=by rw[zJ]
 have m:(rN k).K_.xs.length=k.K_.xs.length:=by rw[v];simp
 obtain⟨P2,j,g2⟩:=go (f:=q5j q4v) (n:=ps.length) (A:=Sl Ut) (st:=λi a=>(((ps.length+1:Nat):Int),(i:Int),rN k,lit [],k.T_,a)) (fin:=λa=>(((ps.length+1:Nat):Int),rN k,lit [],k.T_,a))
  (J:=λi a=>a.xs.length<=i)
  (λi hi P o=>by
   refine⟨⟨P.xs++[((rN k).K_.xs[i]' Zd).T_],u⟩,?_,ji⟩;unfold q5j;simp only[jl,zj]
   rw[zF Zd Zd,jv Zd,ze Zd,jj,ZA Zd Zd,jj,zu Zd])
  (λP o=>by
   unfold q5j;simp only[jl,zj]
   rw[zF Zd Zd,jx Zd])
  (a:=C [] B) je
 obtain⟨out,g,L⟩:=t.2 100000 0 Zd Zd;have d:za (rN k).K_ ((ps.length+1:Nat):Int)=w (rN ⟨9,lit [],0,a,mkS l⟩):=by
  rw[ze Zd];grind
 refine⟨(k.T_,P2,⟨out.xs++[⟨14,(rN ⟨9,lit [],0,a,mkS l⟩).a_,lit [],lit [],⟨lit [],0⟩,⟨lit [],0⟩,C [] B,0,B⟩],u⟩),?_⟩
 ·unfold q2m q8y;have x:Uw ((rN k).K_.len - 1)=((ps.length+1:Nat):Int):=by rw[zh,m,e,zF Zd Zd];omega
  simp only[x,zj];simp only[z6];have j:lpO (q5j q4v) (((ps.length+1:Nat):Int),0,rN k,lit [],k.T_,C [] B)=_:=j;have g:q4v (rN ⟨9,lit [],0,a,mkS l⟩,0)=_:=g;rw[j];simp only[jj,d,g];rw[ZA Zd Zd];rfl
end Go.Px
