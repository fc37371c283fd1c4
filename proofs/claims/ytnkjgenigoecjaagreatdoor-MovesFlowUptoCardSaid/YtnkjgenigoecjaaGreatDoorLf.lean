/- Part Lf. -/
import Derived.Test.YtnkjgenigoecjaaGreatDoorLe
set_option linter.unusedVariables false
set_option linter.unusedSimpArgs false
namespace Go.Px
open Bool renaming true->u,false->B
open List renaming length->D,take->G
open _root_.Option renaming some->w,bind->E
open Sl renaming mk->C
theorem DI:∀{α : Type _} {l : List α} {i : Nat} (h : i < l.length),G i l++[l[i]] = G (i + 1) l:=@List.take_append_getElem
inductive AllN(p:Nd->Prop):Nd->Prop
 |mk {n:Nd}:p n->(∀k∈n.K_.xs,AllN p k)->AllN p n
theorem AllN.mono{p q:Nd->Prop}(h:∀n,p n->q n){n:Nd}(a:AllN p n):AllN q n:=by
 induction a with
 |mk a b ih=>exact .mk (h _ a) ih
theorem zmt{p:Nd->Prop}(h:∀n,p n)(n:Nd):AllN p n:=by
 have:∀(m:Nat) (n:Nd),zl n<=m->AllN p n:=by
  intro m
  induction m with
  |zero=>intro n hn;have:=z6 n;omega
  |succ m ih=>exact λn hn =>.mk (h n) λk hk=>ih k (by have:=ZX hk;omega)
 exact this _ n (UN _)
abbrev CIx:=qm
inductive QK
 |y
 |n (b:U5)
 |x (b:U5)
 |c (b:U5) (l:List U5)
 |f (b:U5) (l:List U5)
structure Gi(Q:QK->Prop)(N:Nat)(i:CIx):Prop where
 t:0<=i.H_/\i.H_<=N
 y:5<=i.O_->i.O_<=9->Q .y
 a:Q (.n i.A_.N_)
 b:Q (.n i.B_.N_)
 l:i.Q_.xs.length<=50000/\∀t∈i.Q_.xs,Q (.n t.N_)
 x:i.O_=0->Q (.x i.X_)
 c:i.O_=12->Q (.c i.Y_ (i.Q_.xs.map qz.N_))
 f:i.O_=13->Q (.f i.Y_ (i.Q_.xs.map qz.N_))
theorem Gi.mono{Q:QK->Prop}{N M:Nat}{i:CIx}(h:Gi Q N i)(hm:N<=M):Gi Q M i:=⟨⟨h.t.1,by have:=h.t.2;omega⟩,h.y,h.a,h.b,h.l,h.x,h.c,h.f⟩
structure pQ(Q:QK->Prop)(n:Nd):Prop where
 q:n.k_=5\/n.k_=24\/n.k_=26\/n.k_=27->Q (.n n.T_)
 y:11<=n.k_/\n.k_<=14\/n.k_=25->Q .y
 s:n.k_=10->Q (.x n.T_)
 c:n.k_=28->Q (.c n.T_ (n.K_.xs.map q8.T_))
 f:n.k_=19->Q (.f n.T_ (n.K_.xs.map q8.T_))
theorem pQ.o{Q:QK->Prop}{n:Nd}(q:n.k_=5\/n.k_=24\/n.k_=26\/n.k_=27->Q (.n n.T_))(y:11<=n.k_/\n.k_<=14\/n.k_=25->Q .y)(h:n.k_≠10/\n.k_≠28/\n.k_≠19):pQ Q n:=
 ⟨q,y,λc=>absurd c h.1,λc=>absurd c h.2.1,λc=>absurd c h.2.2⟩
theorem go {S R A:Type}{f:S->U7 (Step S R)}{n:Nat}{st:Nat->A->S}{fin:A->R}{J:Nat->A->Prop}
    (h:∀i,i < n->∀a,J i a->∃a',f (st i a)=w (.next (st (i+1) a'))/\J (i+1) a') (h0:∀a,J n a->f (st n a)=w (.done (fin a))) {a:A} (ha:J 0 a) :
    ∃a',lpO f (st 0 a)=w (fin a')/\J n a':=by
 have:∀(m i:Nat) (a:A),i+m=n->J i a->∃a',lpO f (st i a)=w (fin a')/\J n a':=by
  intro m
  induction m with
  |zero=>
   intro i a hi ha;obtain rfl:i=n:=by omega
   exact⟨a,zA (h0 a ha),ha⟩
  |succ m ih=>
   intro i a hi ha;obtain⟨a',h1,h2⟩:=h i (by omega) a ha;obtain⟨b,h3,h4⟩:=ih (i+1) a' (by omega) h2;exact⟨b,by rw[zG h1,h3],h4⟩
 exact this n 0 a (by omega) ha
theorem Zz{α:Type}{b:Nat}{s:Sl α}{x:α}(hb:b<=1000000)(h:s.xs.length<=100000):zo b s [x]=w ⟨s.xs++[x],u⟩:=by
 have:(s.xs.length+[x].length) * b<=100001 * 1000000:=Nat.mul_le_mul (by simp;omega) hb;rw[yQ (by omega) (by simp;omega)];simp
theorem zmu(n:Nd)(hn:n.K_.xs.length<=50000):∃l,qc1 n=w l/\l.xs=n.K_.xs.map λk=>⟨k.T_,k.n_⟩:=by
 obtain⟨l,h,hl⟩:=go (f:=qe3 qan) (n:=n.K_.xs.length) (A:=Sl qz) (st:=λi a=>(n.K_,n.K_.len,(i:Int),a)) (fin:=λa=>a) (J:=λi a=>a.xs=(n.K_.xs.take i).map λk=>⟨k.T_,k.n_⟩)
  (λi hi a ha=>by
   have hal:=congrArg D ha;simp only[D4,Do] at hal;refine⟨⟨a.xs++[⟨n.K_.xs[i].T_,n.K_.xs[i].n_⟩],u⟩,?_,by rw[<- DI hi,List.map_append,ha];rfl⟩;unfold qe3;simp only[jl];rw[jv (by simp only[zj];omega),zg hi,jj];show((w _).bind _)=_
   rw[jj,Zz (by omega) (by omega),jj,zw (by omega)])
  (λa ha=>by
   unfold qe3;simp only[jl]
   rw[jx (by simp only[zj];omega)])
  (a:=C [] B) rfl
 rw[Dw] at hl;exact⟨l,congrArg (λo=>E o λy=>w y) h,hl⟩
theorem zmv{Q:QK->Prop}{n:Nd}{l:Sl qz}(h:l.xs=n.K_.xs.map λk=>⟨k.T_,k.n_⟩)(hn:n.K_.xs.length<=50000)(q:∀k∈n.K_.xs,Q (.n k.T_)):(l.xs.length<=50000/\∀t∈l.xs,Q (.n t.N_))/\l.xs.map qz.N_=n.K_.xs.map q8.T_:=by
 rw[h];refine⟨⟨by simpa using hn,λt ht=>?_⟩,by simp⟩;grind
def kT(n:Nd)(i:Nat):qz:=(n.K_.xs[i]?).elim ⟨lit [],0⟩ λx=>⟨x.T_,x.n_⟩
theorem zaw(n:Nd)(i:Nat):q35 (n,(i:Int))=w (kT n i):=by
 unfold q35 qh3 kT;simp only[jl];split
 ·rename_i h;rw[US (by simp only[zj] at h;omega)];rfl
 ·rename_i h;have hi:i < n.K_.xs.length:=by simp only[zj] at h;omega
  rw[zg hi,UM hi];rfl
theorem zpO{Q:QK->Prop}{n:Nd}{i:Nat}(q0:Q (.n (lit [])))(h:∀k∈n.K_.xs,Q (.n k.T_)):Q (.n (kT n i).N_):=by
 unfold kT;grind
def zmw(n:Nd):Nd:=(n.K_.xs[0]?).getD vi
theorem zyt(n:Nd):q7d n=w (zmw n)/\(zmw n).K_.xs.length<=zl n:=by
 unfold q7d qfd zmw;simp only[jl];split
 ·rename_i h;have:n.K_.xs=[]:=by simp only[zj] at h;exact UT (by omega)
  rw[this];exact⟨rfl,by simp[vi]⟩
 ·rename_i h;have h0:0 < n.K_.xs.length:=by simp only[zj] at h;omega
  rw[show(0:Int)=((0:Nat):Int) from rfl,zg h0,UM h0];refine⟨by simp only[jj,Option.getD_some,zm],?_⟩;have h1:=ZX (gc h0);have h2:=@Zl n.K_.xs[0];grind
theorem x5{i:CIx}{l:Sl CIx}(h:l.xs.length<=50000):q2r (i,l)=w ((l.xs.length:Int),⟨l.xs++[i],u⟩):=by
 unfold q2r qcc;rw[Zz (by omega) (by grind)];simp only[jj,zj,jy,g9];rw[zK (by omega) (by omega)];congr 2;omega
def One(Q:QK->Prop)(r:U7 (Sl CIx))(l:Sl CIx):Prop:=∃i,r=w ⟨l.xs++[i],u⟩/\Gi Q 0 i
theorem zBy{Q:QK->Prop}{n e:Nd}{l:Sl CIx}(qx:Q (.x n.T_))(h:l.xs.length<=50000)(he:e.K_.xs.length<=50000)(g:ExprG e)(a:AllN (pQ Q) e)(q0:Q (.n (lit []))):One Q (q6p (n,e,l)) l:=by
 obtain⟨sa,h2,a2⟩:=zmu e he;have h0:=zaw e 0;have h1:=zaw e 1;obtain⟨q,qk⟩:=a;have hq:(∀k∈e.K_.xs,ZP k)->∀k∈e.K_.xs,Q (.n k.T_):=λt k hk=>by
  obtain⟨h,_⟩:=qk k hk;exact h.q (.inl (t k hk).2)
 have z:(0:Int)<=0/\(0:Int)<=(0:Nat):=⟨by omega,by omega⟩;have n0:([]:List qz).length<=50000/\∀t∈([]:List qz),Q (.n t.N_):=by simp
 have t0:=@zpO Q e 0 q0;have t1:=@zpO Q e 1 q0;obtain⟨k,t,m,a,ks⟩:=e;have h0:q35 (⟨k,t,m,a,ks⟩,0)=_:=h0;have h1:q35 (⟨k,t,m,a,ks⟩,1)=_:=h1;have ht:∀n:Nd,qan n=w ⟨n.T_,n.n_⟩:=λn=>rfl
 unfold q6p qcd;cases g with
 |term h5=>
  obtain rfl:k=5:=h5;simp (decide:=true) only [jj,jp,x5 h,ht,jr,jk];exact⟨_,rfl,z,by simp,q.q (.inl rfl),q0,n0,λ_=>qx,by simp,by simp⟩
 |leaf h5=>
  rcases h5 with h5 | h5 | h5 | h5<;>obtain rfl:k=_:=h5<;>simp (decide:=true) only [jj,jq,jp,x5 h,js,ht,jr,jk]
  ·exact⟨_,rfl,z,by simp,q0,q0,n0,by simp,by simp,by simp⟩
  ·exact⟨_,rfl,z,by simp,q.q (by simp),q0,n0,by simp,by simp,by simp⟩
  ·exact⟨_,rfl,z,by simp,q.q (by simp),q0,n0,λ_=>qx,by simp,by simp⟩
  ·exact⟨_,rfl,z,by simp,q.q (by simp),q0,n0,λ_=>qx,by simp,by simp⟩
 |call h5=>
  obtain⟨h5,h6⟩:=h5;obtain rfl:k=28:=h5;simp (decide:=true) only [jj,jq,jp,x5 h,js,ht,jr,jk,h2];obtain⟨aL,aM⟩:=zmv a2 he (hq h6);exact⟨_,rfl,z,by simp,q0,q0,aL,by simp,λ_=>by simp only[aM];exact q.c rfl,by simp⟩
 |load h5 h6 h7=>
  obtain rfl:k=25:=h5;simp (decide:=true) only [jj,jq,jp,x5 h,js,ht,jr,jk,h0];exact⟨_,rfl,z,λ_ _=>q.y (by simp),t0 (hq (by grind)),q0,n0,by simp,by simp,by simp⟩
 |two h5 h6 h7 h8=>
  have hq:=hq (by grind);rcases h5 with h5 | h5<;>obtain rfl:k=_:=h5<;>simp (decide:=true) only [jj,jq,jp,x5 h,js,ht,jr,jk,h0,h1]
  ·exact⟨_,rfl,z,λh _=>absurd h (show¬ 5<=U8 (1+U8 (21 - 21)) by decide),t0 hq,t1 hq,n0,λh=>absurd h (show¬ U8 (1+U8 (21 - 21))=0 by decide),λh=>absurd h (show¬ U8 (1+U8 (21 - 21))=12 by decide),λh=>absurd h (show¬ U8 (1+U8 (21 - 21))=13 by decide)⟩
  ·exact⟨_,rfl,z,λh _=>absurd h (show¬ 5<=U8 (1+U8 (22 - 21)) by decide),t0 hq,t1 hq,n0,λh=>absurd h (show¬ U8 (1+U8 (22 - 21))=0 by decide),λh=>absurd h (show¬ U8 (1+U8 (22 - 21))=12 by decide),λh=>absurd h (show¬ U8 (1+U8 (22 - 21))=13 by decide)⟩
theorem zyu{Q:QK->Prop}{hb:Nd×Sl CIx->U7 (Sl CIx)}{n:Nd}{l:Sl CIx}(h:l.xs.length<=50000)(hn:zl n<=50000)(g:StmtG n)(a:AllN (pQ Q) n)(q0:Q (.n (lit [])))(h1:n.k_≠15)(h2:n.k_≠16):One Q (q23 hb (n,l)) l:=by
 have k0:=zaw n 0;have k1:=zaw n 1;have hkl:n.K_.xs.length<=50000:=by have:=@Zl n;omega
 obtain⟨sa,k2,a2⟩:=zmu n hkl;obtain⟨k3,hf⟩:=zyt n;obtain⟨q,qk⟩:=a;have hq:(∀k∈n.K_.xs,ZP k)->∀k∈n.K_.xs,Q (.n k.T_):=λt k hk=>by
  obtain⟨h,_⟩:=qk k hk;exact h.q (.inl (t k hk).2)
 have z:(0:Int)<=0/\(0:Int)<=(0:Nat):=⟨by omega,by omega⟩;have n0:([]:List qz).length<=50000/\∀t∈([]:List qz),Q (.n t.N_):=by simp
 have t0:=@zpO Q n 0 q0;have t1:=@zpO Q n 1 q0;unfold q23 q5p;cases g with
 | @leaf k t m a c=>
  have k0:q35 (⟨k,t,m,a,nilS⟩,0)=_:=k0;rcases c with rfl | rfl | rfl | rfl | rfl<;>simp (decide:=true) only [jj,jq,x5 h,js,jp,jr,jk,k0,jm]
  ·exact⟨_,rfl,z,λ_ _=>q.y (by simp),q0,q0,n0,by simp,by simp,by simp⟩
  ·exact⟨_,rfl,z,λ_ _=>q.y (by simp),q0,q0,n0,by simp,by simp,by simp⟩
  ·exact⟨_,rfl,z,λ_ _=>q.y (by simp),q0,q0,n0,by simp,by simp,by simp⟩
  ·exact⟨_,rfl,z,by simp,t0 (by simp),q0,n0,by simp,by simp,by simp⟩
  ·exact⟨_,rfl,z,by simp,q0,q0,n0,by simp,by simp,by simp⟩
 |ite=>grind
 |whl=>grind
 | @ret t m a x c=>
  have k0:q35 (⟨17,t,m,a,⟨[x],u⟩⟩,0)=_:=k0;simp (decide:=true) only [jj,jq,x5 h,js,jp,jr,jk,k0,jm];exact⟨_,rfl,z,by simp,t0 (hq (by simpa using c)),q0,n0,by simp,by simp,by simp⟩
 | @fork t m a ks c=>
  simp (decide:=true) only [jj,jq,x5 h,js,jp,jr,jk,k2,jm];obtain⟨aL,aM⟩:=zmv a2 hkl (hq c);exact⟨_,rfl,z,by simp,q0,q0,aL,by simp,by simp,λ_=>by simp only[aM];exact q.f rfl⟩
 | @call t m a x c=>
  have k3:q7d ⟨20,t,m,a,⟨[x],u⟩⟩=w x:=k3;have hx:x.K_.xs.length<=50000:=(by grind);obtain⟨sx,k4,a4⟩:=zmu x hx;obtain⟨q1,qx⟩:=qk x (by simp);obtain⟨aL,aM⟩:=zmv (Q:=Q) a4 hx λk hk=>by obtain⟨h,_⟩:=qx k hk;exact h.q (.inl (c.2 k hk).2)
  simp (decide:=true) only [jj,jq,x5 h,js,jp,jr,jk,k3,zm,k4,jm];exact⟨_,rfl,z,by simp,q0,q0,aL,by simp,λ_=>by simp only[aM];exact q1.c c.1,by simp⟩
 | @store t m a x y c d=>
  have k0:q35 (⟨11,t,m,a,⟨[x,y],u⟩⟩,0)=_:=k0;have k1:q35 (⟨11,t,m,a,⟨[x,y],u⟩⟩,1)=_:=k1;have hq:=hq (by grind);simp (decide:=true) only [jj,jq,x5 h,js,jp,jr,jk,k0,k1,jm];exact⟨_,rfl,z,λ_ _=>q.y (by simp),t0 hq,t1 hq,n0,by simp,by simp,by simp⟩
 | @set t m a x c=>
  have k3:q7d ⟨10,t,m,a,⟨[x],u⟩⟩=w x:=k3;obtain⟨i,e1,e2⟩:=zBy (n:=⟨10,t,m,a,⟨[x],u⟩⟩) (q.s rfl) h (show x.K_.xs.length<=50000 by grind) c (qk x (by simp)) q0;simp (decide:=true) only [jj,jq,js,k3,zm,e1,jo];exact⟨i,rfl,e2⟩
abbrev RIx:=qq
abbrev InT:=(Int×Int×U5×U5×U5×Int×U5×Int×Int×Bool)×Sl qp
theorem rk0{n x:Nd}{l:List Nd}{b:Bool}(h:n.K_=⟨x::l,b⟩):za (rN n).K_ 0=w (rN x):=by
 rw[zF,h,show(0:Int)=((0:Nat):Int) from rfl,zg (by simp)];rfl
theorem rk1{n x y:Nd}{l:List Nd}{b:Bool}(h:n.K_=⟨x::y::l,b⟩):za (rN n).K_ 1=w (rN y):=by
 rw[zF,h,show(1:Int)=((1:Nat):Int) from rfl,zg (by simp)];rfl
theorem zfP(n:RNd):q1y n=w ⟨n.T_,n.n_⟩:=rfl
theorem zic(n:Nd)(hn:n.K_.xs.length<=50000):∃l,q5j (rN n).K_=w l:=by
 have hl:(rN n).K_.xs.length=n.K_.xs.length:=by rw[zF];simp
 obtain⟨l,h,_⟩:=go (f:=q6j q1y) (n:=(rN n).K_.xs.length) (A:=Sl qp) (st:=λi a=>((rN n).K_,(i:Int),a)) (fin:=λa=>a) (J:=λi a=>a.xs.length=i)
  (λi hi a ha=>by
   refine⟨⟨a.xs++[⟨(rN n).K_.xs[i].T_,(rN n).K_.xs[i].n_⟩],u⟩,?_,by simp[ha]⟩;unfold q6j;simp only[jl];rw[jv (by simp only[zj];omega),zg hi,jj];show((w _).bind _)=_
   rw[jj,Zz (by omega) (by omega),jj,zw (by omega)])
  (λa ha=>by
   unfold q6j;simp only[jl]
   rw[jx (by simp only[zj];omega)])
  (a:=C [] B) rfl
 exact⟨l,congrArg (λo=>E o λy=>w y) h⟩
def zz4(r:U7 InT):Prop:=∃y,r=w y
theorem zz5{n e:Nd}(he:ExprG e)(hn:n.K_=⟨[e],u⟩)(hl:e.K_.xs.length<=50000):zz4 (q6a (rN n)):=by
 obtain⟨sa,ht⟩:=zic e hl;unfold q6a qac;simp only[rk0 hn,jj,zi,zfP,ZT];cases he with
 |term h1 h2=>
  simp (decide:=true) only [h1,jr,js,jp,jq,jj,jk];exact⟨_,rfl⟩
 |leaf h1 h2=>
  rcases h1 with h1 | h1 | h1 | h1<;>
  ·simp (decide:=true) only [h1,jr,js,jp,jq,jj,jk];exact⟨_,rfl⟩
 |call h1=>
  simp (decide:=true) only [h1.1,jr,js,jp,jq,jj,jk,ht];exact⟨_,rfl⟩
 |load h1 h2 h3=>
  simp (decide:=true) only [h1,jr,js,jp,jq,jj,jk,rk0 h2,zfP];exact⟨_,rfl⟩
 |two h1 h2 h3 h4=>
  rcases h1 with h1 | h1<;>
  ·simp (decide:=true) only [h1,jr,js,jp,jq,jj,jk,rk0 h2,rk1 h2,zfP];exact⟨_,rfl⟩
theorem zvc{n:Nd}(h:StmtG n)(hn:zl n<=50000)(h1:n.k_≠15)(h2:n.k_≠16):zz4 (q21 (rN n)):=by
 obtain⟨sa,ht⟩:=zic n (by have:=@Zl n;omega);have kl:∀{k:Nd} {n:Nd},n.K_=⟨[k],u⟩->zl n<=50000->k.K_.xs.length<=50000:=by
  intro k n e hn;have a:=@ZX n k (by rw[e];simp);have b:=@Zl k;omega
 unfold q21 q8a;simp only[zi];simp only[ZT];cases h with
 |leaf c=>
  have hk:∀(k:Int) (t:U5) (n a:Int),(Sl.len (rN ⟨k,t,n,a,nilS⟩).K_)=0:=by intros;rw[zF];rfl
  rcases c with rfl | rfl | rfl | rfl | rfl<;>
  ·simp (decide:=true) only [jr,js,jp,jq,jj,jk,hk];exact⟨_,rfl⟩
 |ite=>grind
 |whl=>grind
 | @ret t n a x c=>
  have hk:Sl.len (rN ⟨17,t,n,a,⟨[x],u⟩⟩).K_=1:=by rw[zF];rfl
  simp (decide:=true) only [jr,js,jp,jq,jj,jk,hk,rk0 (n:=⟨17,t,n,a,⟨[x],u⟩⟩) rfl,zfP];exact⟨_,rfl⟩
 | @fork t n a ks c=>
  simp (decide:=true) only [jr,js,jp,jq,jj,jk,ht,Y0,zZ];exact⟨_,rfl⟩
 | @call t n a x c=>
  obtain⟨ax,hx⟩:=zic x (kl rfl hn);simp (decide:=true) only [jr,js,jp,jq,jj,jk,rk0 (n:=⟨20,t,n,a,⟨[x],u⟩⟩) rfl,hx];exact⟨_,rfl⟩
 | @store t n a x y c1 c2=>
  simp (decide:=true) only [jr,js,jp,jq,jj,jk,rk0 (n:=⟨11,t,n,a,⟨[x,y],u⟩⟩) rfl,rk1 (n:=⟨11,t,n,a,⟨[x,y],u⟩⟩) rfl,zfP];exact⟨_,rfl⟩
 | @set t n a e c=>
  obtain⟨y,e1⟩:=zz5 (n:=⟨10,t,n,a,⟨[e],u⟩⟩) c rfl (kl rfl hn);simp (decide:=true) only [jr,js,jp,jq,jj,jk,e1];exact⟨y,rfl⟩
structure Ls(Q:QK->Prop)(m:Nat)(l l':Sl CIx):Prop where
 a:l.xs.length<=l'.xs.length
 b:l'.xs.length<=l.xs.length+m
 g:(∀i∈l.xs,Gi Q l.xs.length i)->∀i∈l'.xs,Gi Q l'.xs.length i
theorem Ls.trans{Q:QK->Prop}{m k:Nat}{a b c:Sl CIx}(h:Ls Q m a b)(g:Ls Q k b c):Ls Q (m+k) a c:=⟨by have:=h.a;have:=g.a;omega,by have:=h.b;have:=g.b;omega,λx=>g.g (h.g x)⟩
theorem Ls.mono{Q:QK->Prop}{m k:Nat}{a b:Sl CIx}(h:Ls Q m a b)(hk:m<=k):Ls Q k a b:=⟨h.a,by have:=h.b;omega,h.g⟩
theorem Ls.snoc{Q:QK->Prop}{l:Sl CIx}{i:CIx}(h:Gi Q (l.xs.length+1) i):Ls Q 1 l ⟨l.xs++[i],u⟩:=by
 refine⟨by simp,by simp,λg j hj=>?_⟩;simp only[jy,g9];rcases U9.1 hj with hj | hj
 ·exact(g j hj).mono (by omega)
 ·rw[D2] at hj;subst hj;exact h
theorem Ls.set{Q:QK->Prop}{l:Sl CIx}{k:Nat}{i:CIx}(hk:k < l.xs.length)(h:Gi Q l.xs.length l.xs[k]->Gi Q l.xs.length i):Ls Q 0 l (l.set (k:Int) i):=by
 refine⟨by simp[Sl.set],by simp[Sl.set],λg j hj=>?_⟩;simp only[Sl.set,Int.toNat_natCast,List.length_set] at hj |-
 rcases List.mem_or_eq_of_mem_set hj with hj | rfl
 ·exact g j hj
 ·exact h (g _ (gc hk))
def zid(s:Nd):Prop:=
 (∀Q:QK->Prop,Q (.n (lit []))->AllN (pQ Q) s->∀F (l:Sl CIx),zl s<=F->l.xs.length+zl s<=40000->∃l',q23 (q2p F) (s,l)=w l'/\Ls Q (zl s) l l')/\
 ∀F from_ (i:Nat) (n:RNd) (out:Sl RIx) (hi:i < n.K_.xs.length),n.K_.xs[i]=rN s->zl s<=F->out.xs.length+zl s<=40000->i < 100000->
  ∃out',q3j q21 q1y (q2h F) (from_,(i:Int),n,out)=w (.next (from_,((i+1:Nat):Int),n,out'))/\out'.xs.length<=out.xs.length+zl s
def zfQ(b:Nd):Prop:=
 (∀Q:QK->Prop,Q (.n (lit []))->AllN (pQ Q) b->∀F (l:Sl CIx),zl b<=F->l.xs.length+zl b<=40000->∃l',q2p F (b,l)=w l'/\Ls Q (zl b - 1) l l')/\
 ∀F from_,zl b<=F->zl b<=40000->∃out,q2h F (rN b,from_)=w out/\out.xs.length+1<=zl b
theorem Y1{l:List Nd}{i:Nat}(h:i < l.length):zd (l.take i)+zl l[i]<=zd l:=by
 have h1:zd (l.take i++l.drop i)=zd l:=by rw[List.take_append_drop]
 rw[zL,Dt h] at h1;simp only[zd] at h1;omega
theorem zg2{l:List Nd}{i:Nat}(h:i < l.length):zd (l.take (i+1))=zd (l.take i)+zl l[i]:=by
 rw[<- DI h,zL];simp[zd]
theorem zd1{b:Nd}(hg:∀s∈b.K_.xs,zid s):zfQ b:=by
 have hsz:=zk b;have hk2:=@Zl b;refine⟨λQ q0 q F l hF hl=>?_,λF fr hF hb=>?_⟩
 ·obtain⟨_,q⟩:=q;obtain⟨F,rfl⟩:∃k,F=k+1:=⟨F - 1,by omega⟩
  obtain⟨l',h1,h2⟩:=go (f:=q80 (q23 (q2p F))) (n:=b.K_.xs.length) (A:=Sl CIx) (st:=λi a=>(b.K_,b.K_.len,(i:Int),a)) (fin:=λa=>a) (J:=λi a=>Ls Q (zd (b.K_.xs.take i)) l a)
   (λi hi a ha=>by
    have hm:=gc hi;have h4:=Y1 hi;have:=ha.b;obtain⟨a',e1,e2⟩:=(hg _ hm).1 Q q0 (q _ hm) F a (by omega) (by omega);refine⟨a',?_,by rw[zg2 hi];exact ha.trans e2⟩;unfold q80;simp only[jl,zm]
    rw[jv (by simp only[zj];omega),zg hi,jj,e1,jj,zw (by omega)])
   (λa ha=>by
    unfold q80;simp only[jl]
    rw[jx (by simp only[zj];omega)])
   (a:=l) ⟨UN _,by omega,λh=>h⟩
  rw[Dw] at h2;exact⟨l',congrArg (λo=>E o λy=>w y) h1,h2.mono (by omega)⟩
 ·obtain⟨F,rfl⟩:∃k,F=k+1:=⟨F - 1,by omega⟩
  have hk:(rN b).K_.xs=b.K_.xs.map rN:=by rw[zF]
  have hkl:(rN b).K_.xs.length=b.K_.xs.length:=by rw[hk];simp
  obtain⟨l',h1,h2⟩:=go (f:=q3j q21 q1y (q2h F)) (n:=b.K_.xs.length) (A:=Sl RIx) (st:=λi a=>(fr,(i:Int),rN b,a)) (fin:=λa=>a) (J:=λi a=>a.xs.length<=zd (b.K_.xs.take i))
   (λi hi a ha=>by
    have h4:=Y1 hi;obtain⟨a',e1,e2⟩:=(hg _ (gc hi)).2 F fr i (rN b) a (by omega) (by grind) (by omega) (by omega) (by omega)
    exact⟨a',e1,by rw[zg2 hi];omega⟩)
   (λa ha=>by
    unfold q3j;simp only[jl]
    rw[jx (by simp only[zj,hkl];omega)])
   (a:=C [] B) (by simp)
  rw[Dw] at h2;refine⟨l',?_,by omega⟩;show((lpO _ (fr,0,kr (rN b),C [] B)).bind _)=_;rw[zi];grind
theorem Vs{s:Nd}(h:StmtG s)(hs:zl s<=40000)(h1:s.k_≠15)(h2:s.k_≠16):zid s:=by
 have hp:=z6 s;refine⟨λQ q0 q F l hF hl=>?_,λF fr i n out hi hn hF ho hi2=>?_⟩
 ·obtain⟨j,e1,e2⟩:=zyu (hb:=q2p F) (n:=s) (l:=l) (by omega) (by omega) h q q0 h1 h2;exact⟨_,e1,(Ls.snoc (e2.mono (UO _))).mono (by omega)⟩
 ·obtain⟨y,e1⟩:=zvc h (by omega) h1 h2;refine⟨⟨out.xs++[⟨y.1.1,y.1.2.1,y.1.2.2.1,y.1.2.2.2.1,⟨y.1.2.2.2.2.1,y.1.2.2.2.2.2.1⟩,⟨y.1.2.2.2.2.2.2.1,y.1.2.2.2.2.2.2.2.1⟩,y.2,y.1.2.2.2.2.2.2.2.2.1,y.1.2.2.2.2.2.2.2.2.2⟩],u⟩,?_,by simp only[jy,g9];omega⟩;have k1:(rN s).k_≠15:=by rw[ZT];exact h1
  have k2:(rN s).k_≠16:=by rw[ZT];exact h2
  unfold q3j;simp only[jl];rw[jv (by simp only[zj];omega),zg hi,hn,jj,jv k1];simp only[jj,zi,e1];rw[jv (gm k2),Zz (by omega) (by omega)];simp only[jj];rw[zw (by omega)]
theorem zv9{p q r}{a b c d:Int}{n s:RNd}{out t:Sl RIx}(h:out.xs.length+t.xs.length<=90000):∃o,lpO (q50 p q r) (a,b,c,d,0,n,out,s,t)=w (a,b,c,d,n,o,s)/\o.xs=out.xs++t.xs:=by
 obtain⟨o,h1,h2⟩:=go (f:=q50 p q r) (n:=t.xs.length) (A:=Sl RIx) (st:=λi o=>(a,b,c,d,(i:Int),n,o,s,t)) (fin:=λo=>(a,b,c,d,n,o,s)) (J:=λi o=>o.xs=out.xs++t.xs.take i)
  (λi hi o ho=>by
   have:=congrArg D ho;simp only[jy,Do] at this;refine⟨⟨o.xs++[t.xs[i]],u⟩,?_,by simp only;rw[ho,Df,DI hi]⟩;unfold q50;simp only[jl,zi]
   rw[jv (by simp only[zj];omega),zg hi,jj,jj,Zz (by omega) (by omega),jj,zw (by omega)])
  (λo ho=>by
   unfold q50;simp only[jl,zi]
   rw[jx (by simp only[zj];omega)])
  (a:=out) (by simp)
 grind
theorem zBz{p q r}{a b:Int}{n:RNd}{out t:Sl RIx}(h:out.xs.length+t.xs.length<=90000):∃o,lpO (q51 p q r) (a,b,0,n,out,t)=w (a,b,n,o)/\o.xs=out.xs++t.xs:=by
 obtain⟨o,h1,h2⟩:=go (f:=q51 p q r) (n:=t.xs.length) (A:=Sl RIx) (st:=λi o=>(a,b,(i:Int),n,o,t)) (fin:=λo=>(a,b,n,o)) (J:=λi o=>o.xs=out.xs++t.xs.take i)
  (λi hi o ho=>by
   have:=congrArg D ho;simp only[jy,Do] at this;refine⟨⟨o.xs++[t.xs[i]],u⟩,?_,by simp only;rw[ho,Df,DI hi]⟩;unfold q51;simp only[jl,zi]
   rw[jv (by simp only[zj];omega),zg hi,jj,jj,Zz (by omega) (by omega),jj,zw (by omega)])
  (λo ho=>by
   unfold q51;simp only[jl,zi]
   rw[jx (by simp only[zj];omega)])
  (a:=out) (by simp)
 grind
theorem Ls.to{Q:QK->Prop}{l:Sl CIx}{k:Nat}{v:CIx}(hk:k < l.xs.length)(e:l.xs[k]=v):Ls Q 0 l (l.set (k:Int) ⟨v.O_,v.a_,v.X_,v.Y_,v.A_,v.B_,v.Q_,l.len,v.h_⟩):=
 Ls.set hk λg=>by subst e;exact⟨⟨by simp only[zj];omega,by simp only[zj];omega⟩,g.y,g.a,g.b,g.l,g.x,g.c,g.f⟩
theorem zfj{hb}{n:Nd}{l:Sl CIx}(h:n.k_=15\/n.k_=16):q23 hb (n,l)=q2l hb (n,l):=by
 unfold q23 q5p;have key:∀o:U7 (Sl CIx),((o.bind λy3=>w (Sum.inl y3)).bind λy18:Sl CIx⊕_=>Sum.elim (λy19:Sl CIx=>w y19) (λy20:Sl CIx×(Int×Int×U5×U5×U5×Int×U5×Int×Int×Bool)×Sl qz=>(q2r (qm.mk y20.2.1.1 y20.2.1.2.1 y20.2.1.2.2.1 y20.2.1.2.2.2.1 ⟨y20.2.1.2.2.2.2.1,y20.2.1.2.2.2.2.2.1⟩ ⟨y20.2.1.2.2.2.2.2.2.1,y20.2.1.2.2.2.2.2.2.2.1⟩ y20.2.2 y20.2.1.2.2.2.2.2.2.2.2.1 y20.2.1.2.2.2.2.2.2.2.2.2,y20.1)).bind λy21=>w y21.2) y18)=o:=by
  intro o;cases o<;>rfl
 rcases h with h | h<;>
 ·simp (decide:=true) only [h,js,jr,jq,jp,jj,jk]
  first | rw[<- h,zm] | simp only[zm]
  exact key _
abbrev brI(a:Int)(op:U5)(x y:Nd):CIx:=⟨10,a,op,lit [],⟨x.T_,x.n_⟩,⟨y.T_,y.n_⟩,C [] B,0,B⟩
theorem zyv {op:U5}{n a:Int}{x y B1 B2:Nd}(hx:ZP x) (hy:ZP y) (h1:zfQ B1) (h2:zfQ B2) (hz:zl ⟨15,op,n,a,⟨[x,y,B1,B2],u⟩⟩<=40000) :
    zid ⟨15,op,n,a,⟨[x,y,B1,B2],u⟩⟩:=by
 have hs:zl ⟨15,op,n,a,⟨[x,y,B1,B2],u⟩⟩=zl x+(zl y+(zl B1+zl B2))+1:=by rw[zk];simp[zd]
 have px:=z6 x;have py:=z6 y;have p1:=z6 B1;have p2:=z6 B2;refine⟨λQ q0 q F l hF hl=>?_,λF fr i n' out hi hn hF ho hi2=>?_⟩
 · rw[zfj (.inl rfl)];unfold q2l q4t;obtain⟨_,q⟩:=q;have qx:Q (.n x.T_):=by obtain⟨h,_⟩:=q x (by simp);exact h.q (.inl hx.2)
   have qy:Q (.n y.T_):=by obtain⟨h,_⟩:=q y (by simp);exact h.q (.inl hy.2)
   have k0:q35 (⟨15,op,n,a,⟨[x,y,B1,B2],u⟩⟩,0)=w ⟨x.T_,x.n_⟩:=zaw _ 0;have k1:q35 (⟨15,op,n,a,⟨[x,y,B1,B2],u⟩⟩,1)=w ⟨y.T_,y.n_⟩:=zaw _ 1;have g2:za (⟨[x,y,B1,B2],u⟩:Sl Nd) 2=w B1:=rfl;have g3:za (⟨[x,y,B1,B2],u⟩:Sl Nd) 3=w B2:=rfl;simp only[k0,k1,jj,jl,g2,g3,zm];rw[jx (by show¬((4:Int) < 3);omega),x5 (by omega),jj];have s1:Ls Q 1 l ⟨l.xs++[brI a op x y],u⟩ :=.snoc ⟨⟨by simp,by simp;omega⟩,by simp,qx,qy,by simp,by simp,by simp,by simp⟩;obtain⟨l2,e2,m2⟩:=h1.1 Q q0 (q B1 (by simp)) F ⟨l.xs++[brI a op x y],u⟩ (by omega) (by have:=s1.b;omega);have t2:=s1.trans m2;have a2:=m2.a;have b2:=t2.b;simp only[jy,g9] at a2;simp only[e2,jj];rw[x5 (by omega)];simp only[jj];rw[zg (by simp only[jy,g9];omega)];simp only[jj,jq];rw[jv (by rfl)];have t3:=t2.trans (.snoc (i:=⟨11,a,lit [],lit [],⟨lit [],0⟩,⟨lit [],0⟩,C [] B,(l.xs.length:Int),B⟩) ⟨⟨by simp,by simp only;omega⟩,by simp,q0,q0,by simp,by simp,by simp,by simp⟩);generalize hv:Sl.set _ _ _=l4;have t4:Ls Q (1+(zl B1 - 1)+1+0) l l4:=by rw[<- hv];exact t3.trans (.to (k:=l.xs.length) (by simp only[jy,g9];omega) rfl)
   have a4:=t4.a;have b4:=t4.b;obtain⟨l5,e5,m5⟩:=h2.1 Q q0 (q B2 (by simp)) F l4 (by omega) (by omega);have l4l:l4.xs.length=l2.xs.length+1:=by rw[<- hv];simp[Sl.set]
   have a5:=m5.a;simp only[g3,e5,jj];rw[zg (by omega)];refine⟨_,rfl,((t4.trans m5).trans (.to (by omega) rfl)).mono (by omega)⟩
 · unfold q3j;have r0:=rk0 (n:=⟨15,op,n,a,⟨[x,y,B1,B2],u⟩⟩) rfl;have r1:=rk1 (n:=⟨15,op,n,a,⟨[x,y,B1,B2],u⟩⟩) rfl;have r2:za (rN ⟨15,op,n,a,⟨[x,y,B1,B2],u⟩⟩).K_ 2=w (rN B1):=by rw[zF];rfl
   have r3:za (rN ⟨15,op,n,a,⟨[x,y,B1,B2],u⟩⟩).K_ 3=w (rN B2):=by rw[zF];rfl
   simp only[jl];rw[jv (by simp only[zj];omega),zg hi,hn,jj];have hK:(rN ⟨15,op,n,a,⟨[x,y,B1,B2],u⟩⟩).k_=15:=ZT _;generalize rN ⟨15,op,n,a,⟨[x,y,B1,B2],u⟩⟩=S at *
   simp only[zi];simp (decide:=true) only [hK,jp,jj,jr,jk,r0,r1,r2,r3,zfP];obtain⟨o1,e1,q1⟩:=h1.2 F (U8 (U8 (fr+out.len)+1)) (by omega) (by omega);rw[e1,jj,Zz (by omega) (by omega),jj]
   obtain⟨o2,e2,m2⟩:=zv9 (p:=q21) (q:=q1y) (r:=q2h F) (a:=fr) (b:=(i:Int)) (c:=U8 (fr+out.len)) (d:=U8 (U8 (U8 (fr+out.len)+1)+o1.len)) (n:=n') (s:=S)
    (out:=⟨out.xs++[⟨10,S.a_,S.T_,lit [],⟨(rN x).T_,(rN x).n_⟩,⟨(rN y).T_,(rN y).n_⟩,C [] B,U8 (U8 (U8 (U8 (fr+out.len)+1)+o1.len)+1),B⟩],u⟩) (t:=o1) (by simp only[jy,g9];omega)
   have n2:=congrArg D m2;simp only[jy,g9] at n2;rw[e2];simp only[jj];obtain⟨o3,e3,n3⟩:=h2.2 F (U8 (U8 (U8 (U8 (fr+out.len)+1)+o1.len)+1)) (by omega) (by omega);rw[jx (by rw[hK];decide),r3];simp only[jj,zi,e3];rw[Zz (by omega) (by omega),jj]
   obtain⟨o4,e4,m4⟩:=zBz (p:=q21) (q:=q1y) (r:=q2h F) (a:=fr) (b:=(i:Int)) (n:=n')
    (out:=⟨o2.xs++[⟨11,S.a_,lit [],lit [],⟨lit [],0⟩,⟨lit [],0⟩,C [] B,U8 (U8 (U8 (U8 (U8 (fr+out.len)+1)+o1.len)+1)+o3.len),B⟩],u⟩) (t:=o3) (by simp only[jy,g9];omega)
   rw[e4];simp only[jj];rw[zw (by omega)];exact⟨_,rfl,by rw[m4];simp only[jy,g9];omega⟩
theorem zyw {op:U5}{n a:Int}{x y B1:Nd}(hx:ZP x) (hy:ZP y) (h1:zfQ B1) (hz:zl ⟨16,op,n,a,⟨[x,y,B1],u⟩⟩<=40000) :
    zid ⟨16,op,n,a,⟨[x,y,B1],u⟩⟩:=by
 have hs:zl ⟨16,op,n,a,⟨[x,y,B1],u⟩⟩=zl x+(zl y+zl B1)+1:=by rw[zk];simp[zd]
 have px:=z6 x;have py:=z6 y;have p1:=z6 B1;refine⟨λQ q0 q F l hF hl=>?_,λF fr i n' out hi hn hF ho hi2=>?_⟩
 · rw[zfj (.inr rfl)];unfold q2l q4t;obtain⟨_,q⟩:=q;have qx:Q (.n x.T_):=by obtain⟨h,_⟩:=q x (by simp);exact h.q (.inl hx.2)
   have qy:Q (.n y.T_):=by obtain⟨h,_⟩:=q y (by simp);exact h.q (.inl hy.2)
   have k0:q35 (⟨16,op,n,a,⟨[x,y,B1],u⟩⟩,0)=w ⟨x.T_,x.n_⟩:=zaw _ 0;have k1:q35 (⟨16,op,n,a,⟨[x,y,B1],u⟩⟩,1)=w ⟨y.T_,y.n_⟩:=zaw _ 1;have g2:za (⟨[x,y,B1],u⟩:Sl Nd) 2=w B1:=rfl;simp only[k0,k1,jj,jl,g2,zm];rw[jx (by show¬((3:Int) < 3);omega),x5 (by omega),jj];have s1:Ls Q 1 l ⟨l.xs++[brI a op x y],u⟩ :=.snoc ⟨⟨by simp,by simp;omega⟩,by simp,qx,qy,by simp,by simp,by simp,by simp⟩;obtain⟨l2,e2,m2⟩:=h1.1 Q q0 (q B1 (by simp)) F ⟨l.xs++[brI a op x y],u⟩ (by omega) (by grind);have t2:=s1.trans m2;have a2:=m2.a;have b2:=t2.b;simp only[jy,g9] at a2;simp only[e2,jj];rw[x5 (by omega)];simp only[jj];rw[zg (by grind)];simp (decide:=true) only [jj,jp,jk];have t3:=t2.trans (.snoc (i:=⟨11,a,lit [],lit [],⟨lit [],0⟩,⟨lit [],0⟩,C [] B,(l.xs.length:Int),B⟩) ⟨⟨by simp,by grind⟩,by simp,q0,q0,by simp,by simp,by simp,by simp⟩);exact⟨_,rfl,(t3.trans (.to (k:=l.xs.length) (by grind) rfl)).mono (by omega)⟩
 · unfold q3j;have r0:=rk0 (n:=⟨16,op,n,a,⟨[x,y,B1],u⟩⟩) rfl;have r1:=rk1 (n:=⟨16,op,n,a,⟨[x,y,B1],u⟩⟩) rfl;have r2:za (rN ⟨16,op,n,a,⟨[x,y,B1],u⟩⟩).K_ 2=w (rN B1):=by rw[zF];rfl
   simp only[jl];rw[jv (by simp only[zj];omega),zg hi,hn,jj];have hK:(rN ⟨16,op,n,a,⟨[x,y,B1],u⟩⟩).k_=16:=ZT _;generalize rN ⟨16,op,n,a,⟨[x,y,B1],u⟩⟩=S at *
   simp only[zi];simp (decide:=true) only [hK,jp,jq,jj,jr,jk,r0,r1,r2,zfP];obtain⟨o1,e1,q1⟩:=h1.2 F (U8 (U8 (fr+out.len)+1)) (by omega) (by omega);rw[e1,jj,Zz (by omega) (by omega),jj]
   obtain⟨o2,e2,m2⟩:=zv9 (p:=q21) (q:=q1y) (r:=q2h F) (a:=fr) (b:=(i:Int)) (c:=U8 (fr+out.len)) (d:=U8 (U8 (U8 (fr+out.len)+1)+o1.len)) (n:=n') (s:=S)
    (out:=⟨out.xs++[⟨10,S.a_,S.T_,lit [],⟨(rN x).T_,(rN x).n_⟩,⟨(rN y).T_,(rN y).n_⟩,C [] B,U8 (U8 (U8 (U8 (fr+out.len)+1)+o1.len)+1),B⟩],u⟩) (t:=o1) (by grind)
   have n2:=congrArg D m2;simp only[jy,g9] at n2;rw[e2];simp only[jj];rw[jv hK,Zz (by omega) (by omega)];simp only[jj];rw[zw (by omega)];grind
theorem zmx{s:Nd}(h:StmtG s)(hs:zl s<=40000):zid s:=by
 have blk:∀(a:Int) (b:List Nd),(∀s∈b,zl s<=40000->zid s)->zl ⟨9,lit [],0,a,mkS b⟩<=40000->zfQ ⟨9,lit [],0,a,mkS b⟩:=λa b ih hz=>zd1 λs hs=>ih s hs (by have:=@ZX ⟨9,lit [],0,a,mkS b⟩ s hs;omega)
 induction h with
 | @ite op n a x y b1 a1 b2 a2 hx hy h1 h2 i1 i2=>
  exact zyv hx hy (blk a1 _ i1 (by rw[zk] at hs;simp[zd] at hs;omega)) (blk a2 _ i2 (by rw[zk] at hs;simp[zd] at hs;omega)) hs
 | @whl op n a x y b1 a1 hx hy h1 i1=>exact zyw hx hy (blk a1 _ i1 (by rw[zk] at hs;simp[zd] at hs;omega)) hs
 | @leaf k t n a c=>exact Vs (.leaf c) hs (by grind) (by grind)
 |ret c=>exact Vs (.ret c) hs (by simp) (by simp)
 |fork c=>exact Vs (.fork c) hs (by simp) (by simp)
 |call c=>exact Vs (.call c) hs (by simp) (by simp)
 |store c d=>exact Vs (.store c d) hs (by simp) (by simp)
 |set c=>exact Vs (.set c) hs (by simp) (by simp)
def zjq(Q:QK->Prop)(l:List CIx):Prop:=∃l0 i,l=l0++[i]/\i.O_=14/\∀j∈l,Gi Q l0.length j
theorem zpP{Q:QK->Prop}{k:Nd}(h:FnG k)(hs:zl k<=40000)(q0:Q (.n (lit [])))(q:∀b∈k.K_.xs,b.k_=9->AllN (pQ Q) b):∃c,q4x k=w c/\c.L_.xs.length<=40000/\zjq Q c.L_.xs:=by
 obtain⟨h6,ps,r,b,hk,hp,hr,hr8,hb⟩:=h;have hk':=congrArg Sl.xs hk;simp only at hk';obtain⟨a,l,rfl,hl⟩:=hb;have hsz:=ZX (n:=k) (k:=⟨9,lit [],0,a,mkS l⟩) (by rw[hk'];simp);have hL:zfQ ⟨9,lit [],0,a,mkS l⟩:=zd1 λs hs=>zmx (hl s hs) (by have:=@ZX ⟨9,lit [],0,a,mkS l⟩ s hs;omega)
 have hlen:k.K_.xs.length=ps.length+2:=by rw[hk'];simp
 have hkl:=@Zl k;have hsp:=z6 ⟨9,lit [],0,a,mkS l⟩
 obtain⟨⟨P,l1⟩,e1,e2,e3⟩:=go (f:=qdk q8u q2r) (n:=k.K_.xs.length) (A:=Sl U5×Sl CIx) (st:=λi a=>(k.K_,k.K_.len,(i:Int),lit [],k.T_,a.1,a.2)) (fin:=λa=>(lit [],k.T_,a.1,a.2))
  (J:=λi a=>a.1.xs.length<=i/\if i=k.K_.xs.length then a.2.xs.length<=40000/\zjq Q a.2.xs else a.2.xs=[])
  (λi hi P hP=>by
   obtain⟨P,l1⟩:=P;obtain⟨hP,hl1⟩:=hP;simp only at hP hl1;rw[jx (by omega)] at hl1;unfold qdk;simp only[jl,zm];rw[jv (by simp only[zj];omega),zg hi,jj];have wk:=@zw i (by omega);by_cases c:i < ps.length
   ·have hx:k.K_.xs[i]=ps[i]:=by grind
    refine⟨(⟨P.xs++[k.K_.xs[i].T_],u⟩,l1),?_,by simp;omega,by grind⟩;rw[jv (by rw[hx];exact(hp _ (gc c)).1),Zz (by omega) (by omega)];grind
   by_cases c2:i=ps.length
   ·have hx:k.K_.xs[i]=r:=by grind
    refine⟨(P,l1),?_,by grind,by grind⟩;grind
   ·obtain rfl:i=ps.length+1:=by omega
    have hx:k.K_.xs[ps.length+1]=⟨9,lit [],0,a,mkS l⟩:=by grind
    obtain⟨l2,f1,f2⟩:=hL.1 Q q0 (q _ (by rw[hk'];simp) rfl) 100000 l1 (by omega) (by grind);have n2:=f2.b;rw[hl1,List.length_nil] at n2;refine⟨(P,⟨l2.xs++[⟨14,a,lit [],lit [],⟨lit [],0⟩,⟨lit [],0⟩,C [] B,0,B⟩],u⟩),?_,by grind,?_⟩
    ·rw[hx,jx (by grind),jv (by rfl)];show(((((q2p 100000 (_,l1)).bind _)).bind _).bind _)=_;rw[f1,jj,x5 (by omega)];grind
    ·rw[jv (by omega)];refine⟨by grind,l2.xs,_,rfl,rfl,λj hj=>?_⟩;rcases U9.1 hj with hj | hj
     ·exact f2.g (by rw[hl1];simp) j hj
     ·rw[D2] at hj;subst hj;exact⟨⟨by simp,by simp⟩,by simp,q0,q0,by simp,by simp,by simp,by simp⟩)
  (λP hP=>by
   unfold qdk;simp only[jl]
   rw[jx (by simp only[zj];omega)])
  (a:=(C [] B,C [] B)) ⟨by simp,by grind⟩
 rw[jv rfl] at e3;refine⟨⟨k.T_,P,l1⟩,?_,e3⟩;unfold q4x qfe;rw[jx (by simp[h6])];exact congrArg (λo=>E o λy7:U5×U5×Sl U5×Sl CIx=>w (q1j.mk y7.2.1 y7.2.2.1 y7.2.2.2)) e1
theorem zn1{k:Nd}(h:FnG k)(hs:zl k<=40000):∃rc,q2d (rN k)=w rc:=by
 obtain⟨h6,ps,r,b,hk,hp,hr,hr8,hb⟩:=h;have hk':=congrArg Sl.xs hk;simp only at hk';obtain⟨a,l,rfl,hl⟩:=hb;have hsz:=ZX (n:=k) (k:=⟨9,lit [],0,a,mkS l⟩) (by rw[hk'];simp);have hL:zfQ ⟨9,lit [],0,a,mkS l⟩:=zd1 λs hs=>zmx (hl s hs) (by have:=@ZX ⟨9,lit [],0,a,mkS l⟩ s hs;omega)
 have hlen:k.K_.xs.length=ps.length+2:=by rw[hk'];simp
 have hkl:=@Zl k;have ek:(rN k).K_.xs=k.K_.xs.map rN:=by rw[zF]
 have ekl:(rN k).K_.xs.length=k.K_.xs.length:=by rw[ek];simp
 obtain⟨P2,g1,g2⟩:=go (f:=q52 q4e) (n:=ps.length) (A:=Sl U5) (st:=λi a=>(((ps.length+1:Nat):Int),(i:Int),rN k,lit [],k.T_,a)) (fin:=λa=>(((ps.length+1:Nat):Int),rN k,lit [],k.T_,a))
  (J:=λi a=>a.xs.length<=i)
  (λi hi P hP=>by
   refine⟨⟨P.xs++[((rN k).K_.xs[i]'(by omega)).T_],u⟩,?_,by simp;omega⟩;unfold q52;simp only[jl,zi]
   rw[zK (by omega) (by omega),jv (by omega),zg (by omega),jj,Zz (by omega) (by omega),jj,zw (by omega)])
  (λP hP=>by
   unfold q52;simp only[jl,zi]
   rw[zK (by omega) (by omega),jx (by omega)])
  (a:=C [] B) (by simp)
 obtain⟨out,o1,o2⟩:=hL.2 100000 0 (by omega) (by omega);have hlast:za (rN k).K_ ((ps.length+1:Nat):Int)=w (rN ⟨9,lit [],0,a,mkS l⟩):=by
  rw[zg (by omega)];grind
 refine⟨(k.T_,P2,⟨out.xs++[⟨14,(rN ⟨9,lit [],0,a,mkS l⟩).a_,lit [],lit [],⟨lit [],0⟩,⟨lit [],0⟩,C [] B,0,B⟩],u⟩),?_⟩
 ·unfold q2d q8b;have hw:U8 ((rN k).K_.len - 1)=((ps.length+1:Nat):Int):=by rw[zj,ekl,hlen,zK (by omega) (by omega)];omega
  simp only[hw,zi];simp only[zZ];have g1:lpO (q52 q4e) (((ps.length+1:Nat):Int),0,rN k,lit [],k.T_,C [] B)=_:=g1;have o1:q4e (rN ⟨9,lit [],0,a,mkS l⟩,0)=_:=o1;rw[g1];simp only[jj,hlast,o1];rw[Zz (by omega) (by omega)];rfl
end Go.Px
