/- Part Lf. -/
import Derived.Test.YtdmfcbmibjojpaaGreatDoorLe
set_option linter.unusedVariables false
set_option linter.unusedSimpArgs false
namespace Go.Px
open Bool renaming true->w,false->B
open List renaming length->E,take->G
open _root_.Option renaming some->u,bind->D
open Sl renaming mk->C
theorem DE:∀{α : Type _} {l : List α} {i : Nat} (h : i < l.length),G i l++[l[i]] = G (i + 1) l:=@List.take_append_getElem
inductive AllN(p:Nd->Prop):Nd->Prop
 |mk {n:Nd}:p n->(∀k∈n.K_.xs,AllN p k)->AllN p n
theorem AllN.mono{p q:Nd->Prop}(h:∀n,p n->q n){n:Nd}(a:AllN p n):AllN q n:=by
 induction a with
 |mk a b ih=>exact .mk (h _ a) ih
theorem zmi{p:Nd->Prop}(h:∀n,p n)(n:Nd):AllN p n:=by
 have:∀(m:Nat) (n:Nd),zl n<=m->AllN p n:=by
  intro m
  induction m with
  |zero=>intro n hn;have:=zZ n;omega
  |succ m ih=>exact λn hn =>.mk (h n) λk hk=>ih k (by have:=ZX hk;omega)
 exact this _ n (UJ _)
abbrev CIx:=ql
structure Gi(Q:U3 U0->Prop)(N:Nat)(i:CIx):Prop where
 t:0<=i.W_/\i.W_<=N
 y:5<=i.O_->i.O_<=9->Q none
 a:Q (u i.A_.n_)
 b:Q (u i.B_.n_)
 l:i.Q_.xs.length<=50000/\∀t∈i.Q_.xs,Q (u t.n_)
theorem Gi.mono{Q:U3 U0->Prop}{N M:Nat}{i:CIx}(h:Gi Q N i)(hm:N<=M):Gi Q M i:=⟨⟨h.t.1,by have:=h.t.2;omega⟩,h.y,h.a,h.b,h.l⟩
structure pQ(Q:U3 U0->Prop)(n:Nd):Prop where
 q:n.k_=5\/n.k_=24\/n.k_=26\/n.k_=27->Q (u n.T_)
 y:11<=n.k_/\n.k_<=14\/n.k_=25->Q none
theorem go {S R A:Type}{f:S->U3 (Step S R)}{n:Nat}{st:Nat->A->S}{fin:A->R}{J:Nat->A->Prop}
    (h:∀i,i < n->∀a,J i a->∃a',f (st i a)=u (.next (st (i+1) a'))/\J (i+1) a') (h0:∀a,J n a->f (st n a)=u (.done (fin a))) {a:A} (ha:J 0 a) :
    ∃a',lpO f (st 0 a)=u (fin a')/\J n a':=by
 have:∀(m i:Nat) (a:A),i+m=n->J i a->∃a',lpO f (st i a)=u (fin a')/\J n a':=by
  intro m
  induction m with
  |zero=>
   intro i a hi ha;obtain rfl:i=n:=by omega
   exact⟨a,zw (h0 a ha),ha⟩
  |succ m ih=>
   intro i a hi ha;obtain⟨a',h1,h2⟩:=h i (by omega) a ha;obtain⟨b,h3,h4⟩:=ih (i+1) a' (by omega) h2;exact⟨b,by rw[zB h1,h3],h4⟩
 exact this n 0 a (by omega) ha
theorem Zw{α:Type}{b:Nat}{s:Sl α}{x:α}(hb:b<=1000000)(h:s.xs.length<=100000):zo b s [x]=u ⟨s.xs++[x],w⟩:=by
 have:(s.xs.length+[x].length) * b<=100001 * 1000000:=Nat.mul_le_mul (by simp;omega) hb;rw[yF (by omega) (by simp;omega)];simp
theorem zmj{Q:U3 U0->Prop}(n:Nd)(hn:n.K_.xs.length<=50000):∃l,qbw n=u l/\l.xs.length<=50000/\((∀k∈n.K_.xs,Q (u k.T_))->∀t∈l.xs,Q (u t.n_)):=by
 obtain⟨l,h,hl,hm⟩:=go (f:=qdn qal) (n:=n.K_.xs.length) (A:=Sl qz) (st:=λi a=>(n.K_,n.K_.len,(i:Int),a)) (fin:=λa=>a) (J:=λi a=>a.xs.length=i/\((∀k∈n.K_.xs,Q (u k.T_))->∀t∈a.xs,Q (u t.n_)))
  (λi hi a ha=>by
   obtain⟨hal,ha⟩:=ha;refine⟨⟨a.xs++[⟨n.K_.xs[i].T_,n.K_.xs[i].N_⟩],w⟩,?_,by simp[hal],λhq t ht=>?_⟩
   rotate_left
   ·rcases U5.1 ht with ht | ht
    all_goals grind
   unfold qdn;simp only[jl];rw[jv (by simp only[zi];omega),ze hi,jj];show((u _).bind _)=_
   rw[jj,Zw (by omega) (by omega),jj,zx (by omega)])
  (λa ha=>by
   unfold qdn;simp only[jl]
   rw[jx (by simp only[zi];omega)])
  (a:=C [] B) ⟨rfl,by simp⟩
 exact⟨l,congrArg (λo=>D o λy=>u y) h,by omega,hm⟩
def kT(n:Nd)(i:Nat):qz:=(n.K_.xs[i]?).elim ⟨lit [],0⟩ λx=>⟨x.T_,x.N_⟩
theorem zan(n:Nd)(i:Nat):q36 (n,(i:Int))=u (kT n i):=by
 unfold q36 qg6 kT;simp only[jl];split
 ·rename_i h;rw[UO (by simp only[zi] at h;omega)];rfl
 ·rename_i h;have hi:i < n.K_.xs.length:=by simp only[zi] at h;omega
  rw[ze hi,UI hi];rfl
theorem zpx{Q:U3 U0->Prop}{n:Nd}{i:Nat}(q0:Q (u (lit [])))(h:∀k∈n.K_.xs,Q (u k.T_)):Q (u (kT n i).n_):=by
 unfold kT;grind
def zmk(n:Nd):Nd:=(n.K_.xs[0]?).getD ve
theorem zxV(n:Nd):q7g n=u (zmk n)/\(zmk n).K_.xs.length<=zl n:=by
 unfold q7g qem zmk;simp only[jl];split
 ·rename_i h;have:n.K_.xs=[]:=by simp only[zi] at h;exact UP (by omega)
  rw[this];exact⟨rfl,by simp[ve]⟩
 ·rename_i h;have h0:0 < n.K_.xs.length:=by simp only[zi] at h;omega
  rw[show(0:Int)=((0:Nat):Int) from rfl,ze h0,UI h0];refine⟨by simp only[jj,Option.getD_some,zm],?_⟩;have h1:=ZX (gc h0);have h2:=@Zl n.K_.xs[0];grind
theorem xX{i:CIx}{l:Sl CIx}(h:l.xs.length<=50000):q2q (i,l)=u ((l.xs.length:Int),⟨l.xs++[i],w⟩):=by
 unfold q2q qc3;rw[Zw (by omega) (by grind)];simp only[jj,zi,jy,g9];rw[zD (by omega) (by omega)];congr 2;omega
def One(Q:U3 U0->Prop)(r:U3 (Sl CIx))(l:Sl CIx):Prop:=∃i,r=u ⟨l.xs++[i],w⟩/\Gi Q 0 i
theorem zA0{Q:U3 U0->Prop}{n e:Nd}{l:Sl CIx}(h:l.xs.length<=50000)(he:e.K_.xs.length<=50000)(g:ExprG e)(a:AllN (pQ Q) e)(q0:Q (u (lit []))):One Q (q6s (n,e,l)) l:=by
 obtain⟨sa,h2,aL,a2⟩:=zmj (Q:=Q) e he;have h0:=zan e 0;have h1:=zan e 1;obtain⟨q,qk⟩:=a;have hq:(∀k∈e.K_.xs,ZP k)->∀k∈e.K_.xs,Q (u k.T_):=λt k hk=>by
  obtain⟨h,_⟩:=qk k hk;exact h.q (.inl (t k hk).2)
 have z:(0:Int)<=0/\(0:Int)<=(0:Nat):=⟨by omega,by omega⟩;have n0:([]:List qz).length<=50000/\∀t∈([]:List qz),Q (u t.n_):=by simp
 have t0:=@zpx Q e 0 q0;have t1:=@zpx Q e 1 q0;obtain⟨k,t,m,a,ks⟩:=e;have h0:q36 (⟨k,t,m,a,ks⟩,0)=_:=h0;have h1:q36 (⟨k,t,m,a,ks⟩,1)=_:=h1;have ht:∀n:Nd,qal n=u ⟨n.T_,n.N_⟩:=λn=>rfl
 unfold q6s qc4;cases g with
 |term h5=>
  obtain rfl:k=5:=h5;simp (decide:=true) only [jj,jp,xX h,ht,jr,jk];exact⟨_,rfl,z,by simp,q.q (.inl rfl),q0,n0⟩
 |leaf h5=>
  rcases h5 with h5 | h5 | h5 | h5<;>obtain rfl:k=_:=h5<;>simp (decide:=true) only [jj,jq,jp,xX h,js,ht,jr,jk]
  ·exact⟨_,rfl,z,by simp,q0,q0,n0⟩
  ·exact⟨_,rfl,z,by simp,q.q (by simp),q0,n0⟩
  ·exact⟨_,rfl,z,by simp,q.q (by simp),q0,n0⟩
  ·exact⟨_,rfl,z,by simp,q.q (by simp),q0,n0⟩
 |call h5=>
  obtain⟨h5,h6⟩:=h5;obtain rfl:k=28:=h5;simp (decide:=true) only [jj,jq,jp,xX h,js,ht,jr,jk,h2];exact⟨_,rfl,z,by simp,q0,q0,aL,a2 (hq h6)⟩
 |load h5 h6 h7=>
  obtain rfl:k=25:=h5;simp (decide:=true) only [jj,jq,jp,xX h,js,ht,jr,jk,h0];exact⟨_,rfl,z,λ_ _=>q.y (by simp),t0 (hq (by grind)),q0,n0⟩
 |two h5 h6 h7 h8=>
  have hq:=hq (by grind);rcases h5 with h5 | h5<;>obtain rfl:k=_:=h5<;>simp (decide:=true) only [jj,jq,jp,xX h,js,ht,jr,jk,h0,h1]
  ·exact⟨_,rfl,z,λh _=>absurd h (show¬ 5<=U4 (1+U4 (21 - 21)) by decide),t0 hq,t1 hq,n0⟩
  ·exact⟨_,rfl,z,λh _=>absurd h (show¬ 5<=U4 (1+U4 (22 - 21)) by decide),t0 hq,t1 hq,n0⟩
theorem zxW{Q:U3 U0->Prop}{hb:Nd×Sl CIx->U3 (Sl CIx)}{n:Nd}{l:Sl CIx}(h:l.xs.length<=50000)(hn:zl n<=50000)(g:StmtG n)(a:AllN (pQ Q) n)(q0:Q (u (lit [])))(h1:n.k_≠15)(h2:n.k_≠16):One Q (q20 hb (n,l)) l:=by
 have k0:=zan n 0;have k1:=zan n 1;obtain⟨sa,k2,aL,a2⟩:=zmj (Q:=Q) n (by have:=@Zl n;omega);obtain⟨k3,hf⟩:=zxV n;obtain⟨q,qk⟩:=a;have hq:(∀k∈n.K_.xs,ZP k)->∀k∈n.K_.xs,Q (u k.T_):=λt k hk=>by
  obtain⟨h,_⟩:=qk k hk;exact h.q (.inl (t k hk).2)
 have z:(0:Int)<=0/\(0:Int)<=(0:Nat):=⟨by omega,by omega⟩;have n0:([]:List qz).length<=50000/\∀t∈([]:List qz),Q (u t.n_):=by simp
 have t0:=@zpx Q n 0 q0;have t1:=@zpx Q n 1 q0;unfold q20 q5s;cases g with
 | @leaf k t m a c=>
  have k0:q36 (⟨k,t,m,a,nilS⟩,0)=_:=k0;rcases c with rfl | rfl | rfl | rfl | rfl<;>simp (decide:=true) only [jj,jq,xX h,js,jp,jr,jk,k0,jm]
  ·exact⟨_,rfl,z,λ_ _=>q.y (by simp),q0,q0,n0⟩
  ·exact⟨_,rfl,z,λ_ _=>q.y (by simp),q0,q0,n0⟩
  ·exact⟨_,rfl,z,λ_ _=>q.y (by simp),q0,q0,n0⟩
  ·exact⟨_,rfl,z,by simp,t0 (by simp),q0,n0⟩
  ·exact⟨_,rfl,z,by simp,q0,q0,n0⟩
 |ite=>grind
 |whl=>grind
 | @ret t m a x c=>
  have k0:q36 (⟨17,t,m,a,⟨[x],w⟩⟩,0)=_:=k0;simp (decide:=true) only [jj,jq,xX h,js,jp,jr,jk,k0,jm];exact⟨_,rfl,z,by simp,t0 (hq (by simpa using c)),q0,n0⟩
 | @fork t m a ks c=>
  simp (decide:=true) only [jj,jq,xX h,js,jp,jr,jk,k2,jm];exact⟨_,rfl,z,by simp,q0,q0,aL,a2 (hq c)⟩
 | @call t m a x c=>
  have k3:q7g ⟨20,t,m,a,⟨[x],w⟩⟩=u x:=k3;obtain⟨sx,k4,aL,a4⟩:=zmj (Q:=Q) x (show x.K_.xs.length<=50000 by grind);obtain⟨_,qx⟩:=qk x (by simp);simp (decide:=true) only [jj,jq,xX h,js,jp,jr,jk,k3,zm,k4,jm];exact⟨_,rfl,z,by simp,q0,q0,aL,a4 λk hk=>by obtain⟨h,_⟩:=qx k hk;exact h.q (.inl (c.2 k hk).2)⟩
 | @store t m a x y c d=>
  have k0:q36 (⟨11,t,m,a,⟨[x,y],w⟩⟩,0)=_:=k0;have k1:q36 (⟨11,t,m,a,⟨[x,y],w⟩⟩,1)=_:=k1;have hq:=hq (by grind);simp (decide:=true) only [jj,jq,xX h,js,jp,jr,jk,k0,k1,jm];exact⟨_,rfl,z,λ_ _=>q.y (by simp),t0 hq,t1 hq,n0⟩
 | @set t m a x c=>
  have k3:q7g ⟨10,t,m,a,⟨[x],w⟩⟩=u x:=k3;obtain⟨i,e1,e2⟩:=zA0 (n:=⟨10,t,m,a,⟨[x],w⟩⟩) h (show x.K_.xs.length<=50000 by grind) c (qk x (by simp)) q0;simp (decide:=true) only [jj,jq,js,k3,zm,e1,jo];exact⟨i,rfl,e2⟩
abbrev RIx:=qq
abbrev InT:=(Int×Int×U0×U0×U0×Int×U0×Int×Int×Bool)×Sl qp
theorem rk0{n x:Nd}{l:List Nd}{b:Bool}(h:n.K_=⟨x::l,b⟩):za (rN n).K_ 0=u (rN x):=by
 rw[zH,h,show(0:Int)=((0:Nat):Int) from rfl,ze (by simp)];rfl
theorem rk1{n x y:Nd}{l:List Nd}{b:Bool}(h:n.K_=⟨x::y::l,b⟩):za (rN n).K_ 1=u (rN y):=by
 rw[zH,h,show(1:Int)=((1:Nat):Int) from rfl,ze (by simp)];rfl
theorem zml(n:RNd):q1v n=u ⟨n.T_,n.N_⟩:=rfl
theorem zh0(n:Nd)(hn:n.K_.xs.length<=50000):∃l,q5o (rN n).K_=u l:=by
 have hl:(rN n).K_.xs.length=n.K_.xs.length:=by rw[zH];simp
 obtain⟨l,h,_⟩:=go (f:=q6l q1v) (n:=(rN n).K_.xs.length) (A:=Sl qp) (st:=λi a=>((rN n).K_,(i:Int),a)) (fin:=λa=>a) (J:=λi a=>a.xs.length=i)
  (λi hi a ha=>by
   refine⟨⟨a.xs++[⟨(rN n).K_.xs[i].T_,(rN n).K_.xs[i].N_⟩],w⟩,?_,by simp[ha]⟩;unfold q6l;simp only[jl];rw[jv (by simp only[zi];omega),ze hi,jj];show((u _).bind _)=_
   rw[jj,Zw (by omega) (by omega),jj,zx (by omega)])
  (λa ha=>by
   unfold q6l;simp only[jl]
   rw[jx (by simp only[zi];omega)])
  (a:=C [] B) rfl
 exact⟨l,congrArg (λo=>D o λy=>u y) h⟩
def zzu(r:U3 InT):Prop:=∃y,r=u y
theorem zzv{n e:Nd}(he:ExprG e)(hn:n.K_=⟨[e],w⟩)(hl:e.K_.xs.length<=50000):zzu (q6e (rN n)):=by
 obtain⟨sa,ht⟩:=zh0 e hl;unfold q6e qad;simp only[rk0 hn,jj,zj,zml,ZT];cases he with
 |term h1 h2=>
  simp (decide:=true) only [h1,jr,jp,jj,jk];exact⟨_,rfl⟩
 |leaf h1 h2=>
  rcases h1 with h1 | h1 | h1 | h1<;>
  ·simp (decide:=true) only [h1,jr,js,jp,jq,jj,jk];exact⟨_,rfl⟩
 |call h1=>
  simp (decide:=true) only [h1.1,jr,js,jp,jq,jj,jk,ht];exact⟨_,rfl⟩
 |load h1 h2 h3=>
  simp (decide:=true) only [h1,jr,js,jp,jq,jj,jk,rk0 h2];exact⟨_,rfl⟩
 |two h1 h2 h3 h4=>
  rcases h1 with h1 | h1<;>
  ·simp (decide:=true) only [h1,jr,js,jp,jq,jj,jk,rk0 h2,rk1 h2];exact⟨_,rfl⟩
theorem zuF{n:Nd}(h:StmtG n)(hn:zl n<=50000)(h1:n.k_≠15)(h2:n.k_≠16):zzu (q1y (rN n)):=by
 obtain⟨sa,ht⟩:=zh0 n (by have:=@Zl n;omega);have kl:∀{k:Nd} {n:Nd},n.K_=⟨[k],w⟩->zl n<=50000->k.K_.xs.length<=50000:=by
  intro k n e hn;have a:=@ZX n k (by rw[e];simp);have b:=@Zl k;omega
 unfold q1y q8a;simp only[zj];simp only[ZT];cases h with
 |leaf c=>
  have hk:∀(k:Int) (t:U0) (n a:Int),(Sl.len (rN ⟨k,t,n,a,nilS⟩).K_)=0:=by intros;rw[zH];rfl
  rcases c with rfl | rfl | rfl | rfl | rfl<;>
  ·simp (decide:=true) only [jr,js,jp,jq,jj,jk,hk];exact⟨_,rfl⟩
 |ite=>grind
 |whl=>grind
 | @ret t n a x c=>
  have hk:Sl.len (rN ⟨17,t,n,a,⟨[x],w⟩⟩).K_=1:=by rw[zH];rfl
  simp (decide:=true) only [jr,js,jp,jq,jj,jk,hk,rk0 (n:=⟨17,t,n,a,⟨[x],w⟩⟩) rfl,zml];exact⟨_,rfl⟩
 | @fork t n a ks c=>
  simp (decide:=true) only [jr,js,jp,jq,jj,jk,ht,YW,zX];exact⟨_,rfl⟩
 | @call t n a x c=>
  obtain⟨ax,hx⟩:=zh0 x (kl rfl hn);simp (decide:=true) only [jr,js,jp,jq,jj,jk,rk0 (n:=⟨20,t,n,a,⟨[x],w⟩⟩) rfl,hx];exact⟨_,rfl⟩
 | @store t n a x y c1 c2=>
  simp (decide:=true) only [jr,js,jp,jq,jj,jk,rk0 (n:=⟨11,t,n,a,⟨[x,y],w⟩⟩) rfl,rk1 (n:=⟨11,t,n,a,⟨[x,y],w⟩⟩) rfl,zml];exact⟨_,rfl⟩
 | @set t n a e c=>
  obtain⟨y,e1⟩:=zzv (n:=⟨10,t,n,a,⟨[e],w⟩⟩) c rfl (kl rfl hn);simp (decide:=true) only [jr,js,jp,jq,jj,jk,e1];exact⟨y,rfl⟩
structure Ls(Q:U3 U0->Prop)(m:Nat)(l l':Sl CIx):Prop where
 a:l.xs.length<=l'.xs.length
 b:l'.xs.length<=l.xs.length+m
 g:(∀i∈l.xs,Gi Q l.xs.length i)->∀i∈l'.xs,Gi Q l'.xs.length i
theorem Ls.trans{Q:U3 U0->Prop}{m k:Nat}{a b c:Sl CIx}(h:Ls Q m a b)(g:Ls Q k b c):Ls Q (m+k) a c:=⟨by have:=h.a;have:=g.a;omega,by have:=h.b;have:=g.b;omega,λx=>g.g (h.g x)⟩
theorem Ls.mono{Q:U3 U0->Prop}{m k:Nat}{a b:Sl CIx}(h:Ls Q m a b)(hk:m<=k):Ls Q k a b:=⟨h.a,by have:=h.b;omega,h.g⟩
theorem Ls.snoc{Q:U3 U0->Prop}{l:Sl CIx}{i:CIx}(h:Gi Q (l.xs.length+1) i):Ls Q 1 l ⟨l.xs++[i],w⟩:=by
 refine⟨by simp,by simp,λg j hj=>?_⟩;simp only[jy,g9];rcases U5.1 hj with hj | hj
 ·exact(g j hj).mono (by omega)
 grind
theorem Ls.set{Q:U3 U0->Prop}{l:Sl CIx}{k:Nat}{i:CIx}(hk:k < l.xs.length)(h:Gi Q l.xs.length l.xs[k]->Gi Q l.xs.length i):Ls Q 0 l (l.set (k:Int) i):=by
 refine⟨by simp[Sl.set],by simp[Sl.set],λg j hj=>?_⟩;simp only[Sl.set,Int.toNat_natCast,List.length_set] at hj |-
 grind
def zh1(s:Nd):Prop:=
 (∀Q:U3 U0->Prop,Q (u (lit []))->AllN (pQ Q) s->∀F (l:Sl CIx),zl s<=F->l.xs.length+zl s<=40000->∃l',q20 (q2o F) (s,l)=u l'/\Ls Q (zl s) l l')/\
 ∀F from_ (i:Nat) (n:RNd) (out:Sl RIx) (hi:i < n.K_.xs.length),n.K_.xs[i]=rN s->zl s<=F->out.xs.length+zl s<=40000->i < 100000->
  ∃out',q3j q1y q1v (q2f F) (from_,(i:Int),n,out)=u (.next (from_,((i+1:Nat):Int),n,out'))/\out'.xs.length<=out.xs.length+zl s
def zfD(b:Nd):Prop:=
 (∀Q:U3 U0->Prop,Q (u (lit []))->AllN (pQ Q) b->∀F (l:Sl CIx),zl b<=F->l.xs.length+zl b<=40000->∃l',q2o F (b,l)=u l'/\Ls Q (zl b - 1) l l')/\
 ∀F from_,zl b<=F->zl b<=40000->∃out,q2f F (rN b,from_)=u out/\out.xs.length+1<=zl b
theorem YX{l:List Nd}{i:Nat}(h:i < l.length):zd (l.take i)+zl l[i]<=zd l:=by
 have h1:zd (l.take i++l.drop i)=zd l:=by rw[List.take_append_drop]
 rw[zL,Dp h] at h1;simp only[zd] at h1;omega
theorem zgN{l:List Nd}{i:Nat}(h:i < l.length):zd (l.take (i+1))=zd (l.take i)+zl l[i]:=by
 rw[<- DE h,zL];simp[zd]
theorem zdO{b:Nd}(hg:∀s∈b.K_.xs,zh1 s):zfD b:=by
 have hsz:=zk b;have hk2:=@Zl b;refine⟨λQ q0 q F l hF hl=>?_,λF fr hF hb=>?_⟩
 ·obtain⟨_,q⟩:=q;obtain⟨F,rfl⟩:∃k,F=k+1:=⟨F - 1,by omega⟩
  obtain⟨l',h1,h2⟩:=go (f:=q80 (q20 (q2o F))) (n:=b.K_.xs.length) (A:=Sl CIx) (st:=λi a=>(b.K_,b.K_.len,(i:Int),a)) (fin:=λa=>a) (J:=λi a=>Ls Q (zd (b.K_.xs.take i)) l a)
   (λi hi a ha=>by
    have hm:=gc hi;have h4:=YX hi;have:=ha.b;obtain⟨a',e1,e2⟩:=(hg _ hm).1 Q q0 (q _ hm) F a (by omega) (by omega);refine⟨a',?_,by rw[zgN hi];exact ha.trans e2⟩;unfold q80;simp only[jl,zm]
    rw[jv (by simp only[zi];omega),ze hi,jj,e1,jj,zx (by omega)])
   (λa ha=>by
    unfold q80;simp only[jl]
    rw[jx (by simp only[zi];omega)])
   (a:=l) ⟨UJ _,by omega,λh=>h⟩
  rw[Ds] at h2;exact⟨l',congrArg (λo=>D o λy=>u y) h1,h2.mono (by omega)⟩
 ·obtain⟨F,rfl⟩:∃k,F=k+1:=⟨F - 1,by omega⟩
  have hk:(rN b).K_.xs=b.K_.xs.map rN:=by rw[zH]
  have hkl:(rN b).K_.xs.length=b.K_.xs.length:=by rw[hk];simp
  obtain⟨l',h1,h2⟩:=go (f:=q3j q1y q1v (q2f F)) (n:=b.K_.xs.length) (A:=Sl RIx) (st:=λi a=>(fr,(i:Int),rN b,a)) (fin:=λa=>a) (J:=λi a=>a.xs.length<=zd (b.K_.xs.take i))
   (λi hi a ha=>by
    have h4:=YX hi;obtain⟨a',e1,e2⟩:=(hg _ (gc hi)).2 F fr i (rN b) a (by omega) (by grind) (by omega) (by omega) (by omega)
    exact⟨a',e1,by rw[zgN hi];omega⟩)
   (λa ha=>by
    unfold q3j;simp only[jl]
    rw[jx (by simp only[zi,hkl];omega)])
   (a:=C [] B) (by simp)
  rw[Ds] at h2;refine⟨l',?_,by omega⟩;show((lpO _ (fr,0,kr (rN b),C [] B)).bind _)=_;rw[zj];grind
theorem Vk{s:Nd}(h:StmtG s)(hs:zl s<=40000)(h1:s.k_≠15)(h2:s.k_≠16):zh1 s:=by
 have hp:=zZ s;refine⟨λQ q0 q F l hF hl=>?_,λF fr i n out hi hn hF ho hi2=>?_⟩
 ·obtain⟨j,e1,e2⟩:=zxW (hb:=q2o F) (n:=s) (l:=l) (by omega) (by omega) h q q0 h1 h2;exact⟨_,e1,(Ls.snoc (e2.mono (UK _))).mono (by omega)⟩
 ·obtain⟨y,e1⟩:=zuF h (by omega) h1 h2;refine⟨⟨out.xs++[⟨y.1.1,y.1.2.1,y.1.2.2.1,y.1.2.2.2.1,⟨y.1.2.2.2.2.1,y.1.2.2.2.2.2.1⟩,⟨y.1.2.2.2.2.2.2.1,y.1.2.2.2.2.2.2.2.1⟩,y.2,y.1.2.2.2.2.2.2.2.2.1,y.1.2.2.2.2.2.2.2.2.2⟩],w⟩,?_,by grind⟩;have k1:(rN s).k_≠15:=by rw[ZT];exact h1
  have k2:(rN s).k_≠16:=by rw[ZT];exact h2
  unfold q3j;simp only[jl];rw[jv (by simp only[zi];omega),ze hi,hn,jj,jv k1];simp only[jj,zj,e1];rw[jv (gm k2),Zw (by omega) (by omega)];simp only[jj];rw[zx (by omega)]
theorem zvF{p q r}{a b c d:Int}{n s:RNd}{out t:Sl RIx}(h:out.xs.length+t.xs.length<=90000):∃o,lpO (q55 p q r) (a,b,c,d,0,n,out,s,t)=u (a,b,c,d,n,o,s)/\o.xs=out.xs++t.xs:=by
 obtain⟨o,h1,h2⟩:=go (f:=q55 p q r) (n:=t.xs.length) (A:=Sl RIx) (st:=λi o=>(a,b,c,d,(i:Int),n,o,s,t)) (fin:=λo=>(a,b,c,d,n,o,s)) (J:=λi o=>o.xs=out.xs++t.xs.take i)
  (λi hi o ho=>by
   have:=congrArg E ho;simp only[jy,Dk] at this;refine⟨⟨o.xs++[t.xs[i]],w⟩,?_,by simp only;rw[ho,Db,DE hi]⟩;unfold q55;simp only[jl,zj]
   rw[jv (by simp only[zi];omega),ze hi,jj,jj,Zw (by omega) (by omega),jj,zx (by omega)])
  (λo ho=>by
   unfold q55;simp only[jl,zj]
   rw[jx (by simp only[zi];omega)])
  (a:=out) (by simp)
 grind
theorem zA1{p q r}{a b:Int}{n:RNd}{out t:Sl RIx}(h:out.xs.length+t.xs.length<=90000):∃o,lpO (q56 p q r) (a,b,0,n,out,t)=u (a,b,n,o)/\o.xs=out.xs++t.xs:=by
 obtain⟨o,h1,h2⟩:=go (f:=q56 p q r) (n:=t.xs.length) (A:=Sl RIx) (st:=λi o=>(a,b,(i:Int),n,o,t)) (fin:=λo=>(a,b,n,o)) (J:=λi o=>o.xs=out.xs++t.xs.take i)
  (λi hi o ho=>by
   have:=congrArg E ho;simp only[jy,Dk] at this;refine⟨⟨o.xs++[t.xs[i]],w⟩,?_,by simp only;rw[ho,Db,DE hi]⟩;unfold q56;simp only[jl,zj]
   rw[jv (by simp only[zi];omega),ze hi,jj,jj,Zw (by omega) (by omega),jj,zx (by omega)])
  (λo ho=>by
   unfold q56;simp only[jl,zj]
   rw[jx (by simp only[zi];omega)])
  (a:=out) (by simp)
 grind
theorem Ls.to{Q:U3 U0->Prop}{l:Sl CIx}{k:Nat}{v:CIx}(hk:k < l.xs.length)(e:l.xs[k]=v):Ls Q 0 l (l.set (k:Int) ⟨v.O_,v.a_,v.X_,v.Y_,v.A_,v.B_,v.Q_,l.len,v.H_⟩):=
 Ls.set hk λg=>by subst e;exact⟨⟨by simp only[zi];omega,by simp only[zi];omega⟩,g.y,g.a,g.b,g.l⟩
theorem ze4{hb}{n:Nd}{l:Sl CIx}(h:n.k_=15\/n.k_=16):q20 hb (n,l)=q2j hb (n,l):=by
 unfold q20 q5s;have key:∀o:U3 (Sl CIx),((o.bind λy3=>u (Sum.inl y3)).bind λy18:Sl CIx⊕_=>Sum.elim (λy19:Sl CIx=>u y19) (λy20:Sl CIx×(Int×Int×U0×U0×U0×Int×U0×Int×Int×Bool)×Sl qz=>(q2q (ql.mk y20.2.1.1 y20.2.1.2.1 y20.2.1.2.2.1 y20.2.1.2.2.2.1 ⟨y20.2.1.2.2.2.2.1,y20.2.1.2.2.2.2.2.1⟩ ⟨y20.2.1.2.2.2.2.2.2.1,y20.2.1.2.2.2.2.2.2.2.1⟩ y20.2.2 y20.2.1.2.2.2.2.2.2.2.2.1 y20.2.1.2.2.2.2.2.2.2.2.2,y20.1)).bind λy21=>u y21.2) y18)=o:=by
  intro o;cases o<;>rfl
 rcases h with h | h<;>
 ·simp (decide:=true) only [h,js,jr,jq,jp,jj,jk]
  first | rw[<- h,zm] | simp only[zm]
  exact key _
abbrev brI(a:Int)(op:U0)(x y:Nd):CIx:=⟨10,a,op,lit [],⟨x.T_,x.N_⟩,⟨y.T_,y.N_⟩,C [] B,0,B⟩
theorem zxX {op:U0}{n a:Int}{x y B1 B2:Nd}(hx:ZP x) (hy:ZP y) (h1:zfD B1) (h2:zfD B2) (hz:zl ⟨15,op,n,a,⟨[x,y,B1,B2],w⟩⟩<=40000) :
    zh1 ⟨15,op,n,a,⟨[x,y,B1,B2],w⟩⟩:=by
 have hs:zl ⟨15,op,n,a,⟨[x,y,B1,B2],w⟩⟩=zl x+(zl y+(zl B1+zl B2))+1:=by rw[zk];simp[zd]
 have px:=zZ x;have py:=zZ y;have p1:=zZ B1;have p2:=zZ B2;refine⟨λQ q0 q F l hF hl=>?_,λF fr i n' out hi hn hF ho hi2=>?_⟩
 · rw[ze4 (.inl rfl)];unfold q2j q4y;obtain⟨_,q⟩:=q;have qx:Q (u x.T_):=by obtain⟨h,_⟩:=q x (by simp);exact h.q (.inl hx.2)
   have qy:Q (u y.T_):=by obtain⟨h,_⟩:=q y (by simp);exact h.q (.inl hy.2)
   have k0:q36 (⟨15,op,n,a,⟨[x,y,B1,B2],w⟩⟩,0)=u ⟨x.T_,x.N_⟩:=zan _ 0;have k1:q36 (⟨15,op,n,a,⟨[x,y,B1,B2],w⟩⟩,1)=u ⟨y.T_,y.N_⟩:=zan _ 1;have g2:za (⟨[x,y,B1,B2],w⟩:Sl Nd) 2=u B1:=rfl;have g3:za (⟨[x,y,B1,B2],w⟩:Sl Nd) 3=u B2:=rfl;simp only[k0,k1,jj,jl,g2,zm];rw[jx (by show¬((4:Int) < 3);omega),xX (by omega),jj];have s1:Ls Q 1 l ⟨l.xs++[brI a op x y],w⟩ :=.snoc ⟨⟨by simp,by simp;omega⟩,by simp,qx,qy,by simp⟩;obtain⟨l2,e2,m2⟩:=h1.1 Q q0 (q B1 (by simp)) F ⟨l.xs++[brI a op x y],w⟩ (by omega) (by have:=s1.b;omega);have t2:=s1.trans m2;have a2:=m2.a;have b2:=t2.b;simp only[jy,g9] at a2;simp only[e2,jj];rw[xX (by omega)];simp only[jj];rw[ze (by simp only[jy,g9];omega)];simp only[jj,jq];rw[jv (by rfl)];have t3:=t2.trans (.snoc (i:=⟨11,a,lit [],lit [],⟨lit [],0⟩,⟨lit [],0⟩,C [] B,(l.xs.length:Int),B⟩) ⟨⟨by simp,by simp only;omega⟩,by simp,q0,q0,by simp⟩);generalize hv:Sl.set _ _ _=l4;have t4:Ls Q (1+(zl B1 - 1)+1+0) l l4:=by rw[<- hv];exact t3.trans (.to (k:=l.xs.length) (by simp only[jy,g9];omega) rfl)
   have a4:=t4.a;have b4:=t4.b;obtain⟨l5,e5,m5⟩:=h2.1 Q q0 (q B2 (by simp)) F l4 (by omega) (by omega);have l4l:l4.xs.length=l2.xs.length+1:=by rw[<- hv];simp[Sl.set]
   have a5:=m5.a;simp only[g3,e5,jj];rw[ze (by omega)];refine⟨_,rfl,((t4.trans m5).trans (.to (by omega) rfl)).mono (by omega)⟩
 · unfold q3j;have r0:=rk0 (n:=⟨15,op,n,a,⟨[x,y,B1,B2],w⟩⟩) rfl;have r1:=rk1 (n:=⟨15,op,n,a,⟨[x,y,B1,B2],w⟩⟩) rfl;have r2:za (rN ⟨15,op,n,a,⟨[x,y,B1,B2],w⟩⟩).K_ 2=u (rN B1):=by rw[zH];rfl
   have r3:za (rN ⟨15,op,n,a,⟨[x,y,B1,B2],w⟩⟩).K_ 3=u (rN B2):=by rw[zH];rfl
   simp only[jl];rw[jv (by simp only[zi];omega),ze hi,hn,jj];have hK:(rN ⟨15,op,n,a,⟨[x,y,B1,B2],w⟩⟩).k_=15:=ZT _;generalize rN ⟨15,op,n,a,⟨[x,y,B1,B2],w⟩⟩=S at *
   simp only[zj];simp (decide:=true) only [hK,jp,jj,jk,r0,r1,r2,zml];obtain⟨o1,e1,q1⟩:=h1.2 F (U4 (U4 (fr+out.len)+1)) (by omega) (by omega);rw[e1,jj,Zw (by omega) (by omega),jj]
   obtain⟨o2,e2,m2⟩:=zvF (p:=q1y) (q:=q1v) (r:=q2f F) (a:=fr) (b:=(i:Int)) (c:=U4 (fr+out.len)) (d:=U4 (U4 (U4 (fr+out.len)+1)+o1.len)) (n:=n') (s:=S)
    (out:=⟨out.xs++[⟨10,S.a_,S.T_,lit [],⟨(rN x).T_,(rN x).N_⟩,⟨(rN y).T_,(rN y).N_⟩,C [] B,U4 (U4 (U4 (U4 (fr+out.len)+1)+o1.len)+1),B⟩],w⟩) (t:=o1) (by simp only[jy,g9];omega)
   have n2:=congrArg E m2;simp only[jy,g9] at n2;rw[e2];simp only[jj];obtain⟨o3,e3,n3⟩:=h2.2 F (U4 (U4 (U4 (U4 (fr+out.len)+1)+o1.len)+1)) (by omega) (by omega);rw[jx (by rw[hK];decide),r3];simp only[jj,e3];rw[Zw (by omega) (by omega),jj]
   obtain⟨o4,e4,m4⟩:=zA1 (p:=q1y) (q:=q1v) (r:=q2f F) (a:=fr) (b:=(i:Int)) (n:=n')
    (out:=⟨o2.xs++[⟨11,S.a_,lit [],lit [],⟨lit [],0⟩,⟨lit [],0⟩,C [] B,U4 (U4 (U4 (U4 (U4 (fr+out.len)+1)+o1.len)+1)+o3.len),B⟩],w⟩) (t:=o3) (by simp only[jy,g9];omega)
   rw[e4];simp only[jj];rw[zx (by omega)];exact⟨_,rfl,by rw[m4];simp only[jy,g9];omega⟩
theorem zxY {op:U0}{n a:Int}{x y B1:Nd}(hx:ZP x) (hy:ZP y) (h1:zfD B1) (hz:zl ⟨16,op,n,a,⟨[x,y,B1],w⟩⟩<=40000) :
    zh1 ⟨16,op,n,a,⟨[x,y,B1],w⟩⟩:=by
 have hs:zl ⟨16,op,n,a,⟨[x,y,B1],w⟩⟩=zl x+(zl y+zl B1)+1:=by rw[zk];simp[zd]
 have px:=zZ x;have py:=zZ y;have p1:=zZ B1;refine⟨λQ q0 q F l hF hl=>?_,λF fr i n' out hi hn hF ho hi2=>?_⟩
 · rw[ze4 (.inr rfl)];unfold q2j q4y;obtain⟨_,q⟩:=q;have qx:Q (u x.T_):=by obtain⟨h,_⟩:=q x (by simp);exact h.q (.inl hx.2)
   have qy:Q (u y.T_):=by obtain⟨h,_⟩:=q y (by simp);exact h.q (.inl hy.2)
   have k0:q36 (⟨16,op,n,a,⟨[x,y,B1],w⟩⟩,0)=u ⟨x.T_,x.N_⟩:=zan _ 0;have k1:q36 (⟨16,op,n,a,⟨[x,y,B1],w⟩⟩,1)=u ⟨y.T_,y.N_⟩:=zan _ 1;have g2:za (⟨[x,y,B1],w⟩:Sl Nd) 2=u B1:=rfl;simp only[k0,k1,jj,jl,g2,zm];rw[jx (by show¬((3:Int) < 3);omega),xX (by omega),jj];have s1:Ls Q 1 l ⟨l.xs++[brI a op x y],w⟩ :=.snoc ⟨⟨by simp,by simp;omega⟩,by simp,qx,qy,by simp⟩;obtain⟨l2,e2,m2⟩:=h1.1 Q q0 (q B1 (by simp)) F ⟨l.xs++[brI a op x y],w⟩ (by omega) (by grind);have t2:=s1.trans m2;have a2:=m2.a;have b2:=t2.b;simp only[jy,g9] at a2;simp only[e2,jj];rw[xX (by omega)];simp only[jj];rw[ze (by grind)];simp (decide:=true) only [jj,jp,jk];have t3:=t2.trans (.snoc (i:=⟨11,a,lit [],lit [],⟨lit [],0⟩,⟨lit [],0⟩,C [] B,(l.xs.length:Int),B⟩) ⟨⟨by simp,by grind⟩,by simp,q0,q0,by simp⟩);exact⟨_,rfl,(t3.trans (.to (k:=l.xs.length) (by grind) rfl)).mono (by omega)⟩
 · unfold q3j;have r0:=rk0 (n:=⟨16,op,n,a,⟨[x,y,B1],w⟩⟩) rfl;have r1:=rk1 (n:=⟨16,op,n,a,⟨[x,y,B1],w⟩⟩) rfl;have r2:za (rN ⟨16,op,n,a,⟨[x,y,B1],w⟩⟩).K_ 2=u (rN B1):=by rw[zH];rfl
   simp only[jl];rw[jv (by simp only[zi];omega),ze hi,hn,jj];have hK:(rN ⟨16,op,n,a,⟨[x,y,B1],w⟩⟩).k_=16:=ZT _;generalize rN ⟨16,op,n,a,⟨[x,y,B1],w⟩⟩=S at *
   simp only[zj];simp (decide:=true) only [hK,jp,jq,jj,jr,jk,r0,r1,r2,zml];obtain⟨o1,e1,q1⟩:=h1.2 F (U4 (U4 (fr+out.len)+1)) (by omega) (by omega);rw[e1,jj,Zw (by omega) (by omega),jj]
   obtain⟨o2,e2,m2⟩:=zvF (p:=q1y) (q:=q1v) (r:=q2f F) (a:=fr) (b:=(i:Int)) (c:=U4 (fr+out.len)) (d:=U4 (U4 (U4 (fr+out.len)+1)+o1.len)) (n:=n') (s:=S)
    (out:=⟨out.xs++[⟨10,S.a_,S.T_,lit [],⟨(rN x).T_,(rN x).N_⟩,⟨(rN y).T_,(rN y).N_⟩,C [] B,U4 (U4 (U4 (U4 (fr+out.len)+1)+o1.len)+1),B⟩],w⟩) (t:=o1) (by grind)
   have n2:=congrArg E m2;simp only[jy,g9] at n2;rw[e2];simp only[jj];rw[jv hK,Zw (by omega) (by omega)];simp only[jj];rw[zx (by omega)];grind
theorem zmm{s:Nd}(h:StmtG s)(hs:zl s<=40000):zh1 s:=by
 have blk:∀(a:Int) (b:List Nd),(∀s∈b,zl s<=40000->zh1 s)->zl ⟨9,lit [],0,a,mkS b⟩<=40000->zfD ⟨9,lit [],0,a,mkS b⟩:=λa b ih hz=>zdO λs hs=>ih s hs (by have:=@ZX ⟨9,lit [],0,a,mkS b⟩ s hs;omega)
 induction h with
 | @ite op n a x y b1 a1 b2 a2 hx hy h1 h2 i1 i2=>
  exact zxX hx hy (blk a1 _ i1 (by rw[zk] at hs;simp[zd] at hs;omega)) (blk a2 _ i2 (by rw[zk] at hs;simp[zd] at hs;omega)) hs
 | @whl op n a x y b1 a1 hx hy h1 i1=>exact zxY hx hy (blk a1 _ i1 (by rw[zk] at hs;simp[zd] at hs;omega)) hs
 | @leaf k t n a c=>exact Vk (.leaf c) hs (by grind) (by grind)
 |ret c=>exact Vk (.ret c) hs (by simp) (by simp)
 |fork c=>exact Vk (.fork c) hs (by simp) (by simp)
 |call c=>exact Vk (.call c) hs (by simp) (by simp)
 |store c d=>exact Vk (.store c d) hs (by simp) (by simp)
 |set c=>exact Vk (.set c) hs (by simp) (by simp)
def zje(Q:U3 U0->Prop)(l:List CIx):Prop:=∃l0 i,l=l0++[i]/\i.O_=14/\∀j∈l,Gi Q l0.length j
theorem zpy{Q:U3 U0->Prop}{k:Nd}(h:FnG k)(hs:zl k<=40000)(q0:Q (u (lit [])))(q:∀b∈k.K_.xs,b.k_=9->AllN (pQ Q) b):∃c,q52 k=u c/\c.L_.xs.length<=40000/\zje Q c.L_.xs:=by
 obtain⟨h6,ps,r,b,hk,hp,hr,hr8,hb⟩:=h;have hk':=congrArg Sl.xs hk;simp only at hk';obtain⟨a,l,rfl,hl⟩:=hb;have hsz:=ZX (n:=k) (k:=⟨9,lit [],0,a,mkS l⟩) (by rw[hk'];simp);have hL:zfD ⟨9,lit [],0,a,mkS l⟩:=zdO λs hs=>zmm (hl s hs) (by have:=@ZX ⟨9,lit [],0,a,mkS l⟩ s hs;omega)
 have hlen:k.K_.xs.length=ps.length+2:=by rw[hk'];simp
 have hkl:=@Zl k;have hsp:=zZ ⟨9,lit [],0,a,mkS l⟩
 obtain⟨⟨P,l1⟩,e1,e2,e3⟩:=go (f:=qd7 q8w q2q) (n:=k.K_.xs.length) (A:=Sl U0×Sl CIx) (st:=λi a=>(k.K_,k.K_.len,(i:Int),lit [],k.T_,a.1,a.2)) (fin:=λa=>(lit [],k.T_,a.1,a.2))
  (J:=λi a=>a.1.xs.length<=i/\if i=k.K_.xs.length then a.2.xs.length<=40000/\zje Q a.2.xs else a.2.xs=[])
  (λi hi P hP=>by
   obtain⟨P,l1⟩:=P;obtain⟨hP,hl1⟩:=hP;simp only at hP hl1;rw[jx (by omega)] at hl1;unfold qd7;simp only[jl,zm];rw[jv (by simp only[zi];omega),ze hi,jj];have wk:=@zx i (by omega);by_cases c:i < ps.length
   ·have hx:k.K_.xs[i]=ps[i]:=by grind
    refine⟨(⟨P.xs++[k.K_.xs[i].T_],w⟩,l1),?_,by simp;omega,by grind⟩;rw[jv (by rw[hx];exact(hp _ (gc c)).1),Zw (by omega) (by omega)];grind
   by_cases c2:i=ps.length
   ·have hx:k.K_.xs[i]=r:=by grind
    refine⟨(P,l1),?_,by grind,by grind⟩;grind
   ·obtain rfl:i=ps.length+1:=by omega
    have hx:k.K_.xs[ps.length+1]=⟨9,lit [],0,a,mkS l⟩:=by grind
    obtain⟨l2,f1,f2⟩:=hL.1 Q q0 (q _ (by rw[hk'];simp) rfl) 100000 l1 (by omega) (by grind);have n2:=f2.b;rw[hl1,List.length_nil] at n2;refine⟨(P,⟨l2.xs++[⟨14,a,lit [],lit [],⟨lit [],0⟩,⟨lit [],0⟩,C [] B,0,B⟩],w⟩),?_,by grind,?_⟩
    ·rw[hx,jx (by grind),jv (by rfl)];show(((((q2o 100000 (_,l1)).bind _)).bind _).bind _)=_;rw[f1,jj,xX (by omega)];grind
    ·rw[jv (by omega)];refine⟨by grind,l2.xs,_,rfl,rfl,λj hj=>?_⟩;rcases U5.1 hj with hj | hj
     ·exact f2.g (by rw[hl1];simp) j hj
     ·rw[Dy] at hj;subst hj;exact⟨⟨by simp,by simp⟩,by simp,q0,q0,by simp⟩)
  (λP hP=>by
   unfold qd7;simp only[jl]
   rw[jx (by simp only[zi];omega)])
  (a:=(C [] B,C [] B)) ⟨by simp,by grind⟩
 rw[jv rfl] at e3;refine⟨⟨k.T_,P,l1⟩,?_,e3⟩;unfold q52 qen;rw[jx (by simp[h6])];exact congrArg (λo=>D o λy7:U0×U0×Sl U0×Sl CIx=>u (q1j.mk y7.2.1 y7.2.2.1 y7.2.2.2)) e1
theorem znR{k:Nd}(h:FnG k)(hs:zl k<=40000):∃rc,q2b (rN k)=u rc:=by
 obtain⟨h6,ps,r,b,hk,hp,hr,hr8,hb⟩:=h;have hk':=congrArg Sl.xs hk;simp only at hk';obtain⟨a,l,rfl,hl⟩:=hb;have hsz:=ZX (n:=k) (k:=⟨9,lit [],0,a,mkS l⟩) (by rw[hk'];simp);have hL:zfD ⟨9,lit [],0,a,mkS l⟩:=zdO λs hs=>zmm (hl s hs) (by have:=@ZX ⟨9,lit [],0,a,mkS l⟩ s hs;omega)
 have hlen:k.K_.xs.length=ps.length+2:=by rw[hk'];simp
 have hkl:=@Zl k;have ek:(rN k).K_.xs=k.K_.xs.map rN:=by rw[zH]
 have ekl:(rN k).K_.xs.length=k.K_.xs.length:=by rw[ek];simp
 obtain⟨P2,g1,g2⟩:=go (f:=q57 q4f) (n:=ps.length) (A:=Sl U0) (st:=λi a=>(((ps.length+1:Nat):Int),(i:Int),rN k,lit [],k.T_,a)) (fin:=λa=>(((ps.length+1:Nat):Int),rN k,lit [],k.T_,a))
  (J:=λi a=>a.xs.length<=i)
  (λi hi P hP=>by
   refine⟨⟨P.xs++[((rN k).K_.xs[i]'(by omega)).T_],w⟩,?_,by simp;omega⟩;unfold q57;simp only[jl,zj]
   rw[zD (by omega) (by omega),jv (by omega),ze (by omega),jj,Zw (by omega) (by omega),jj,zx (by omega)])
  (λP hP=>by
   unfold q57;simp only[jl,zj]
   rw[zD (by omega) (by omega),jx (by omega)])
  (a:=C [] B) (by simp)
 obtain⟨out,o1,o2⟩:=hL.2 100000 0 (by omega) (by omega);have hlast:za (rN k).K_ ((ps.length+1:Nat):Int)=u (rN ⟨9,lit [],0,a,mkS l⟩):=by
  rw[ze (by omega)];grind
 refine⟨(k.T_,P2,⟨out.xs++[⟨14,(rN ⟨9,lit [],0,a,mkS l⟩).a_,lit [],lit [],⟨lit [],0⟩,⟨lit [],0⟩,C [] B,0,B⟩],w⟩),?_⟩
 ·unfold q2b q8b;have hw:U4 ((rN k).K_.len - 1)=((ps.length+1:Nat):Int):=by rw[zi,ekl,hlen,zD (by omega) (by omega)];omega
  simp only[hw,zj];simp only[zX];have g1:lpO (q57 q4f) (((ps.length+1:Nat):Int),0,rN k,lit [],k.T_,C [] B)=_:=g1;have o1:q4f (rN ⟨9,lit [],0,a,mkS l⟩,0)=_:=o1;rw[g1];simp only[jj,hlast,o1];rw[Zw (by omega) (by omega)];rfl
end Go.Px
