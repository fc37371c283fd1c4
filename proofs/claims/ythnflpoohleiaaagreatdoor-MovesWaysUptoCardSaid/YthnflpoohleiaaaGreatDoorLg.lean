/- Part Lg. -/
import Derived.Test.YthnflpoohleiaaaGreatDoorLf
set_option linter.unusedVariables false
set_option linter.unusedSimpArgs false
namespace Go.Px
open Bool renaming true->w,false->B
open Int renaming toNat_natCast->G
open List renaming getElem_of_mem->H,length->K,getElem_map->L,getElem_append_left->N
open _root_.Option renaming some->u,bind->I
open Sum renaming inl->C,elim->D,inr->E
variable{a:Int}{i k m:Nat}{ks:List Nd}{n:Nd}{sg:Sl PSg}{t:Sl PT}{β:Type}
abbrev PNf:=qe
abbrev KS:=(Sl PSg×Sl PT×Int)×Sl PNf
theorem goE {S R A:Type}{f:S->Uv (Step S R)}{n:Nat}{st:Nat->A->S}{fin:A->R}{J:Nat->A->Prop}{bad:R->Prop}
    (h:∀i,i < n->∀a,J i a->(∃a',f (st i a)=u (.next (st (i+1) a'))/\J (i+1) a')\/∃r,f (st i a)=u (.done r)/\bad r)
    (h0:∀a,J n a->f (st n a)=u (.done (fin a))) {a:A} (c:J 0 a) :
    (∃a',lpO f (st 0 a)=u (fin a')/\J n a')\/∃r,lpO f (st 0 a)=u r/\bad r:=by
 have:∀(m i:Nat) (a:A),i+m=n->J i a->(∃a',lpO f (st i a)=u (fin a')/\J n a')\/∃r,lpO f (st i a)=u r/\bad r:=by
  intro m
  induction m with
  |zero=>
   intro i a hi c;obtain rfl:i=n:=Zd
   exact .inl ⟨a,zw (h0 a c),c⟩
  |succ m g=>
   intro i a hi c;rcases h i Zd a c with⟨a',h1,h2⟩ | ⟨r,h1,h2⟩
   · rcases g (i+1) a' Zd h2 with⟨b,e,d⟩ | ⟨r,e,d⟩
     ·exact .inl ⟨b,by rw[zB h1,e],d⟩
     ·exact .inr ⟨r,by rw[zB h1,e],d⟩
   ·exact .inr ⟨r,zw h1,h2⟩
 exact this n 0 a Zd c
theorem zy1(ok:Bool)(e:Int)(s:KS):q3p (ok,e,s)=u (if ok=w then .inr s else .inl ((s.1.2.2,e),s)):=by cases ok<;>rfl
theorem zfP(n:Nd)(ok:Bool)(e:Int)(s:KS):q2a (n,ok,e,s)=u (if ok=w then .inr ((s.1.1,s.1.2.1,n.a_),s.2) else .inl ((n.a_,e),(s.1.1,s.1.2.1,n.a_),s.2)):=by cases ok<;>rfl
theorem wX(f:PNf)(n:Ut)(h:f.V_.xs.length<=1000000):q1r (f,n)=u (idP n f.V_.xs):=by
 have:=wh (f:=q6v q87) (xs:=f.V_.xs) (p:=λx=>decide (x.N_=n)) (st:=λi=>(f.V_,f.V_.len,(i:Int),n)) (yes:=λi =>.inl ((i:Int),n)) (no :=.inr n)
  (λi hi=>by
   unfold q6v;simp only[jl];rw[jv jA,ze hi,jj];show((u (decide (f.V_.xs[i].N_=n),n)).bind _)=_;simp only[jj,zu (Zd:i < 1000000000)]
   grind)
  (by unfold q6v;simp only[jl];rw[jx jA])
 show((((lpO (q6v q87) (f.V_,Sl.len f.V_,((0:Nat):Int),n)).bind _)).bind _)=_;rw[this];unfold idP idx;cases f.V_.xs.findIdx? _<;>rfl
def OkO(t:List PT)(p:PP):Prop:=p.M_=2->0<=p.t_/\p.t_ < t.length
theorem zex{t:List PT}{l:List PP}{p:PP}(h:∀q∈l,OkO t q)(hp:OkO t p):∀q∈l++[p],OkO t q:=λq a=>by
 grind
def Xn(k:Nd):List Nd:=k.K_.xs.take (k.K_.xs.length - 2)
def zy2(r:((Int×Int)×KS)⊕β):Prop:=∃f s,r = .inl (f,s)/\f.2≠0
theorem zl8{m:Nd}(h:vo m)(a:m.T_=lit [111,119,110]):∃x,m.K_=⟨[x],w⟩:=by
 rcases h.2 with⟨h1,_⟩ | ⟨_,x,h2,_⟩
 ·rw[a] at h1;simp (decide:=true) only [] at h1
 grind
theorem zy3 {k:Nd}(h:FnG k) (hs:zl k<=40000) (sg:Sl PSg) (t:Sl PT) (Z:t.xs.length<=100000) (j:Int) (d:Sl PNf) :
    (∃at' c,q3q (k,(sg,t,j),d)=u (.inr ((k.T_,((Xn k).length:Int)),(sg,t,at'),d,c))/\(Xn k).length<=8/\c.xs.length=(Xn k).length/\∀p∈c.xs,OkO t.xs p)\/
    ∃r,q3q (k,(sg,t,j),d)=u r/\zy2 r:=by
 obtain⟨h6,ps,r,b,M,hp,hr,V,hb⟩:=h;have g:k.K_.xs.length=ps.length+2:=by rw[M];simp
 have O:Xn k=ps:=by unfold Xn;grind
 have U:=@Zm k;rw[O];have X:Uw (k.K_.len - 2)=(ps.length:Int):=by rw[zh,g,zF Zd Zd];omega
 have F:z8 k.K_ 0 (ps.length:Int)=u ⟨ps,w⟩:=by
  rw[Yr Zd Zd Zd,M];simp
 have y:za k.K_ (ps.length:Int)=u r:=by rw[ze Zd];simp[M]
 unfold q3q qa1;simp only[zm,zfP,jj,X,F,jl];by_cases R:(ps.length:Int)<=8
 rotate_left
 ·simp only[R,jp,jo];exact .inr ⟨_,rfl,_,_,rfl,je⟩
 simp only[R,jq,jm]
 have key:=goE (f:=q4w q2a q1r q2l q3p) (n:=ps.length) (A:=Int×Sl PP)
  (st:=λi a=>((ps.length:Int),⟨ps,w⟩,(⟨ps,w⟩:Sl Nd).len,(i:Int),(sg,t,a.1),d,k,(lit [],0),(k.T_,(ps.length:Int)),a.2)) (fin:=λa =>.inr ((ps.length:Int),(sg,t,a.1),d,k,(lit [],0),(k.T_,(ps.length:Int)),a.2))
  (J:=λi a=>a.2.xs.length=i/\∀p∈a.2.xs,OkO t.xs p) (bad:=zy2)
  (λi hi a Q=>by
    obtain⟨a,c⟩:=a;obtain⟨o,P⟩:=Q;simp only at o P;obtain⟨_,m,Y,v⟩:=hp _ (gc hi);unfold q4w;simp only[jl,zm];rw[jv jA,ze (s:=⟨ps,w⟩) hi,jj];simp only;rw[Y,show za (⟨[m],w⟩:Sl Nd) 0=u m from rfl,jj,wX _ _ jE];simp only[jj,zfP,zy1,jl];by_cases h1:idP ps[i].T_ c.xs < 0
    rotate_left
    ·simp only[h1,jp,jj,jo];exact .inr ⟨_,rfl,_,_,rfl,je⟩
    simp only[h1,jq,jm];by_cases h2:m.T_=lit [105,110,116]
    · have l:¬ m.T_=lit [111,119,110]:=by rw[h2];simp (decide:=true) only []
      simp only[h2,jq,jj,jm];rw[<- h2];simp only[l,jp,jj,jm];rw[ZA Zd Zd];simp only[jj,jm,zu (Zd:i < 1000000000)];exact .inl ⟨(_,_),rfl,by simp[o],zex P λh=>by simp at h⟩
    · simp only[h2,jp];by_cases z:m.T_=lit [111,119,110]
      rotate_left
      ·simp only[z,jp,jj,jo];exact .inr ⟨_,rfl,_,_,rfl,je⟩
      obtain⟨x,S⟩:=zl8 v z;simp only[z,jq,jj,jm];rw[S,show za (⟨[x],w⟩:Sl Nd) 0=u x from rfl,jj];rw[zcD t _ (Zd:t.xs.length<=1000000),jj];by_cases q:0<=idT x.T_ t.xs
      rotate_left
      ·simp only[q,jp,jj,jo];exact .inr ⟨_,rfl,_,_,rfl,je⟩
      simp only[q,jq,jj,jm];rw[ZA Zd Zd];simp only[jj,jm,zu (Zd:i < 1000000000)]
      exact .inl ⟨(_,_),rfl,by simp[o],zex P λ_=>⟨q,yC.2.1⟩⟩)
  (λa Q=>by
    unfold q4w;simp only[jl,zm]
    rw[jx jA])
  (a:=(k.a_,Sl.mk [] B)) ⟨rfl,je⟩
 rcases key with⟨⟨a,c⟩,e,e2⟩ | ⟨x,e,f,s,rfl,W⟩
 rotate_left
 ·have e:lpO (q4w q2a q1r q2l q3p) ((ps.length:Int),⟨ps,w⟩,(⟨ps,w⟩:Sl Nd).len,0,(sg,t,k.a_),d,k,(lit [],0),(k.T_,(ps.length:Int)),Sl.mk [] B)=_:=e;rw[e];exact .inr ⟨_,rfl,_,_,rfl,W⟩
 have e:lpO (q4w q2a q1r q2l q3p) ((ps.length:Int),⟨ps,w⟩,(⟨ps,w⟩:Sl Nd).len,0,(sg,t,k.a_),d,k,(lit [],0),(k.T_,(ps.length:Int)),Sl.mk [] B)=_:=e;rw[e];simp only[jj,jm,y];by_cases T:r.T_=lit []
 ·grind
 ·simp only[T,jp,jo];exact .inr ⟨_,rfl,_,_,rfl,je⟩
abbrev CKt:=(Sl PSg×Sl PT×Int×Int)×Sl PNf
abbrev FTt:=(Int×Int)×CKt⊕CKt
structure Vd(st:CKt):Prop where
 j:∃jn:Nat,st.1.2.2.2=(jn:Int)/\jn < st.2.xs.length
 v:∀f∈st.2.xs,f.V_.xs.length<=60000/\0<=f.P_/\f.P_<=f.V_.xs.length
 s:st.1.1.xs.length<=50000
 f:st.2.xs.length<=50000
 o:∀f∈st.2.xs,∀p∈f.V_.xs,OkO st.1.2.1.xs p
 g:∀s∈st.1.1.xs,OkO st.1.2.1.xs s.R_
def Cur(st:CKt)(f:PNf):Prop:=∃j:Nat,st.1.2.2.2=(j:Int)/\st.2.xs[j]?=u f
def KnX(st:CKt)(n:Ut):Prop:=∃f,Cur st f/\0<=idP n f.V_.xs
def Kn(st:CKt)(n:Ut):Prop:=n=lit []\/KnX st n
def zab(r:Uv ((Int×Int)×CKt⊕β)):Prop:=∃f s,r=u (.inl (f,s))/\f.2≠0
def LkQ(Q:Prop)(st:CKt)(r:Uv FTt):Prop:=(r=u (.inr st)/\Q)\/zab r
def LkP(Q:PP->Prop)(st:CKt)(r:Uv ((Int×Int)×CKt⊕PP×CKt)):Prop:=(∃p,r=u (.inr (p,st))/\Q p)\/zab r
theorem yV{α:Type}(r:Uv (α⊕β)):(r.bind λy=>D (λa=>u (C a)) (λb=>u (E b)) y)=r:=by
 cases r with | none=>rfl | some x=>grind
theorem Vy(ok:Bool)(e:Int)(s:CKt):q18 (ok,e,s)=u (if ok=w then .inr s else .inl ((s.1.2.2.1,e),s)):=by cases ok<;>rfl
theorem zh6{Q:Prop}{ok:Bool}{e:Int}{s:CKt}(a:e≠0)(h:ok=w->Q):LkQ Q s (q18 (ok,e,s)):=by
 cases ok
 ·exact .inr ⟨_,_,rfl,a⟩
 ·exact .inl ⟨rfl,h rfl⟩
theorem zbw{Q:Prop}{c:Prop}[Decidable c]{s:CKt}{a b:Uv FTt}(d:c->LkQ Q s a)(hb:¬c->LkQ Q s b):LkQ Q s (if c then a else b):=by
 grind
theorem zbx{st:CKt}(h:Vd st)(n:Ut):LkP (λp=>Kn st n/\OkO st.1.2.1.xs p) st (q4x (n,st)):=by
 obtain⟨⟨sg,t,a,j⟩,b⟩:=st;obtain⟨⟨c,rfl,d⟩,e,hs,l,f,_⟩:=h;simp only at d e f;have e:=(e _ (gc d)).1;unfold q4x q8z;simp only[ze d,jj];rw[wX _ _ jE];simp only[jj,Vy,jl];by_cases h1:0<=idP n b.xs[c].V_.xs
 ·have h2:idP n b.xs[c].V_.xs < b.xs[c].V_.xs.length:=yC.2.1;obtain⟨i,hi⟩:∃i:Nat,idP n b.xs[c].V_.xs=(i:Int):=⟨_,(D6 h1).symm⟩
  have g:=hi;rw[hi] at h2 h1;simp only[hi,h1,jq,jm,ze d,jj,ze (s:=b.xs[c].V_) (Zd:i < _)];exact .inl ⟨_,rfl,.inr ⟨_,⟨c,rfl,UC d⟩,Zd⟩,λk=>f _ (gc d) (b.xs[c].V_.xs[i]' Zd) (gc _) k⟩
 ·simp only[h1,jp,jo];exact .inr ⟨_,_,rfl,je⟩
theorem zpx{st:CKt}(h:Vd st)(n:Nd)(p:PP):LkQ (Kn st n.T_/\(p.M_=2->n.T_≠lit [])) st (q1j (n,p,st)):=by
 unfold q1j qb1;simp only[yV,zm];refine zbw (λc=>zh6 jI λq=>⟨.inl (by simpa using c),λh2=>by simp[h2] at q⟩) λc=>?_
 rcases zbx h n.T_ with⟨k,e,P0.F,_⟩ | ⟨f,s,e,d⟩
 ·have F:Kn st n.T_/\(p.M_=2->n.T_≠lit []):=⟨P0.F,λ_=>by simpa using c⟩;generalize (Kn st n.T_/\(p.M_=2->n.T_≠lit []))=P at F |-
  have M:∀(b:Bool) (e:Int),e≠0->LkQ P st (q18 (b,e,st)):=λb e g=>zh6 g λ_=>F
  simp only[e,jj,jm];refine zbw (λc1=>M _ _ jI) λc1=>?_
  by_cases a:p.M_=3
  ·simp only[a,js,jq,jj];exact zbw (λ_=>zbw (λ_=>M _ _ jI) (λ_=>M _ _ jI)) (λ_=>zbw (λ_=>zbw (λ_=>M _ _ jI) (λ_=>M _ _ jI)) (λ_=>M _ _ jI))
  ·simp (decide:=true) only [a,jr,jp,jj];grind
 ·simp only[e,jj,jo];exact .inr ⟨_,_,rfl,d⟩
def zfQ(st:CKt)(l:List Nd)(p:List PP)(i:Nat):Prop:=∀(j:Nat) b,j < i->l[j]?=u b->Kn st b.T_/\∀q,p[j]?=u q->q.M_=2->b.T_≠lit []
theorem zfQ.next{st:CKt}{l:List Nd}{p:List PP}(h:zfQ st l p i){b:Nd}{q:PP}(hb:l[i]?=u b)(d:p[i]?=u q)(c:Kn st b.T_/\(q.M_=2->b.T_≠lit [])):zfQ st l p (i+1):=λj x f a=>by
 by_cases e:j=i
 ·grind
 ·exact h j x Zd a
def Fit(l:List Ut)(p:List PP):Prop:=∀(i:Nat) a q,l[i]?=u a->p[i]?=u q->q.M_=2->a≠lit []
theorem zfQ.fin{st:CKt}{l:List Nd}{p:List PP}(h:zfQ st l p l.length):(∀k∈l,Kn st k.T_)/\Fit (l.map q8.T_) p:=by
 refine⟨λk e=>?_,λi a q c d f=>?_⟩
 ·obtain⟨i,hi,rfl⟩:=H e;exact(h i _ hi (UC hi)).1
 ·rw[U3,D1] at c;obtain⟨b,hb,rfl⟩:=c;exact(h i b (U5.1 hb).1 hb).2 q d f
theorem zy4{st:CKt}(h:Vd st)(l:Sl Nd)(p:Sl PP)(t:l.xs.length<=50000):LkQ ((∀k∈l.xs,Kn st k.T_)/\l.xs.length=p.xs.length/\Fit (l.xs.map q8.T_) p.xs) st (q6k (l,p,st)):=by
 unfold q6k qa2;simp only[yV,Vy,jj,jl];by_cases c:Sl.len l=Sl.len p
 rotate_left
 ·simp only[c,jp,jo];exact .inr ⟨_,_,rfl,je⟩
 simp only[c,jq,jm];simp only[zh] at c
 rcases goE (f:=q7i q18 q1j) (n:=l.xs.length) (A:=CKt) (st:=λi a=>(p,l,p.len,(i:Int),a)) (fin:=λa =>.inr a) (J:=λi a=>a=st/\zfQ st l.xs p.xs i) (bad:=λr=>zab (u r))
  (λi hi a g=>by
   obtain⟨rfl,m⟩:=g;unfold q7i;simp only[jl,zm];rw[jv jA,ze hi,jj,ze (s:=p) (Zd:i < _),jj];rcases zpx h l.xs[i] (p.xs[i]' Zd) with⟨e,q⟩ | ⟨f,s,e,d⟩
   ·rw[e,jj,jm,zu Zd];exact .inl ⟨a,rfl,rfl,m.next (UC hi) (UC (Zd:i < _)) q⟩
   ·rw[e,jj,jo]
    exact .inr ⟨_,rfl,_,_,rfl,d⟩)
  (λa g=>by
   unfold q7i;simp only[jl]
   rw[jx jA])
  (a:=st) ⟨rfl,λj b o=>Zd⟩ with⟨a,e,rfl,q⟩ | ⟨r,e,f,s,e2,d⟩
 ·exact .inl ⟨e,q.fin.1,Zd,q.fin.2⟩
 ·cases e2;exact .inr ⟨_,_,e,d⟩
theorem zy5(sg:Sl PSg)(n:Nd)(h:sg.xs.length<=50000):q8r (sg,n)=u (idx (λx=>decide (x.N_=n.T_)) sg.xs,n):=by
 have:=wh (f:=q88 q5k) (xs:=sg.xs) (p:=λx=>decide (x.N_=n.T_)) (st:=λi=>(sg,sg.len,(i:Int),n)) (yes:=λi =>.inl ((i:Int),n)) (no :=.inr n)
  (λi hi=>by
   unfold q88;simp only[jl,zm];rw[jv jA,ze hi,jj];show((u (decide (sg.xs[i].N_=n.T_),q8.mk _ _ _ _ _)).bind _)=_;simp only[zm,jj,zu (Zd:i < 1000000000)]
   grind)
  (by unfold q88;simp only[jl,zm];rw[jx jA])
 unfold q8r qd1;simp only[zm];have this:lpO (q88 q5k) (sg,sg.len,0,n)=_:=this;rw[this];unfold idx;cases sg.xs.findIdx? _<;>rfl
def zpy(sg:List PSg)(y:Ut)(l:List Ut):Prop:=∃(k:Nat) (s:PSg),idx (λx=>decide (x.N_=y)) sg=(k:Int)/\sg[k]?=u s/\l.length=s.P_.xs.length/\Fit l s.P_.xs
theorem zr7{st:CKt}(h:Vd st)(n:Nd)(c:n.K_.xs.length<=50000):LkP (λp=>OkO st.1.2.1.xs p/\(∀k∈n.K_.xs,Kn st k.T_)/\zpy st.1.1.xs n.T_ (n.K_.xs.map q8.T_)) st (q26 (n,st)):=by
 have e:=zy5 st.1.1 n h.s;have hi:idx (λx=>decide (x.N_=n.T_)) st.1.1.xs < st.1.1.xs.length:=yC.2.1;generalize a:idx (λx=>decide (x.N_=n.T_)) st.1.1.xs=i at e hi;unfold q26 qa3;simp only[zm,e,jj,Vy,jl];by_cases h1:0<=i
 rotate_left
 ·simp only[h1,jp,jo];exact .inr ⟨_,_,rfl,je⟩
 obtain⟨j,rfl⟩:∃j:Nat,i=(j:Int):=⟨_,(D6 h1).symm⟩
 simp only[h1,jq,jm,ze (s:=st.1.1) (Zd:j < _),jj];rcases zy4 h n.K_ (st.1.1.xs[j]' Zd).P_ c with⟨e,q⟩ | ⟨f,s,e,b⟩
 ·simp only[e,jj,jm,ze (s:=st.1.1) (Zd:j < _)];exact .inl ⟨_,rfl,h.g _ (gc _),q.1,j,_,a,UC _,jE,q.2.2⟩
 ·simp only[e,jj,jo];exact .inr ⟨_,_,rfl,b⟩
def LkE(Q:PP->Prop)(st:CKt)(r:Uv (PP×CKt⊕(Int×Int)×CKt)):Prop:=(∃p,r=u (.inl (p,st))/\Q p)\/∃f s,r=u (.inr (f,s))/\f.2≠0
def zfR(fs:List PNf)(y:Ut)(l:List Ut):Prop:=∃(k:Nat) (f:PNf),idx (λx=>decide (x.N_=y)) fs=(k:Int)/\fs[k]?=u f/\(l.length:Int)=f.P_/\f.P_<=f.V_.xs.length/\Fit l (f.V_.xs.take l.length)
def QN(st:CKt):QK->Prop
 | .y=>False
 | .n b=>Kn st b
 | .x b=>KnX st b
 | .c y l=>zpy st.1.1.xs y l
 | .f y l=>zfR st.2.xs y l
abbrev pN(st:CKt):Nd->Prop:=pQ (QN st)
theorem xL{st:CKt}{k:Nd}(h:ZQ k)(q:Kn st k.T_):AllN (pN st) k :=.mk (.o (λ_=>q) (λc=>by have:=h.2;omega) (by simp[h.2])) (by rw[h.1];simp)
theorem zy6{st:CKt}(h:Vd st)(g:ExprG n)(M:n.K_.xs.length<=50000):LkE (λp=>AllN (pN st) n/\OkO st.1.2.1.xs p) st (q2e (n,st)):=by
 have z:OkO st.1.2.1.xs ⟨lit [],1,0⟩:=λh=>by simp at h
 have b:LkE (λp=>AllN (pN st) n/\OkO st.1.2.1.xs p) st (u (E ((st.1.2.2.1,50),st))) :=.inr ⟨_,_,rfl,je⟩;unfold q2e qa4;simp only[zm,Vy];cases g with
 |term a h0=>
  have A:Kn st n.T_->AllN (pN st) n:=λq=>xL ⟨h0,a⟩ q
  simp only[a,js,jq];by_cases j:n.T_=lit []
  ·simp only[j,js,jq,jj,jo];exact .inl ⟨_,rfl,A (.inl j),z⟩
  simp only[j,jr,jk,jp];rcases zbx h n.T_ with⟨k,e,q,qo⟩ | ⟨f,s,e,i⟩
  rotate_left
  ·simp only[e,jj,jo,jm];exact .inr ⟨_,_,rfl,i⟩
  simp only[e,jj,jo,jm,jl];by_cases v:n.n_=0
  ·simp only[v,jq,jj,jo,jm];exact .inl ⟨_,rfl,A q,qo⟩
  simp only[v,jp];by_cases d:k.M_=1
  ·simp only[d,jq,jj,jo,jm];exact .inl ⟨_,rfl,A q,qo⟩
  ·simp only[d,jp,jj,jo,jm];exact .inr ⟨_,_,rfl,je⟩
 |leaf a h0=>
  rcases a with a | a | a | a
  ·simp (decide:=true) only [a,jr,jq,jp,jk,jj,jo,jm];exact b
  ·simp (decide:=true) only [a,jr,jq,jp,jk,jj,jo,jm];exact b
  all_goals
   rcases zbx h n.T_ with⟨k,e,q,qo⟩ | ⟨f,s,e,i⟩
   ·simp (decide:=true) only [a,jr,js,jq,jp,jk,jj,jo,jm,e,jl];by_cases d:k.M_=2
    ·simp only[d,jq,jj,jo,jm];exact .inl ⟨_,rfl,.mk (.o (λ_=>q) (λc=>Zd) Zd) (by rw[show n.K_=nilS from h0];simp),λh=>by simp at h⟩
    ·simp only[d,jp,jj,jo,jm];exact .inr ⟨_,_,rfl,je⟩
   ·simp (decide:=true) only [a,jr,js,jq,jp,jk,jj,jo,jm,e];exact .inr ⟨_,_,rfl,i⟩
 |call a=>
  rcases zr7 h n M with⟨k,e,qo,q,qc⟩ | ⟨f,s,e,i⟩
  ·simp (decide:=true) only [a.1,jr,jq,jp,jk,jj,jo,jm,e,jl];by_cases d:k.M_=0
   ·simp (decide:=true) only [d,jp,jj,jo,jm];exact .inr ⟨_,_,rfl,je⟩
   ·simp (decide:=true) only [d,jq,Dc,ju,jj,jo,jm];exact .inl ⟨_,rfl,.mk ⟨λh=>by have:=a.1;omega,λh=>by have:=a.1;omega,λh=>by have:=a.1;omega,λ_=>qc,λh=>by have:=a.1;omega⟩ λk F=>xL (a.2 k F) (q k F),qo⟩
  ·simp (decide:=true) only [a.1,jr,js,jq,jp,jk,jj,jo,jm,e];exact .inr ⟨_,_,rfl,i⟩
 |load a _ _=>
  simp (decide:=true) only [a,jr,jq,jp,jk,jj,jo,jm];exact b
 | @two x y a r O P=>
  have g0:za n.K_ 0=u x:=by rw[r];rfl
  have m:za n.K_ 1=u y:=by rw[r];rfl
  rcases zbx h x.T_ with⟨k,e,q,_⟩ | ⟨f,s,e,i⟩
  rotate_left
  ·rcases a with a | a<;>
   ·simp (decide:=true) only [a,jr,js,jq,jp,jk,jj,jo,jm,g0,m,e];exact .inr ⟨_,_,rfl,i⟩
  rcases zbx h y.T_ with⟨Q,l,R,_⟩ | ⟨f,s,l,i⟩
  rotate_left
  ·rcases a with a | a<;>
   ·simp (decide:=true) only [a,jr,js,jq,jp,jk,jj,jo,jm,g0,m,e,l];exact .inr ⟨_,_,rfl,i⟩
  have A:AllN (pN st) n :=.mk (.o (λh=>Zd) (λh=>Zd) Zd) (by rw[r];simpa using⟨xL O q,xL P R⟩)
  by_cases d:k.M_=1<;>by_cases t:Q.M_=1<;>rcases a with a | a<;>
   simp (decide:=true) only [a,jr,js,jq,jp,jk,jj,jo,jm,g0,m,e,l,d,t]<;>
   first | exact .inl ⟨_,rfl,A,z⟩ | exact .inr ⟨_,_,rfl,je⟩
structure Gr(m:Nat)(a b:CKt):Prop where
 s:b.1.1=a.1.1
 t:b.1.2.1=a.1.2.1
 j:b.1.2.2.2=a.1.2.2.2
 l:b.2.xs.length=a.2.xs.length
 f:∀i (h:i < a.2.xs.length) (h':i < b.2.xs.length),b.2.xs[i].N_=a.2.xs[i].N_/\b.2.xs[i].P_=a.2.xs[i].P_/\∃ex,b.2.xs[i].V_.xs=a.2.xs[i].V_.xs++ex/\ex.length<=m
 k:(∀f∈a.2.xs,∀p∈f.V_.xs,OkO a.1.2.1.xs p)->∀f∈b.2.xs,∀p∈f.V_.xs,OkO b.1.2.1.xs p
theorem Gr.refl{a b:CKt}(h1:b.1.1=a.1.1)(h2:b.1.2.1=a.1.2.1)(d:b.1.2.2.2=a.1.2.2.2)(c:b.2=a.2):Gr 0 a b:=
 ⟨h1,h2,d,by rw[c],λi h e=>by simp only[c];exact⟨trivial,trivial,[],je⟩,λh=>by rw[h2,c];exact h⟩
theorem Gr.trans{a b c:CKt}(h:Gr m a b)(g:Gr k b c):Gr (m+k) a c:=
 ⟨g.s.trans h.s,g.t.trans h.t,g.j.trans h.j,g.l.trans h.l,λi h1 h2=>by
  have hb:i < b.2.xs.length:=by rw[h.l];exact h1
  obtain⟨e,p,o,d,v⟩:=h.f i h1 hb;obtain⟨n,q,r,v2,l2⟩:=g.f i hb h2
  exact⟨n.trans e,q.trans p,o++r,by rw[v2,d,UV],by rw[jy];omega⟩,λi=>g.k (h.k i)⟩
theorem Gr.mono{a b:CKt}(h:Gr m a b)(o:m<=k):Gr k a b:=
 ⟨h.s,h.t,h.j,h.l,λi h1 h2=>by obtain⟨d,g,e,c,n⟩:=h.f i h1 h2;exact⟨d,g,e,c,Zd⟩,h.k⟩
def Vc(k:Nat)(st:CKt):Prop:=Vd st/\∀f∈st.2.xs,f.V_.xs.length+k<=60000
theorem Vc.gr{a b:CKt}(h:Vc (m+k) a)(g:Gr m a b):Vc k b:=by
 have key:∀f∈b.2.xs,f.V_.xs.length+k<=60000/\0<=f.P_/\f.P_<=f.V_.xs.length:=by
  intro f c;obtain⟨i,hi,rfl⟩:=H c;have d:i < a.2.xs.length:=by rw[<- g.l];exact hi
  obtain⟨y,n,z,p,A⟩:=g.f i d hi;have h1:=h.2 _ (gc d);have h2:=h.1.v _ (gc d);have x:=congrArg K p;rw[jy] at x;exact⟨Zd,by rw[n];omega,by rw[n];omega⟩
 obtain⟨r,e,q⟩:=h.1.j;exact⟨⟨⟨r,by rw[g.j,e],by rw[g.l];exact q⟩,λf c=>⟨by have:=(key f c).1;omega,(key f c).2⟩,by rw[g.s];exact h.1.s,by rw[g.l];exact h.1.f,g.k h.1.o,by rw[g.s,g.t];exact h.1.g⟩,λf c=>(key f c).1⟩
theorem Vc.mono{a:CKt}(h:Vc m a)(c:k<=m):Vc k a:=⟨h.1,λf b=>by have:=h.2 f b;omega⟩
def Sp(m:Nat)(n:Ut)(a:CKt)(r:Uv FTt):Prop:=(∃b,r=u (.inr b)/\Gr m a b/\KnX b n)\/zab r
theorem zAx{st:CKt}(h:Vc 1 st)(n:Ut)(p:PP)(hp:OkO st.1.2.1.xs p):Sp 1 n st (q3g (n,p,st)):=by
 obtain⟨⟨sg,t,a,j⟩,fns⟩:=st;obtain⟨⟨⟨jn,rfl,hj⟩,hv,hs,hf,hO,_⟩,hb⟩:=h;simp only at hj hv hb;have hv:=(hv _ (gc hj)).1;have hb:=hb _ (gc hj);unfold q3g qb2;simp only[ze hj,jj,yV];rw[wX _ _ (by simp only;omega)];simp only[jj,jl];by_cases h1:0<=idP n fns.xs[jn].V_.xs
 ·have h2:idP n fns.xs[jn].V_.xs < fns.xs[jn].V_.xs.length:=yC.2.1;obtain⟨i,hi⟩:∃i:Nat,idP n fns.xs[jn].V_.xs=(i:Int):=⟨_,(D6 h1).symm⟩
  rw[hi] at h2 h1;simp only[hi,h1,jq,ze (s:=fns.xs[jn].V_) (show i < _ by omega),jj];rcases zh6 (ok:=decide (fns.xs[jn].V_.xs[i].N_=n) && (decide (fns.xs[jn].V_.xs[i].M_=p.M_) && (decide (fns.xs[jn].V_.xs[i].t_=p.t_) && w))) (Q:=True) (e:=40) (s:=((sg,t,a,(jn:Int)),fns)) (by decide) (λ_=>trivial) with⟨e,_⟩ | e
  ·exact .inl ⟨_,e,(Gr.refl rfl rfl rfl rfl).mono (by omega),_,⟨jn,rfl,UC hj⟩,by omega⟩
  ·exact .inr e
 ·simp only[h1,jp,js,Dq];rw[ZA (by omega) (by omega),jj];refine .inl ⟨_,rfl,⟨rfl,rfl,rfl,by simp[Sl.set],λi h1 h2=>?_,λhk f hf p' hp'=>?_⟩,_,⟨jn,rfl,by simp only[Sl.set,G];exact List.getElem?_set_self hj⟩,yC.2.2.2 ⟨⟨n,p.M_,p.t_⟩,by simp,by simp⟩⟩
  rotate_left
  ·simp only[Sl.set,G] at hf;rcases Dv hf with hf | rfl
   ·exact hk f hf p' hp'
   ·exact zex (hk _ (gc hj)) (p:=⟨n,p.M_,p.t_⟩) hp p' hp'
  simp only[Sl.set,G,List.getElem_set];by_cases hij:jn=i
  ·subst hij;simp only[jq];exact⟨trivial,trivial,[⟨n,p.M_,p.t_⟩],rfl,by simp⟩
  ·simp only[hij,jp];exact⟨trivial,trivial,[],by simp⟩
theorem zAy(fs:Sl PNf)(n:Nd)(h:fs.xs.length<=50000):q49 (fs,n)=u (idx (λx=>decide (x.N_=n.T_)) fs.xs,fs,n):=by
 have:=wh (f:=q7j q55) (xs:=fs.xs) (p:=λx=>decide (x.N_=n.T_)) (st:=λi=>(fs.len,(i:Int),fs,n)) (yes:=λi =>.inl ((i:Int),fs,n)) (no :=.inr (fs,n))
  (λi hi=>by
   unfold q7j;simp only[jl,zm];rw[jv jA,ze hi,jj,jj,jj];show((u (decide (fs.xs[i].N_=n.T_))).bind _)=_;simp only[jj,zu (Zd:i < 1000000000)]
   grind)
  (by unfold q7j;simp only[jl,zm];rw[jx jA])
 unfold q49 qca;simp only[zm];have this:lpO (q7j q55) (fs.len,0,fs,n)=_:=this;rw[this];unfold idx;cases fs.xs.findIdx? _<;>rfl
theorem zxu{α:Type}{p:α->Bool}{l a:List α}(h:idx p l=(i:Int)):idx p (l++a)=(i:Int):=by
 unfold idx at h |-
 rw[List.findIdx?_append];cases e:l.findIdx? p with
 |none=>grind
 |some j=>grind
theorem KnX.gr{a b:CKt}(g:Gr m a b){n:Ut}(h:KnX a n):KnX b n:=by
 obtain⟨f,⟨j,k,d⟩,hi⟩:=h;obtain⟨c,rfl⟩:=U5.1 d;have hb:j < b.2.xs.length:=by rw[g.l];exact c
 obtain⟨_,_,o,e,_⟩:=g.f j c hb;obtain⟨i,hi⟩:∃i:Nat,idP n a.2.xs[j].V_.xs=(i:Int):=⟨_,(D6 hi).symm⟩
 refine⟨_,⟨j,g.j.trans k,UC hb⟩,?_⟩;rw[e,show idP n (a.2.xs[j].V_.xs++o)=(i:Int) from zxu hi];omega
theorem Kn.gr{a b:CKt}(g:Gr m a b){n:Ut}(h:Kn a n):Kn b n:=h.imp id λh=>h.gr g
theorem zuo{a b:CKt}(g:Gr m a b)(y:Ut):idx (λx=>decide (x.N_=y)) b.2.xs=idx (λx=>decide (x.N_=y)) a.2.xs:=by
 have h:b.2.xs.map qe.N_=a.2.xs.map qe.N_:=List.ext_getElem (by simp[g.l]) λi h1 h2=>by
  rw[L,L];exact(g.f i (by simpa using h2) (by simpa using h1)).1
 have k:∀l:List PNf,idx (λx=>decide (x.N_=y)) l=idx (λx=>decide (x=y)) (l.map qe.N_):=λl=>by
  unfold idx;rw[List.findIdx?_map];rfl
 rw[k,k,h]
theorem zfR.gr{a b:CKt}(g:Gr m a b){y:Ut}{l:List Ut}(h:zfR a.2.xs y l):zfR b.2.xs y l:=by
 obtain⟨k,f,h1,h2,j,d,n⟩:=h;obtain⟨c,rfl⟩:=U5.1 h2;have hb:k < b.2.xs.length:=by rw[g.l];exact c
 obtain⟨_,i,o,e,_⟩:=g.f k c hb;refine⟨k,_,(zuo g y).trans h1,UC hb,jE,jE,?_⟩;grind
theorem pN.gr{a b:CKt}(g:Gr m a b)(h:pN a n):pN b n:=⟨λc=>(h.q c).gr g,h.y,λc=>KnX.gr g (h.s c),λc=>by have:=h.c c;unfold QN at *;rw[g.s];exact this,λc=>zfR.gr g (h.f c)⟩
theorem zxv{st:CKt}(h:Vd st)(l:Sl Nd)(z:l.xs.length<=50000)(p:k < st.2.xs.length):LkQ ((∀k∈l.xs,Kn st k.T_)/\(l.xs.length:Int)=st.2.xs[k].P_/\Fit (l.xs.map q8.T_) st.2.xs[k].V_.xs) st (q25 (l,((k:Int),0,st.2.xs[k].P_),st)):=by
 obtain⟨x,v2,v3⟩:=h.v _ (gc p);have d:=Yr (s:=st.2.xs[k].V_) (lo:=0) (hi:=st.2.xs[k].P_) Zd v2 v3;rw[show(0:Int).toNat=0 from rfl,Dk] at d;unfold q25 q8f;simp only[yV,Vy,jj,jl,ze p,d];by_cases c:Sl.len l=st.2.xs[k].P_ - 0
 rotate_left
 ·simp only[c,jp,jo];exact .inr ⟨_,_,rfl,je⟩
 simp only[c,jq,jm];simp only[zh] at c
 rcases goE (f:=q6o q18 q1j) (n:=l.xs.length) (A:=CKt) (st:=λi a=>(((k:Int),0,st.2.xs[k].P_),l,st.2.xs[k].P_ - 0,(i:Int),a)) (fin:=λa =>.inr a) (J:=λi a=>a=st/\zfQ st l.xs st.2.xs[k].V_.xs i) (bad:=λr=>zab (u r))
  (λi hi a m=>by
   obtain⟨m,t⟩:=m;subst m;unfold q6o;simp only[jl,zm];have g:i < a.2.xs[k].V_.xs.length:=Zd
   rw[jv Zd,ze hi,jj,ze p,jj,d,jj];rw[ze (s:=⟨_,_⟩) jE];simp only[jj,Int.zero_add];rw[ze g,jj];rcases zpx h l.xs[i] (a.2.xs[k].V_.xs[i]) with⟨e,q⟩ | ⟨f,s,e,o⟩
   ·rw[e,jj,jm,zu Zd];exact .inl ⟨a,rfl,rfl,t.next (UC hi) (UC g) q⟩
   ·rw[e,jj,jo]
    exact .inr ⟨_,rfl,_,_,rfl,o⟩)
  (λa m=>by
   unfold q6o
   grind)
  (a:=st) ⟨rfl,λj b y=>Zd⟩ with⟨a,e,rfl,q⟩ | ⟨r,e,f,s,e2,o⟩
 ·exact .inl ⟨e,q.fin.1,Zd,q.fin.2⟩
 ·cases e2;exact .inr ⟨_,_,e,o⟩
abbrev Wy:PP:=⟨lit [],1,0⟩
noncomputable abbrev LF(F:Nat):=q2b q2e q3g q26 q49 q18 q25 q1j (q2q F)
def StP(s:Nd):Prop:=∀F (st:CKt) (l:Sl Nd) (i:Nat) (hi:i < l.xs.length),l.xs[i]=s->l.xs.length<=50000->zl s<=F->Vc (zl s) st->
 (∃b,LF F (l,l.len,(i:Int),st.1,st.2,Wy)=u (.next (l,l.len,((i+1:Nat):Int),b.1,b.2,Wy))/\Gr (zl s) st b/\AllN (pN b) s)\/∃r,LF F (l,l.len,(i:Int),st.1,st.2,Wy)=u (.done r)/\zab (u r)
def BlP(n:Nat)(ks:Sl Nd):Prop:=∀F (st:CKt),n<=F->Vc n st->(∃b,q2q F (ks,st)=u (.inr b)/\Gr n st b/\∀s∈ks.xs,AllN (pN b) s)\/zab (q2q F (ks,st))
theorem znE{ks:Sl Nd}(h:∀s∈ks.xs,StP s)(v:zd ks.xs<=40000):BlP (zd ks.xs+1) ks:=by
 intro F st p l;obtain⟨F,rfl⟩:∃k,F=k+1:=⟨F - 1,Zd⟩
 have t:=Wx ks.xs
 rcases goE (f:=LF F) (n:=ks.xs.length) (A:=CKt) (st:=λi a=>(ks,ks.len,(i:Int),a.1,a.2,Wy)) (fin:=λa =>.inr a) (J:=λi a=>Gr (zd (ks.xs.take i)) st a/\∀s∈ks.xs.take i,AllN (pN a) s) (bad:=λr=>zab (u r))
  (λi hi a c=>by
   have m:=Y2 hi;obtain⟨c,j⟩:=c;have d:Vc (zl ks.xs[i]) a:=Vc.gr (l.mono (Zd:zd (ks.xs.take i)+zl ks.xs[i]<=_)) c;rcases h _ (gc hi) F a ks i hi rfl Zd Zd d with⟨b,e,g,q⟩ | hb
   ·refine .inl ⟨b,e,?_⟩;rw[<- D7 hi,zN];refine⟨(c.trans g).mono (by simp[zd]),λs hs=>?_⟩;rcases Ux.1 hs with hs | hs
    ·exact(j s hs).mono λn=>pN.gr g
    grind
   grind)
  (λa c=>by
   show q2b _ _ _ _ _ _ _ _ _=_;unfold q2b;simp only[jl]
   rw[jx jA])
  (a:=st) ⟨(Gr.refl rfl rfl rfl rfl).mono Zd,je⟩ with⟨a,e,g,q⟩ | ⟨r,e,f,s,e2,hf⟩
 ·rw[Dl] at g q;refine .inl ⟨a,?_,g.mono Zd,q⟩;exact congrArg (λo=>I o λy=>D (λa=>u (C a)) (λb=>u (E b)) y) e
 ·cases e2;exact .inr ⟨f,s,congrArg (λo=>I o λy=>D (λa=>u (C a)) (λb=>u (E b)) y) e,hf⟩
abbrev XT:=(Int×Int)×CKt⊕Sl Nd×Int×Int×(Sl PSg×Sl PT×Int×Int)×Sl PNf×PP
def zpz(R:CKt->Prop)(l:Sl Nd)(i:Nat)(X:Uv XT):Prop:=(∃b,X=u (.inr (l,l.len,(i:Int),b.1,b.2,Wy))/\R b)\/zab X
theorem zvp {R:CKt->Prop}{l:Sl Nd}{X:Uv XT}(h:zpz R l i X) (hi:i < 1000000000) :
    (∃b:CKt,(X.bind λc=>D (λd=>u (Step.done (C d:FTt))) (λa=>u (Step.next (a.1,a.2.1,Uw (a.2.2.1+1),a.2.2.2))) c)=u (.next (l,l.len,((i+1:Nat):Int),b.1,b.2,Wy))/\R b)\/
    ∃r,(X.bind λc=>D (λd=>u (Step.done (C d:FTt))) (λa=>u (Step.next (a.1,a.2.1,Uw (a.2.2.1+1),a.2.2.2))) c)=u (.done r)/\zab (u r):=by
 rcases h with⟨b,rfl,g⟩ | ⟨f,s,rfl,e⟩
 ·exact .inl ⟨b,by simp only[jj,jm,zu hi],g⟩
 ·exact .inr ⟨_,by simp only[jj,jo];rfl,_,_,rfl,e⟩
def atS(st:CKt)(a:Int):CKt:=((st.1.1,st.1.2.1,a,st.1.2.2.2),st.2)
theorem Vd.at{st:CKt}(h:Vd st)(a:Int):Vd (atS st a):=⟨h.j,h.v,h.s,h.f,h.o,h.g⟩
theorem Vc.at{st:CKt}(h:Vc k st)(a:Int):Vc k (atS st a):=⟨h.1.at a,h.2⟩
theorem Gr.at{st b:CKt}(h:Gr m (atS st a) b):Gr m st b:=⟨h.s,h.t,h.j,h.l,h.f,h.k⟩
theorem g0{st:CKt}:Gr m st (atS st a):=(Gr.refl (a:=st) (b:=atS st a) rfl rfl rfl rfl).mono (UE _)
theorem zh7{k:Nd}(h:n.K_=⟨[k],w⟩)(c:zl n<=40000):k.K_.xs.length<=50000:=by
 have a:=@ZY n k (by rw[h];simp);have b:=@Zm k;omega
theorem Vz{s:Nd}(g:StmtG s)(M:zl s<=40000)(U:s.k_≠15)(P:s.k_≠16):StP s:=by
 intro F st l i hi hs Y X A;show(∃b,q2b _ _ _ _ _ _ _ _ _=_/\_)\/∃r,q2b _ _ _ _ _ _ _ _ _=_/\_
 unfold q2b;simp only[jl,zm,yV];rw[jv jA,ze hi,hs,jj];refine zvp ?_ Zd;have z:=A.1.at s.a_;have bad:∀{e:Int},e≠0->zpz (λb=>Gr (zl s) st b/\AllN (pN b) s) l i (u (.inl ((s.a_,e),atS st s.a_))):=λR =>.inr ⟨_,_,rfl,R⟩
 have ok:AllN (pN (atS st s.a_)) s->zpz (λb=>Gr (zl s) st b/\AllN (pN b) s) l i (u (.inr (l,l.len,(i:Int),(atS st s.a_).1,(atS st s.a_).2,Wy))):=λh =>.inl ⟨_,rfl,g0,h⟩
 have m:∀(b:Bool) (e:Int),q18 (b,e,(st.1.1,st.1.2.1,s.a_,st.1.2.2.2),st.2)=u (if b=w then .inr (atS st s.a_) else .inl ((s.a_,e),atS st s.a_)):=λb e=>Vy b e (atS st s.a_)
 cases g with
 | @leaf k t n a c=>
  rcases c with rfl | rfl | rfl | rfl | rfl
  ·simp (decide:=true) only [js,jr,jq,jp,jk,jj,jo,jm,m];grind
  ·simp (decide:=true) only [js,jr,jq,jp,jk,jj,jo,jm,m];grind
  ·simp (decide:=true) only [js,jr,jq,jp,jk,jj,jo,jm,m];grind
  ·simp (decide:=true) only [js,jr,jq,jp,jk,jj,jo,jm,m,show(nilS:Sl Nd).len=0 from rfl];exact ok (.mk (.o je je je) je)
  ·simp (decide:=true) only [js,jr,jq,jp,jk,jj,jo,jm,m];exact ok (.mk (.o je je je) je)
 |ite=>grind
 |whl=>grind
 |ret c=>
  simp (decide:=true) only [jr,jq,jp,jk,jj,jo,jm,m,show∀x:Nd,Sl.len (⟨[x],w⟩:Sl Nd)=1 from λ_=>rfl];grind
 | @fork t n a ks c=>
  have O:=@Zm ⟨19,t,n,a,ks⟩;have e:=zAy st.2 ⟨19,t,n,a,ks⟩ A.1.f;generalize Q:idx (λx:PNf=>decide (x.N_=(q8.mk 19 t n a ks).T_)) st.2.xs=x at e;simp (decide:=true) only [jr,jq,jp,jk,jj,m,e];by_cases h1:0<=x
  rotate_left
  ·grind
  obtain⟨k,rfl⟩:∃k:Nat,x=(k:Int):=⟨_,(D6 h1).symm⟩
  have j:k < st.2.xs.length:=by have h:idx (λx:PNf=>decide (x.N_=(q8.mk 19 t n a ks).T_)) st.2.xs < st.2.xs.length:=yC.2.1;omega
  obtain⟨W,v2,v3⟩:=A.1.v _ (gc j);simp only[h1,js,jq,jm];rw[show(atS st a).2=st.2 from rfl];simp only[ze j,jj,Yr (s:=st.2.xs[k].V_) (lo:=0) (hi:=st.2.xs[k].P_) Zd v2 v3];rcases zxv (st:=atS st a) z ks jE (k:=k) j with⟨e,q⟩ | ⟨f,s,e,y⟩
  ·have e:q25 (ks,((k:Int),0,st.2.xs[k].P_),atS st a)=_:=e;simp only[e,jj,jm];obtain⟨q,S,T⟩:=q;exact ok (.mk ⟨je,je,je,je,λ_=>⟨k,_,Q,UC j,by rw[Dt];exact S,v3,λi b p hb hp=>T i b p hb (by rw[List.getElem?_take] at hp;split at hp<;>first | exact hp | cases hp)⟩⟩ λk j=>xL (c k j) (q k j))
  ·have e:q25 (ks,((k:Int),0,st.2.xs[k].P_),atS st a)=_:=e;simp only[e,jj,jo];exact .inr ⟨_,_,rfl,y⟩
 | @call t n a x c=>
  rcases zr7 (st:=atS st a) z x (zh7 (n:=⟨20,t,n,a,⟨[x],w⟩⟩) rfl M) with⟨p,e,_,q,qc⟩ | ⟨f,s,e,y⟩
  ·have e:q26 (x,(st.1.1,st.1.2.1,a,st.1.2.2.2),st.2)=_:=e;simp (decide:=true) only [jr,jq,jp,jk,jj,show za (⟨[x],w⟩:Sl Nd) 0=u x from rfl,e,jm];refine ok (.mk (.o je je je) λk j=>?_);obtain rfl:=Dr.1 j;exact .mk ⟨by simp[c.1],by simp[c.1],by simp[c.1],λ_=>qc,by simp[c.1]⟩ λk j=>xL (c.2 k j) (q k j)
  ·have e:q26 (x,(st.1.1,st.1.2.1,a,st.1.2.2.2),st.2)=_:=e;simp (decide:=true) only [jr,jq,jp,jk,jj,show za (⟨[x],w⟩:Sl Nd) 0=u x from rfl,e,jo];exact .inr ⟨_,_,rfl,y⟩
 |store c d=>
  simp (decide:=true) only [jr,jp,jk,jj,jo,jm,m];grind
 | @set t n a x c=>
  rcases zy6 (st:=atS st a) z c (zh7 (n:=⟨10,t,n,a,⟨[x],w⟩⟩) rfl M) with⟨p,e,q,qo⟩ | ⟨f,s,e,y⟩
  ·have e:q2e (x,(st.1.1,st.1.2.1,a,st.1.2.2.2),st.2)=_:=e;simp (decide:=true) only [jr,jq,jp,jk,jj,show za (⟨[x],w⟩:Sl Nd) 0=u x from rfl,e,jo];rcases zAx (st:=atS st a) ((A.mono (z7 _)).at a) t p qo with⟨b,e,g,V⟩ | ⟨f,s,e,y⟩
   ·simp only[e,jj,jm];refine .inl ⟨b,rfl,(g.mono (z7 _)).at,.mk ⟨je,je,λ_=>V,je,je⟩ λk j=>?_⟩;obtain rfl:=Dr.1 j;exact q.mono λn=>pN.gr g
   ·simp only[e,jj,jo];exact .inr ⟨_,_,rfl,y⟩
  ·have e:q2e (x,(st.1.1,st.1.2.1,a,st.1.2.2.2),st.2)=_:=e;simp (decide:=true) only [jr,jq,jp,jk,jj,show za (⟨[x],w⟩:Sl Nd) 0=u x from rfl,e,jm];exact .inr ⟨_,_,rfl,y⟩
theorem zg1{k:Int}{op:Ut}{n:Int}{x y:Nd}{bs:List Nd}(hk:k=15\/k=16)(p:zl ⟨k,op,n,a,⟨x::y::bs,w⟩⟩<=40000)(W:ZQ x)(Z:ZQ y)(hb:∀b∈bs,b.k_=9/\BlP (zl b) b.K_):StP ⟨k,op,n,a,⟨x::y::bs,w⟩⟩:=by
 intro F st l i hi hs hl hF U;have X:zl ⟨k,op,n,a,⟨x::y::bs,w⟩⟩=zl x+(zl y+zd bs)+1:=by rw[zk];simp[zd]
 have px:=z7 x;have py:=z7 y;show(∃b,q2b _ _ _ _ _ _ _ _ _=_/\_)\/∃r,q2b _ _ _ _ _ _ _ _ _=_/\_
 unfold q2b;simp only[jl,zm,yV];rw[jv jA,ze hi,hs,jj];refine zvp ?_ Zd;have P:=U.1.at a;have hgs:z8 (⟨x::y::bs,w⟩:Sl Nd) 2 (⟨x::y::bs,w⟩:Sl Nd).len=u ⟨bs,w⟩:=by
  rw[Yr Zd (by simp only[zh,jz];omega) jA];simp only[zh,G,Dl];rfl
 have hbl:=Wx bs;have t:∀z:Nd,LkQ (Kn (atS st a) z.T_) (atS st a) (q1j (z,Wy,(st.1.1,st.1.2.1,a,st.1.2.2.2),st.2)):=λz=>by
  rcases zpx P z Wy with⟨e,q⟩ | e
  ·exact .inl ⟨e,q.1⟩
  ·exact .inr e
 have V:Kn (atS st a) x.T_->Kn (atS st a) y.T_->zpz (λc=>Gr (zl ⟨k,op,n,a,⟨x::y::bs,w⟩⟩) st c/\AllN (pN c) ⟨k,op,n,a,⟨x::y::bs,w⟩⟩) l i ((lpO (q5l q2e q3g q26 q49 q18 q25 q1j (q2q F)) (l,l.len,(i:Int),⟨bs,w⟩,(⟨bs,w⟩:Sl Nd).len,0,(atS st a).1,(atS st a).2,Wy))):=by
  intro T S
  rcases goE (f:=q5l q2e q3g q26 q49 q18 q25 q1j (q2q F)) (n:=bs.length) (A:=CKt)
   (st:=λj c=>(l,l.len,(i:Int),⟨bs,w⟩,(⟨bs,w⟩:Sl Nd).len,(j:Int),c.1,c.2,Wy)) (fin:=λc =>.inr (l,l.len,(i:Int),c.1,c.2,Wy)) (J:=λj c=>Gr (zd (bs.take j)) (atS st a) c/\∀b∈bs.take j,AllN (pN c) b) (bad:=λr=>zab (u r))
   (λj O c M=>by
    obtain⟨M,Y⟩:=M;unfold q5l;simp only[jl];rw[jv jA,ze (s:=⟨bs,w⟩) O,jj];have p:=Y2 O;have Q:Vc (zl bs[j]) c:=Vc.gr ((U.at a).mono (Zd:zd (bs.take j)+zl bs[j]<=_)) M;obtain⟨v,R⟩:=hb _ (gc O);rcases R F c Zd Q with⟨b,e,g,q⟩ | ⟨f,s,e,t⟩
    ·refine .inl ⟨b,?_,?_⟩
     ·show((q2q F (bs[j].K_,c)).bind _)=_;rw[e,jj,jm,zu Zd]
     ·rw[<- D7 O,zN];refine⟨(M.trans g).mono (by simp[zd]),λs hs=>?_⟩;rcases Ux.1 hs with hs | hs
      ·exact(Y s hs).mono λn=>pN.gr g
      ·rw[Dr] at hs;subst hs;exact .mk (.o (by simp[v]) (by simp[v]) Zd) q
    ·refine .inr ⟨.inl (f,s),?_,f,s,rfl,t⟩
     grind)
   (λc M=>by
    unfold q5l;simp only[jl]
    rw[jx jA])
   (a:=atS st a) ⟨(Gr.refl rfl rfl rfl rfl).mono Zd,je⟩ with⟨c,e,g,q⟩ | ⟨r,e,f,s,d,t⟩
  ·rw[Dl] at g q;refine .inl ⟨c,e,(g.mono Zd).at,.mk (.o (λh=>jE) (λh=>jE) jE) λz p=>?_⟩
   ·rcases UU.1 p with rfl | p
    ·exact xL W (T.gr g)
    rcases UU.1 p with rfl | p
    ·exact xL Z (S.gr g)
    grind
  ·cases d;exact .inr ⟨_,_,e,t⟩
 rcases hk with rfl | rfl<;>
 ·simp (decide:=true) only [js,jr,jq,jp,jj,show za (⟨x::y::bs,w⟩:Sl Nd) 0=u x from rfl,show za (⟨x::y::bs,w⟩:Sl Nd) 1=u y from rfl];rcases t x with⟨e,T⟩ | ⟨f,s,e,m⟩
  rotate_left
  ·simp only[e,jj,jo];exact .inr ⟨_,_,rfl,m⟩
  have d:=t y;simp only[e,jj,jm];rcases d with⟨d,S⟩ | ⟨f,s,d,m⟩
  rotate_left
  ·have d:q1j (y,Wy,atS st a)=_:=d;simp only[d,jj,jo];exact .inr ⟨_,_,rfl,m⟩
  have d:q1j (y,Wy,atS st a)=_:=d;grind
theorem zy7{s:Nd}(h:StmtG s)(hs:zl s<=40000):StP s:=by
 have l:∀(a:Int) (b:List Nd),(∀s∈b,zl s<=40000->StP s)->zl ⟨9,lit [],0,a,mkS b⟩<=40000->BlP (zl ⟨9,lit [],0,a,mkS b⟩) (q8.mk 9 (lit []) 0 a (mkS b)).K_:=λa b o i=>by
  rw[zk] at i |-
  exact znE (λs hs=>o s hs (by have:=X5 hs;omega)) Zd
 induction h with
 | @ite op n a x y j m b2 a2 e f h1 h2 g i2=>
  refine zg1 (.inl rfl) hs e f λb hb=>?_
  rw[zk] at hs;simp only[zd] at hs;grind
 | @whl op n a x y j m e f h1 g=>
  refine zg1 (.inr rfl) hs e f λb hb=>?_
  rw[zk] at hs;simp only[zd] at hs;grind
 | @leaf k t n a c=>exact Vz (.leaf c) hs jE jE
 |ret c=>exact Vz (.ret c) hs je je
 |fork c=>exact Vz (.fork c) hs je je
 |call c=>exact Vz (.call c) hs je je
 |store c d=>exact Vz (.store c d) hs je je
 |set c=>exact Vz (.set c) hs je je
theorem zy8{b:Nd}(h:zaa b)(hs:zl b<=40000):BlP (zl b) b.K_:=by
 obtain⟨a,l,rfl,d⟩:=h;rw[zk] at hs |-
 have hs:zd l+1<=40000:=hs;exact znE (λs c=>zy7 (d s c) (by have:zl s<=zd l:=X5 c;omega)) jE
structure FnR(m:Nat)(k:Nd)(f:PNf):Prop where
 g:FnG k
 p:f.P_=((Xn k).length:Int)
 l:(Xn k).length<=8
 v:(Xn k).length<=f.V_.xs.length/\f.V_.xs.length<=(Xn k).length+m
def xI(m:Nat)(ks:List Nd)(fs:List PNf):Prop:=∃h:fs.length=ks.length,∀i (hi:i < ks.length),FnR m ks[i] (fs[i]' Zd)
theorem xI.mono{fs:List PNf}(h:xI m ks fs)(e:m<=k):xI k ks fs:=⟨h.1,λi hi=>by obtain⟨a,b,c,d⟩:=h.2 i hi;exact⟨a,b,c,Zd⟩⟩
theorem xI.snoc{fs:List PNf}{k:Nd}{f:PNf}(h:xI m ks fs)(g:FnR m k f):xI m (ks++[k]) (fs++[f]):=by
 have a:=h.1;refine⟨by simp[a],λi hi=>?_⟩;rw[jy,g9] at hi;by_cases c:i < ks.length
 ·rw[N c,N Zd];exact h.2 i c
 ·obtain rfl:i=ks.length:=Zd
  grind
abbrev OkS(t:Sl PT)(fs:Sl PNf):Prop:=∀f∈fs.xs,∀p∈f.V_.xs,OkO t.xs p
theorem xI.vc{c:Int}{fs:Sl PNf}(g:OkS t fs)(b:∀s∈sg.xs,OkO t.xs s.R_)(h:xI m ks fs.xs)(hs:sg.xs.length<=50000)(e:ks.length<=50000)(k:m+5000<=50000)(hi:i < ks.length):Vc 5000 ((sg,t,c,(i:Int)),fs):=by
 have key:∀f∈fs.xs,f.V_.xs.length<=m+8/\0<=f.P_/\f.P_<=f.V_.xs.length:=by
  intro f a;obtain⟨j,d,rfl⟩:=H a;have r:=h.2 j (by rw[<- h.1];exact d);have o:=r.v;have n:=r.l;have hp:=r.p;grind
 exact⟨⟨⟨i,rfl,by show i < fs.xs.length;rw[h.1];exact hi⟩,λf a=>⟨jE,(key f a).2⟩,hs,by show fs.xs.length<=_;rw[h.1];exact e,g,b⟩,λf a=>jE⟩
theorem xI.gr{a b:CKt}(h:xI m ks a.2.xs)(g:Gr k a b):xI (m+k) ks b.2.xs:=
 ⟨g.l.trans h.1,λi hi=>by
  have r:=h.2 i hi;obtain⟨_,g2,d,c,e⟩:=g.f i jE (by rw[g.l,h.1];exact hi);have j:=r.v;have c:=congrArg K c;rw[jy] at c
  exact⟨r.g,g2.trans r.p,r.l,Zd⟩⟩
theorem zr8(n:Nd)(ok:Bool)(e:Int)(s:CKt):q40 (n,ok,e,s)=u (if ok=w then .inr (atS s n.a_) else .inl ((n.a_,e),atS s n.a_)):=by cases ok<;>rfl
noncomputable abbrev LC0:=q7k q2a q3q q6w q47 q5e q40 q62
noncomputable abbrev LC1:=q7l q2a q3q q6w q47 q5e q40 q62
def zpA(n:Nd)(r:((Int×Int)×Nd×Int×Int)⊕β):Prop:=∃f,r = .inl (f,n,0,0)/\f.2≠0
theorem zy9 (g:UnitG n) (sg:Sl PSg) (t:Sl PT) (l:t.xs.length<=100000) (c:Int) :
    (∃a fs,lpO LC0 (n.K_,n.K_.len,0,n,0,0,(sg,t,c),Sl.mk [] B)=u (.inr (n,0,0,(sg,t,a),fs))/\xI 0 n.K_.xs fs.xs/\OkS t fs)\/
    ∃r,lpO LC0 (n.K_,n.K_.len,0,n,0,0,(sg,t,c),Sl.mk [] B)=u r/\zpA n r:=by
 have m:=@Zm n;have p:=g.size
 rcases goE (f:=LC0) (n:=n.K_.xs.length) (A:=Int×Sl PNf) (st:=λi a=>(n.K_,n.K_.len,(i:Int),n,0,0,(sg,t,a.1),a.2)) (fin:=λa =>.inr (n,0,0,(sg,t,a.1),a.2)) (J:=λi a=>xI 0 (n.K_.xs.take i) a.2.xs/\OkS t a.2) (bad:=zpA n)
  (λi hi a d=>by
    obtain⟨a,fs⟩:=a;obtain⟨d,o⟩:=d;have j:=d.1;rw[De] at j;simp only at j o;show(∃a',q7k _ _ _ _ _ _ _ _=_/\_)\/∃r,q7k _ _ _ _ _ _ _ _=_/\_
    unfold q7k;simp only[jl,zm,ZJ];rw[jv jA,ze hi,jj,zfP,jj];by_cases k:n.K_.xs[i].k_=6
    rotate_left
    ·simp only[k,jr,jk,jp,jo,jj];exact .inr ⟨_,rfl,_,rfl,je⟩
    simp only[k,js,jq,jm];have b:FnG n.K_.xs[i]:=by
     rcases g.kid _ (gc hi) with h | h
     ·exact absurd h.1 jE
     ·exact h
    rcases zy3 b (by have:=ZY (gc hi);omega) sg t l n.K_.xs[i].a_ fs with⟨a',vars,e,h8,hv,hvo⟩ | ⟨r,e,f,s,rfl,b⟩
    ·simp only[e,jj,jm];rw[ZA Zd Zd];simp only[jj,jm,zu (Zd:i < 1000000000)];refine .inl ⟨(a',_),rfl,?_⟩;rw[<- D7 hi];refine⟨d.snoc ⟨b,rfl,h8,jE⟩,λf b=>?_⟩;grind
    · simp only[e,jj,jo]
      exact .inr ⟨_,rfl,_,rfl,b⟩)
  (λa d=>by
    show q7k _ _ _ _ _ _ _ _=_;unfold q7k;simp only[jl,zm]
    rw[jx jA])
  (a:=(c,Sl.mk [] B)) ⟨⟨je,λi hi=>by simp at hi⟩,λf b=>by cases b⟩ with⟨⟨a,fs⟩,e,h⟩ | h
 all_goals grind
abbrev zpB(sg:Sl PSg)(t:Sl PT)(fs:Sl PNf)(k:Nd)(i:Nat):Prop:=∀b∈k.K_.xs,b.k_=9->AllN (pN ((sg,t,0,(i:Int)),fs)) b
theorem pN.grj{i j:Int}{fs:Sl PNf}{c:CKt}(g:Gr m ((sg,t,a,i),fs) c)(h:pN ((sg,t,0,j),fs) n):pN ((sg,t,0,j),c.2) n:=
 h.gr (m:=m) (a:=((sg,t,0,j),fs)) (b:=((sg,t,0,j),c.2)) ⟨rfl,rfl,rfl,g.l,g.f,λh=>by have:=g.k h;rw[g.t] at this;exact this⟩
theorem pN.at'{i:Int}{c:CKt}(h:pN c n)(cs:c.1.1=sg)(b:c.1.2.1=t)(a:c.1.2.2.2=i):pN ((sg,t,0,i),c.2) n:=by
 subst cs b a;exact h
theorem zza (hg:UnitG n) (sg:Sl PSg) (t:Sl PT) (hsg:∀s∈sg.xs,OkO t.xs s.R_) (hs:sg.xs.length<=50000) (at0:Int) {fs0:Sl PNf}(h0:xI 0 n.K_.xs fs0.xs) (o0:OkS t fs0) :
    (∃a fs,lpO LC1 (n.K_,n.K_.len,0,n,0,0,(sg,t,at0),fs0)=u (.inr (n,0,0,(sg,t,a),fs))/\xI 5000 n.K_.xs fs.xs/\OkS t fs/\∀(i:Nat) (hi:i < n.K_.xs.length),zpB sg t fs n.K_.xs[i] i)\/
    ∃r,lpO LC1 (n.K_,n.K_.len,0,n,0,0,(sg,t,at0),fs0)=u r/\zpA n r:=by
 have hkl:=@Zm n;have hsz:=hg.size;have hse:=zk n
 rcases goE (f:=LC1) (n:=n.K_.xs.length) (A:=Int×Sl PNf) (st:=λi a=>(n.K_,n.K_.len,(i:Int),n,0,0,(sg,t,a.1),a.2)) (fin:=λa =>.inr (n,0,0,(sg,t,a.1),a.2)) (J:=λi a=>xI (zd (n.K_.xs.take i)) n.K_.xs a.2.xs/\OkS t a.2/\∀(k:Nat) (hk:k < n.K_.xs.length),k < i->zpB sg t a.2 n.K_.xs[k] k) (bad:=zpA n)
  (λi hi a ha=>by
    obtain⟨a,fs⟩:=a;obtain⟨ha,hO,hD⟩:=ha;have hl:=ha.1;have hst:=Y2 hi;simp only at hl hD;have r:=ha.2 i hi;obtain⟨k6,ps,rr,b,hk,hpp,hrr,hr8,hb⟩:=r.g;have hk':=congrArg Sl.xs hk;simp only at hk';have hlen:n.K_.xs[i].K_.xs.length=ps.length+2:=by rw[hk];simp
    have hki:=@Zm n.K_.xs[i];have hbz:=ZY (n:=n.K_.xs[i]) (k:=b) (by rw[hk];simp);have hgl:za n.K_.xs[i].K_ (Uw (n.K_.xs[i].K_.len - 1))=u b:=by
     rw[zh,hlen,zF (by omega) (by omega),show(((ps.length+2:Nat):Int) - 1)=((ps.length+1:Nat):Int) by omega,ze (by omega)];simp[hk]
    show(∃a',q7l _ _ _ _ _ _ _ _=_/\_)\/∃r,q7l _ _ _ _ _ _ _ _=_/\_
    unfold q7l;simp only[jl,zm];rw[jv (by simp only[zh];omega),ze hi,jj,ze (s:=fs) (by omega),jj,hgl,jj];have vc:Vc 5000 ((sg,t,a,(i:Int)),fs):=ha.vc hO hsg hs (by omega) (by omega) hi;have hbl:=zy8 hb (by omega) 100000 ((sg,t,a,(i:Int)),fs) (by omega) (vc.mono (by omega));rcases hbl with⟨c,e,g,q⟩ | ⟨f,s,e,hf⟩
    rotate_left
    ·have e:q47 (b.K_,(sg,t,a,(i:Int)),fs)=_:=e;simp only[e,jj,jo];exact .inr ⟨_,rfl,_,rfl,hf⟩
    have e:q47 (b.K_,(sg,t,a,(i:Int)),fs)=_:=e;have hj:c.1.2.2.2=(i:Int):=g.j;have gl:c.2.xs.length=fs.xs.length:=g.l;have hci:i < c.2.xs.length:=by omega
    have fin':xI (zd (n.K_.xs.take (i+1))) n.K_.xs c.2.xs:=by
     rw[<- D7 hi,zN];exact(xI.gr (a:=((sg,t,a,(i:Int)),fs)) ha g).mono (by simp only[zd];omega)
    have cs:c.1.1=sg:=g.s;have ct:c.1.2.1=t:=g.t;simp only[e,jj,jm,hj,ze hci,zr8];by_cases h64:Sl.len c.2.xs[i].V_<=64
    rotate_left
    ·simp only[h64,jp,jk,jo,jj];exact .inr ⟨_,rfl,_,rfl,by simp⟩
    obtain⟨cc,e1,_⟩:=zpw (Q:=λ_=>True) r.g (by omega) trivial λ_ _ _=>zl3 (λ_=>⟨λ_=>trivial,λ_=>trivial,λ_=>trivial,λ_=>trivial,λ_=>trivial⟩) _
    simp only[h64,jq,e1,jj];by_cases h5:Sl.len cc.L_<=512
    · simp only[h5,js,jq,jj,jm,zu (show i < 1000000000 by omega),atS,cs,ct];refine .inl ⟨(_,_),rfl,fin',by have:=g.k hO;grind,λk hk hki=>?_⟩;have st2:∀{j:Nat} {x:Nd},AllN (pN ((sg,t,0,(j:Int)),fs)) x->AllN (pN ((sg,t,0,(j:Int)),c.2)) x:=λh=>h.mono λn=>pN.grj g
      by_cases hlt:k < i
      ·grind
      · obtain rfl:k=i:=by omega
        intro z hz h9;rw[hk'] at hz;rcases Ux.1 hz with hz | hz
        ·have:=(hpp z hz).1;omega
        rcases UU.1 hz with rfl | hz
        ·omega
        ·obtain rfl:=Dr.1 hz;exact .mk (.o (by simp[h9]) (by simp[h9]) (by omega)) λs hs=>(q s hs).mono λn h=>h.at' cs ct hj
    · simp only[h5,jr,jp,jk,jo,jj]
      exact .inr ⟨_,rfl,_,rfl,by simp⟩)
  (λa ha=>by
    show q7l _ _ _ _ _ _ _ _=_;unfold q7l;simp only[jl,zm]
    rw[jx (by simp only[zh];omega)])
  (a:=(at0,fs0)) ⟨by simpa[zd] using h0,o0,λk hk h=>by omega⟩ with⟨⟨a,fs⟩,e,h,hO,hD⟩ | h
 ·rw[Dl] at h;exact .inl ⟨a,fs,e,h.mono (by omega),hO,λi hi=>hD i hi hi⟩
 grind
theorem zup (g:UnitG n) (sg:Sl PSg) (t:Sl PT) (d:∀s∈sg.xs,OkO t.xs s.R_) (hs:sg.xs.length<=50000) (j:t.xs.length<=100000) :
    ∃a e fs,q8a (n,sg,t)=u (a,e,fs)/\(e≠0/\fs.xs=[]\/e=0/\xI 5000 n.K_.xs fs.xs/\OkS t fs/\∀(i:Nat) (hi:i < n.K_.xs.length),zpB sg t fs n.K_.xs[i] i):=by
 unfold q8a qes;simp only[zm];rcases zy9 g sg t j 0 with⟨a,fs,e,h,o⟩ | ⟨r,e,f,rfl,c⟩
 · rw[e];simp only[jj,jm];rcases zza g sg t d hs a h o with⟨b,k,e,h⟩ | ⟨r,e,f,rfl,c⟩
   ·rw[e];exact⟨_,_,k,rfl,.inr ⟨rfl,h⟩⟩
   ·rw[e];exact⟨_,_,_,rfl,.inl ⟨c,rfl⟩⟩
 ·rw[e];exact⟨_,_,_,rfl,.inl ⟨c,rfl⟩⟩
end Go.Px
