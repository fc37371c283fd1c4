/- Part Lg. -/
import Derived.Test.YtlhommikjhhmbaaGreatDoorLf
set_option linter.unusedVariables false
set_option linter.unusedSimpArgs false
set_option linter.unusedSectionVars false
namespace Go.Px
open Bool renaming true->w,false->B
open Int renaming toNat_natCast->G
open List renaming getElem_of_mem->H,length->K,getElem_map->L,getElem_append_left->N
open _root_.Option renaming some->u,bind->I
open Sum renaming inl->C,elim->D,inr->E
variable{a:Int}{i k m:Nat}{ks:List Nd}{n:Nd}{sg:Sl PSg}{t:Sl PT}{β:Type}
abbrev PNf:=qe
abbrev KS:=(Sl PSg×Sl PT×Int)×Sl PNf
theorem goE {S R A:Type}{f:S->U3 (Step S R)}{n:Nat}{st:Nat->A->S}{fin:A->R}{J:Nat->A->Prop}{bad:R->Prop}
    (h:∀i,i < n->∀a,J i a->(∃a',f (st i a)=u (.next (st (i+1) a'))/\J (i+1) a')\/∃r,f (st i a)=u (.done r)/\bad r)
    (h0:∀a,J n a->f (st n a)=u (.done (fin a))) {a:A} (c:J 0 a) :
    (∃a',lpO f (st 0 a)=u (fin a')/\J n a')\/∃r,lpO f (st 0 a)=u r/\bad r:=by
 have:∀(m i:Nat) (a:A),i+m=n->J i a->(∃a',lpO f (st i a)=u (fin a')/\J n a')\/∃r,lpO f (st i a)=u r/\bad r:=by
  intro m
  induction m with
  |zero=>
   intro i a hi c;obtain rfl:i=n:=Zc
   exact .inl ⟨a,zw (h0 a c),c⟩
  |succ m g=>
   intro i a hi c;rcases h i Zc a c with⟨a',h1,h2⟩ | ⟨r,h1,h2⟩
   · rcases g (i+1) a' Zc h2 with⟨b,e,d⟩ | ⟨r,e,d⟩
     ·exact .inl ⟨b,by rw[zA h1,e],d⟩
     ·exact .inr ⟨r,by rw[zA h1,e],d⟩
   ·exact .inr ⟨r,zw h1,h2⟩
 exact this n 0 a Zc c
theorem zy6(ok:Bool)(e:Int)(s:KS):q3k (ok,e,s)=u (if ok=w then .inr s else .inl ((s.1.2.2,e),s)):=by cases ok<;>rfl
theorem zfQ(n:Nd)(ok:Bool)(e:Int)(s:KS):q29 (n,ok,e,s)=u (if ok=w then .inr ((s.1.1,s.1.2.1,n.a_),s.2) else .inl ((n.a_,e),(s.1.1,s.1.2.1,n.a_),s.2)):=by cases ok<;>rfl
theorem wY(f:PNf)(n:U0)(h:f.V_.xs.length<=1000000):q1s (f,n)=u (idP n f.V_.xs):=by
 have:=wh (f:=q6u q82) (xs:=f.V_.xs) (p:=λx=>decide (x.N_=n)) (st:=λi=>(f.V_,f.V_.len,(i:Int),n)) (yes:=λi =>.inl ((i:Int),n)) (no :=.inr n)
  (λi hi=>by
   unfold q6u;simp only[jl];rw[jv jA,ze hi,jj];show((u (decide (f.V_.xs[i].N_=n),n)).bind _)=_;simp only[jj,zu (Zc:i < 1000000000)]
   grind)
  (by unfold q6u;simp only[jl];rw[jx jA])
 show((((lpO (q6u q82) (f.V_,Sl.len f.V_,((0:Nat):Int),n)).bind _)).bind _)=_;rw[this];unfold idP idx;cases f.V_.xs.findIdx? _<;>rfl
def OkO(t:List PT)(p:PP):Prop:=p.M_=2->0<=p.t_/\p.t_ < t.length
theorem zeu{t:List PT}{l:List PP}{p:PP}(h:∀q∈l,OkO t q)(hp:OkO t p):∀q∈l++[p],OkO t q:=λq b=>by
 grind
def Xo(k:Nd):List Nd:=k.K_.xs.take (k.K_.xs.length - 2)
def zy7(r:((Int×Int)×KS)⊕β):Prop:=∃f s,r = .inl (f,s)/\f.2≠0
theorem zmj{m:Nd}(h:vq m)(b:m.T_=lit [111,119,110]):∃x,m.K_=⟨[x],w⟩:=by
 rcases h.2 with⟨h1,_⟩ | ⟨_,x,h2,_⟩
 ·rw[b] at h1;simp (decide:=true) only [] at h1
 grind
theorem zy8 {k:Nd}(h:FnG k) (hs:zl k<=40000) (sg:Sl PSg) (t:Sl PT) (ht:t.xs.length<=100000) (j:Int) (d:Sl PNf) :
    (∃at' c,q3l (k,(sg,t,j),d)=u (.inr ((k.T_,((Xo k).length:Int)),(sg,t,at'),d,c))/\(Xo k).length<=8/\c.xs.length=(Xo k).length/\∀p∈c.xs,OkO t.xs p)\/
    ∃r,q3l (k,(sg,t,j),d)=u r/\zy7 r:=by
 obtain⟨h6,ps,r,b,z,hp,Z,Y,hb⟩:=h;have g:k.K_.xs.length=ps.length+2:=by rw[z];simp
 have l:Xo k=ps:=by unfold Xo;grind
 have U:=@Zl k;rw[l];have V:U4 (k.K_.len - 2)=(ps.length:Int):=by rw[zf,g,zE Zc Zc];omega
 have M:z7 k.K_ 0 (ps.length:Int)=u ⟨ps,w⟩:=by
  rw[Ys Zc Zc Zc,z];simp
 have F:za k.K_ (ps.length:Int)=u r:=by rw[ze Zc];simp[z]
 unfold q3l qa2;simp only[zm,zfQ,jj,V,M,jl];by_cases R:(ps.length:Int)<=8
 rotate_left
 ·simp only[R,jp,jo];exact .inr ⟨_,rfl,_,_,rfl,je⟩
 simp only[R,jq,jm]
 have key:=goE (f:=q4q q29 q1s q2i q3k) (n:=ps.length) (A:=Int×Sl PP)
  (st:=λi a=>((ps.length:Int),⟨ps,w⟩,(⟨ps,w⟩:Sl Nd).len,(i:Int),(sg,t,a.1),d,k,(lit [],0),(k.T_,(ps.length:Int)),a.2)) (fin:=λa =>.inr ((ps.length:Int),(sg,t,a.1),d,k,(lit [],0),(k.T_,(ps.length:Int)),a.2))
  (J:=λi a=>a.2.xs.length=i/\∀p∈a.2.xs,OkO t.xs p) (bad:=zy7)
  (λi hi a Q=>by
    obtain⟨a,c⟩:=a;obtain⟨y,q⟩:=Q;simp only at y q;obtain⟨_,m,X,O⟩:=hp _ (gc hi);unfold q4q;simp only[jl,zm];rw[jv jA,ze (s:=⟨ps,w⟩) hi,jj];simp only;rw[X,show za (⟨[m],w⟩:Sl Nd) 0=u m from rfl,jj,wY _ _ jE];simp only[jj,zfQ,zy6,jl];by_cases h1:idP ps[i].T_ c.xs < 0
    rotate_left
    ·simp only[h1,jp,jj,jo];exact .inr ⟨_,rfl,_,_,rfl,je⟩
    simp only[h1,jq,jm];by_cases h2:m.T_=lit [105,110,116]
    · have P:¬ m.T_=lit [111,119,110]:=by rw[h2];simp (decide:=true) only []
      simp only[h2,jq,jj,jm];rw[<- h2];simp only[P,jp,jj,jm];rw[Zu Zc Zc];simp only[jj,jm,zu (Zc:i < 1000000000)];exact .inl ⟨(_,_),rfl,by simp[y],zeu q λh=>by simp at h⟩
    · simp only[h2,jp];by_cases v:m.T_=lit [111,119,110]
      rotate_left
      ·simp only[v,jp,jj,jo];exact .inr ⟨_,rfl,_,_,rfl,je⟩
      obtain⟨x,T⟩:=zmj O v;simp only[v,jq,jj,jm];rw[T,show za (⟨[x],w⟩:Sl Nd) 0=u x from rfl,jj];rw[zcB t _ (Zc:t.xs.length<=1000000),jj];by_cases o:0<=idT x.T_ t.xs
      rotate_left
      ·simp only[o,jp,jj,jo];exact .inr ⟨_,rfl,_,_,rfl,je⟩
      simp only[o,jq,jj,jm];rw[Zu Zc Zc];simp only[jj,jm,zu (Zc:i < 1000000000)]
      exact .inl ⟨(_,_),rfl,by simp[y],zeu q λ_=>⟨o,yE.2.1⟩⟩)
  (λa Q=>by
    unfold q4q;simp only[jl,zm]
    rw[jx jA])
  (a:=(k.a_,Sl.mk [] B)) ⟨rfl,je⟩
 rcases key with⟨⟨a,c⟩,e,e2⟩ | ⟨x,e,f,s,rfl,W⟩
 rotate_left
 ·have e:lpO (q4q q29 q1s q2i q3k) ((ps.length:Int),⟨ps,w⟩,(⟨ps,w⟩:Sl Nd).len,0,(sg,t,k.a_),d,k,(lit [],0),(k.T_,(ps.length:Int)),Sl.mk [] B)=_:=e;rw[e];exact .inr ⟨_,rfl,_,_,rfl,W⟩
 have e:lpO (q4q q29 q1s q2i q3k) ((ps.length:Int),⟨ps,w⟩,(⟨ps,w⟩:Sl Nd).len,0,(sg,t,k.a_),d,k,(lit [],0),(k.T_,(ps.length:Int)),Sl.mk [] B)=_:=e;rw[e];simp only[jj,jm,F];by_cases S:r.T_=lit []
 ·grind
 ·simp only[S,jp,jo];exact .inr ⟨_,rfl,_,_,rfl,je⟩
abbrev CKt:=(Sl PSg×Sl PT×Int×Int)×Sl PNf
abbrev FTt:=(Int×Int)×CKt⊕CKt
structure Vd(st:CKt):Prop where
 j:∃jn:Nat,st.1.2.2.2=(jn:Int)/\jn < st.2.xs.length
 v:∀f∈st.2.xs,f.V_.xs.length<=60000/\0<=f.P_/\f.P_<=f.V_.xs.length
 s:st.1.1.xs.length<=50000
 f:st.2.xs.length<=50000
 o:∀f∈st.2.xs,∀p∈f.V_.xs,OkO st.1.2.1.xs p
 g:∀s∈st.1.1.xs,OkO st.1.2.1.xs s.R_
def Cur(st:CKt)(f:PNf):Prop:=∃j:Nat,st.1.2.2.2=(j:Int)/\st.2.xs[j]?=u f
def KnX(st:CKt)(n:U0):Prop:=∃f,Cur st f/\0<=idP n f.V_.xs
def Kn(st:CKt)(n:U0):Prop:=n=lit []\/KnX st n
def V9(r:U3 ((Int×Int)×CKt⊕β)):Prop:=∃f s,r=u (.inl (f,s))/\f.2≠0
def LkQ(Q:Prop)(st:CKt)(r:U3 FTt):Prop:=(r=u (.inr st)/\Q)\/V9 r
def LkP(Q:PP->Prop)(st:CKt)(r:U3 ((Int×Int)×CKt⊕PP×CKt)):Prop:=(∃p,r=u (.inr (p,st))/\Q p)\/V9 r
theorem yW{α:Type}(r:U3 (α⊕β)):(r.bind λy=>D (λa=>u (C a)) (λb=>u (E b)) y)=r:=by
 cases r with | none=>rfl | some x=>grind
theorem Vw(ok:Bool)(e:Int)(s:CKt):q16 (ok,e,s)=u (if ok=w then .inr s else .inl ((s.1.2.2.1,e),s)):=by cases ok<;>rfl
theorem zid{Q:Prop}{ok:Bool}{e:Int}{s:CKt}(b:e≠0)(h:ok=w->Q):LkQ Q s (q16 (ok,e,s)):=by
 cases ok
 ·exact .inr ⟨_,_,rfl,b⟩
 ·exact .inl ⟨rfl,h rfl⟩
theorem zbu{Q:Prop}{c:Prop}[Decidable c]{s:CKt}{a b:U3 FTt}(d:c->LkQ Q s a)(hb:¬c->LkQ Q s b):LkQ Q s (if c then a else b):=by
 grind
theorem zbv{st:CKt}(h:Vd st)(n:U0):LkP (λp=>Kn st n/\OkO st.1.2.1.xs p) st (q4r (n,st)):=by
 obtain⟨⟨sg,t,a,j⟩,b⟩:=st;obtain⟨⟨c,rfl,d⟩,e,hs,o,f,_⟩:=h;simp only at d e f;have e:=(e _ (gc d)).1;unfold q4r q8w;simp only[ze d,jj];rw[wY _ _ jE];simp only[jj,Vw,jl];by_cases h1:0<=idP n b.xs[c].V_.xs
 ·have h2:idP n b.xs[c].V_.xs < b.xs[c].V_.xs.length:=yE.2.1;obtain⟨i,hi⟩:∃i:Nat,idP n b.xs[c].V_.xs=(i:Int):=⟨_,(DF h1).symm⟩
  have g:=hi;rw[hi] at h2 h1;simp only[hi,h1,jq,jm,ze d,jj,ze (s:=b.xs[c].V_) (Zc:i < _)];exact .inl ⟨_,rfl,.inr ⟨_,⟨c,rfl,UJ d⟩,Zc⟩,λl=>f _ (gc d) (b.xs[c].V_.xs[i]' Zc) (gc _) l⟩
 ·simp only[h1,jp,jo];exact .inr ⟨_,_,rfl,je⟩
theorem zpH{st:CKt}(h:Vd st)(n:Nd)(p:PP):LkQ (Kn st n.T_/\(p.M_=2->n.T_≠lit [])) st (q1k (n,p,st)):=by
 unfold q1k qb4;simp only[yW,zm];refine zbu (λc=>zid jI λq=>⟨.inl (by simpa using c),λh2=>by simp[h2] at q⟩) λc=>?_
 rcases zbv h n.T_ with⟨k,e,P0.F,_⟩ | ⟨f,s,e,j⟩
 ·have F:Kn st n.T_/\(p.M_=2->n.T_≠lit []):=⟨P0.F,λ_=>by simpa using c⟩;generalize (Kn st n.T_/\(p.M_=2->n.T_≠lit []))=P at F |-
  have M:∀(b:Bool) (e:Int),e≠0->LkQ P st (q16 (b,e,st)):=λb e g=>zid g λ_=>F
  simp only[e,jj,jm];refine zbu (λc1=>M _ _ jI) λc1=>?_
  by_cases d:p.M_=3
  ·simp only[d,js,jq,jj];exact zbu (λ_=>zbu (λ_=>M _ _ jI) (λ_=>M _ _ jI)) (λ_=>zbu (λ_=>zbu (λ_=>M _ _ jI) (λ_=>M _ _ jI)) (λ_=>M _ _ jI))
  ·simp (decide:=true) only [d,jr,jp,jj];grind
 ·simp only[e,jj,jo];exact .inr ⟨_,_,rfl,j⟩
def zfR(st:CKt)(l:List Nd)(p:List PP)(i:Nat):Prop:=∀(j:Nat) b,j < i->l[j]?=u b->Kn st b.T_/\∀q,p[j]?=u q->q.M_=2->b.T_≠lit []
theorem zfR.next{st:CKt}{l:List Nd}{p:List PP}(h:zfR st l p i){b:Nd}{q:PP}(hb:l[i]?=u b)(f:p[i]?=u q)(c:Kn st b.T_/\(q.M_=2->b.T_≠lit [])):zfR st l p (i+1):=λj x g d=>by
 by_cases e:j=i
 ·grind
 ·exact h j x Zc d
def Fit(l:List U0)(p:List PP):Prop:=∀(i:Nat) a q,l[i]?=u a->p[i]?=u q->q.M_=2->a≠lit []
theorem zfR.fin{st:CKt}{l:List Nd}{p:List PP}(h:zfR st l p l.length):(∀k∈l,Kn st k.T_)/\Fit (l.map q8.T_) p:=by
 refine⟨λk e=>?_,λi a q c d f=>?_⟩
 ·obtain⟨i,hi,rfl⟩:=H e;exact(h i _ hi (UJ hi)).1
 ·rw[UA,D9] at c;obtain⟨b,hb,rfl⟩:=c;exact(h i b (UC.1 hb).1 hb).2 q d f
theorem zy9{st:CKt}(h:Vd st)(l:Sl Nd)(p:Sl PP)(v:l.xs.length<=50000):LkQ ((∀k∈l.xs,Kn st k.T_)/\l.xs.length=p.xs.length/\Fit (l.xs.map q8.T_) p.xs) st (q6k (l,p,st)):=by
 unfold q6k qa3;simp only[yW,Vw,jj,jl];by_cases c:Sl.len l=Sl.len p
 rotate_left
 ·simp only[c,jp,jo];exact .inr ⟨_,_,rfl,je⟩
 simp only[c,jq,jm];simp only[zf] at c
 rcases goE (f:=q7g q16 q1k) (n:=l.xs.length) (A:=CKt) (st:=λi a=>(p,l,p.len,(i:Int),a)) (fin:=λa =>.inr a) (J:=λi a=>a=st/\zfR st l.xs p.xs i) (bad:=λr=>V9 (u r))
  (λi hi a g=>by
   obtain⟨rfl,o⟩:=g;unfold q7g;simp only[jl,zm];rw[jv jA,ze hi,jj,ze (s:=p) (Zc:i < _),jj];rcases zpH h l.xs[i] (p.xs[i]' Zc) with⟨e,q⟩ | ⟨f,s,e,d⟩
   ·rw[e,jj,jm,zu Zc];exact .inl ⟨a,rfl,rfl,o.next (UJ hi) (UJ (Zc:i < _)) q⟩
   ·rw[e,jj,jo]
    exact .inr ⟨_,rfl,_,_,rfl,d⟩)
  (λa g=>by
   unfold q7g;simp only[jl]
   rw[jx jA])
  (a:=st) ⟨rfl,λj b x=>Zc⟩ with⟨a,e,rfl,q⟩ | ⟨r,e,f,s,e2,d⟩
 ·exact .inl ⟨e,q.fin.1,Zc,q.fin.2⟩
 ·cases e2;exact .inr ⟨_,_,e,d⟩
theorem zza(sg:Sl PSg)(n:Nd)(h:sg.xs.length<=50000):q8o (sg,n)=u (idx (λx=>decide (x.N_=n.T_)) sg.xs,n):=by
 have:=wh (f:=q83 q5h) (xs:=sg.xs) (p:=λx=>decide (x.N_=n.T_)) (st:=λi=>(sg,sg.len,(i:Int),n)) (yes:=λi =>.inl ((i:Int),n)) (no :=.inr n)
  (λi hi=>by
   unfold q83;simp only[jl,zm];rw[jv jA,ze hi,jj];show((u (decide (sg.xs[i].N_=n.T_),q8.mk _ _ _ _ _)).bind _)=_;simp only[zm,jj,zu (Zc:i < 1000000000)]
   grind)
  (by unfold q83;simp only[jl,zm];rw[jx jA])
 unfold q8o qcx;simp only[zm];have this:lpO (q83 q5h) (sg,sg.len,0,n)=_:=this;rw[this];unfold idx;cases sg.xs.findIdx? _<;>rfl
def zpI(sg:List PSg)(y:U0)(l:List U0):Prop:=∃(k:Nat) (s:PSg),idx (λx=>decide (x.N_=y)) sg=(k:Int)/\sg[k]?=u s/\l.length=s.P_.xs.length/\Fit l s.P_.xs
theorem zsb{st:CKt}(h:Vd st)(n:Nd)(b:n.K_.xs.length<=50000):LkP (λp=>OkO st.1.2.1.xs p/\(∀k∈n.K_.xs,Kn st k.T_)/\zpI st.1.1.xs n.T_ (n.K_.xs.map q8.T_)) st (q26 (n,st)):=by
 have e:=zza st.1.1 n h.s;have hi:idx (λx=>decide (x.N_=n.T_)) st.1.1.xs < st.1.1.xs.length:=yE.2.1;generalize c:idx (λx=>decide (x.N_=n.T_)) st.1.1.xs=i at e hi;unfold q26 qa4;simp only[zm,e,jj,Vw,jl];by_cases h1:0<=i
 rotate_left
 ·simp only[h1,jp,jo];exact .inr ⟨_,_,rfl,je⟩
 obtain⟨j,rfl⟩:∃j:Nat,i=(j:Int):=⟨_,(DF h1).symm⟩
 simp only[h1,jq,jm,ze (s:=st.1.1) (Zc:j < _),jj];rcases zy9 h n.K_ (st.1.1.xs[j]' Zc).P_ b with⟨e,q⟩ | ⟨f,s,e,d⟩
 ·simp only[e,jj,jm,ze (s:=st.1.1) (Zc:j < _)];exact .inl ⟨_,rfl,h.g _ (gc _),q.1,j,_,c,UJ _,jE,q.2.2⟩
 ·simp only[e,jj,jo];exact .inr ⟨_,_,rfl,d⟩
def LkE(Q:PP->Prop)(st:CKt)(r:U3 (PP×CKt⊕(Int×Int)×CKt)):Prop:=(∃p,r=u (.inl (p,st))/\Q p)\/∃f s,r=u (.inr (f,s))/\f.2≠0
def zfS(fs:List PNf)(y:U0)(l:List U0):Prop:=∃(k:Nat) (f:PNf),idx (λx=>decide (x.N_=y)) fs=(k:Int)/\fs[k]?=u f/\(l.length:Int)=f.P_/\f.P_<=f.V_.xs.length/\Fit l (f.V_.xs.take l.length)
def QN(st:CKt):QK->Prop
 | .y=>False
 | .n b=>Kn st b
 | .x b=>KnX st b
 | .c y l=>zpI st.1.1.xs y l
 | .f y l=>zfS st.2.xs y l
abbrev pN(st:CKt):Nd->Prop:=pQ (QN st)
theorem xN{st:CKt}{k:Nd}(h:ZP k)(q:Kn st k.T_):AllN (pN st) k :=.mk (.o (λ_=>q) (λc=>by have:=h.2;omega) (by simp[h.2])) (by rw[h.1];simp)
theorem zzb{st:CKt}(h:Vd st)(g:ExprG n)(V:n.K_.xs.length<=50000):LkE (λp=>AllN (pN st) n/\OkO st.1.2.1.xs p) st (q2e (n,st)):=by
 have P:OkO st.1.2.1.xs ⟨lit [],1,0⟩:=λh=>by simp at h
 have d:LkE (λp=>AllN (pN st) n/\OkO st.1.2.1.xs p) st (u (E ((st.1.2.2.1,50),st))) :=.inr ⟨_,_,rfl,je⟩;unfold q2e qa5;simp only[zm,Vw];cases g with
 |term b h0=>
  have A:Kn st n.T_->AllN (pN st) n:=λq=>xN ⟨h0,b⟩ q
  simp only[b,js,jq];by_cases F:n.T_=lit []
  ·simp only[F,js,jq,jj,jo];exact .inl ⟨_,rfl,A (.inl F),P⟩
  simp only[F,jr,jk,jp];rcases zbv h n.T_ with⟨k,e,q,qo⟩ | ⟨f,s,e,l⟩
  rotate_left
  ·simp only[e,jj,jo,jm];exact .inr ⟨_,_,rfl,l⟩
  simp only[e,jj,jo,jm,jl];by_cases Q:n.n_=0
  ·simp only[Q,jq,jj,jo,jm];exact .inl ⟨_,rfl,A q,qo⟩
  simp only[Q,jp];by_cases j:k.M_=1
  ·simp only[j,jq,jj,jo,jm];exact .inl ⟨_,rfl,A q,qo⟩
  ·simp only[j,jp,jj,jo,jm];exact .inr ⟨_,_,rfl,je⟩
 |leaf b h0=>
  rcases b with b | b | b | b
  ·simp (decide:=true) only [b,jr,jq,jp,jk,jj,jo,jm];exact d
  ·simp (decide:=true) only [b,jr,jq,jp,jk,jj,jo,jm];exact d
  all_goals
   rcases zbv h n.T_ with⟨k,e,q,qo⟩ | ⟨f,s,e,l⟩
   ·simp (decide:=true) only [b,jr,js,jq,jp,jk,jj,jo,jm,e,jl];by_cases j:k.M_=2
    ·simp only[j,jq,jj,jo,jm];exact .inl ⟨_,rfl,.mk (.o (λ_=>q) (λc=>Zc) Zc) (by rw[show n.K_=nilS from h0];simp),λh=>by simp at h⟩
    ·simp only[j,jp,jj,jo,jm];exact .inr ⟨_,_,rfl,je⟩
   ·simp (decide:=true) only [b,jr,js,jq,jp,jk,jj,jo,jm,e];exact .inr ⟨_,_,rfl,l⟩
 |call b=>
  rcases zsb h n V with⟨k,e,qo,q,qc⟩ | ⟨f,s,e,l⟩
  ·simp (decide:=true) only [b.1,jr,jq,jp,jk,jj,jo,jm,e,jl];by_cases j:k.M_=0
   ·simp (decide:=true) only [j,jp,jj,jo,jm];exact .inr ⟨_,_,rfl,je⟩
   ·simp (decide:=true) only [j,jq,Dj,ju,jj,jo,jm];exact .inl ⟨_,rfl,.mk ⟨λh=>by have:=b.1;omega,λh=>by have:=b.1;omega,λh=>by have:=b.1;omega,λ_=>qc,λh=>by have:=b.1;omega⟩ λk O=>xN (b.2 k O) (q k O),qo⟩
  ·simp (decide:=true) only [b.1,jr,js,jq,jp,jk,jj,jo,jm,e];exact .inr ⟨_,_,rfl,l⟩
 |load b _ _=>
  simp (decide:=true) only [b,jr,jq,jp,jk,jj,jo,jm];exact d
 | @two x y b r T U=>
  have g0:za n.K_ 0=u x:=by rw[r];rfl
  have v:za n.K_ 1=u y:=by rw[r];rfl
  rcases zbv h x.T_ with⟨k,e,q,_⟩ | ⟨f,s,e,l⟩
  rotate_left
  ·rcases b with b | b<;>
   ·simp (decide:=true) only [b,jr,js,jq,jp,jk,jj,jo,jm,g0,v,e];exact .inr ⟨_,_,rfl,l⟩
  rcases zbv h y.T_ with⟨S,M,R,_⟩ | ⟨f,s,M,l⟩
  rotate_left
  ·rcases b with b | b<;>
   ·simp (decide:=true) only [b,jr,js,jq,jp,jk,jj,jo,jm,g0,v,e,M];exact .inr ⟨_,_,rfl,l⟩
  have A:AllN (pN st) n :=.mk (.o (λh=>Zc) (λh=>Zc) Zc) (by rw[r];simpa using⟨xN T q,xN U R⟩)
  by_cases j:k.M_=1<;>by_cases z:S.M_=1<;>rcases b with b | b<;>
   simp (decide:=true) only [b,jr,js,jq,jp,jk,jj,jo,jm,g0,v,e,M,j,z]<;>
   first | exact .inl ⟨_,rfl,A,P⟩ | exact .inr ⟨_,_,rfl,je⟩
structure Gr(m:Nat)(a b:CKt):Prop where
 s:b.1.1=a.1.1
 t:b.1.2.1=a.1.2.1
 j:b.1.2.2.2=a.1.2.2.2
 l:b.2.xs.length=a.2.xs.length
 f:∀i (h:i < a.2.xs.length) (h':i < b.2.xs.length),b.2.xs[i].N_=a.2.xs[i].N_/\b.2.xs[i].P_=a.2.xs[i].P_/\∃ex,b.2.xs[i].V_.xs=a.2.xs[i].V_.xs++ex/\ex.length<=m
 k:(∀f∈a.2.xs,∀p∈f.V_.xs,OkO a.1.2.1.xs p)->∀f∈b.2.xs,∀p∈f.V_.xs,OkO b.1.2.1.xs p
theorem Gr.refl{a b:CKt}(h1:b.1.1=a.1.1)(h2:b.1.2.1=a.1.2.1)(d:b.1.2.2.2=a.1.2.2.2)(c:b.2=a.2):Gr 0 a b:=
 ⟨h1,h2,d,by rw[c],λi h e=>by simp only[c];exact⟨trivial,trivial,[],je⟩,λh=>by rw[h2,c];exact h⟩
theorem Gr.trans{a b c:CKt}(h:Gr m a b)(g:Gr k b c):Gr (m+k) a c:=
 ⟨g.s.trans h.s,g.t.trans h.t,g.j.trans h.j,g.l.trans h.l,λi h1 h2=>by
  have hb:i < b.2.xs.length:=by rw[h.l];exact h1
  obtain⟨e,p,o,r,x⟩:=h.f i h1 hb;obtain⟨q,v,d,v2,l2⟩:=g.f i hb h2
  exact⟨q.trans e,v.trans p,o++d,by rw[v2,r,Dc],by rw[jy];omega⟩,λi=>g.k (h.k i)⟩
theorem Gr.mono{a b:CKt}(h:Gr m a b)(o:m<=k):Gr k a b:=
 ⟨h.s,h.t,h.j,h.l,λi h1 h2=>by obtain⟨d,c,e,g,p⟩:=h.f i h1 h2;exact⟨d,c,e,g,Zc⟩,h.k⟩
def Vc(k:Nat)(st:CKt):Prop:=Vd st/\∀f∈st.2.xs,f.V_.xs.length+k<=60000
theorem Vc.gr{a b:CKt}(h:Vc (m+k) a)(g:Gr m a b):Vc k b:=by
 have key:∀f∈b.2.xs,f.V_.xs.length+k<=60000/\0<=f.P_/\f.P_<=f.V_.xs.length:=by
  intro f c;obtain⟨i,hi,rfl⟩:=H c;have d:i < a.2.xs.length:=by rw[<- g.l];exact hi
  obtain⟨A,p,z,x,F⟩:=g.f i d hi;have h1:=h.2 _ (gc d);have h2:=h.1.v _ (gc d);have y:=congrArg K x;rw[jy] at y;exact⟨Zc,by rw[p];omega,by rw[p];omega⟩
 obtain⟨r,e,q⟩:=h.1.j;exact⟨⟨⟨r,by rw[g.j,e],by rw[g.l];exact q⟩,λf c=>⟨by have:=(key f c).1;omega,(key f c).2⟩,by rw[g.s];exact h.1.s,by rw[g.l];exact h.1.f,g.k h.1.o,by rw[g.s,g.t];exact h.1.g⟩,λf c=>(key f c).1⟩
theorem Vc.mono{a:CKt}(h:Vc m a)(c:k<=m):Vc k a:=⟨h.1,λf b=>by have:=h.2 f b;omega⟩
def Sp(m:Nat)(n:U0)(a:CKt)(r:U3 FTt):Prop:=(∃b,r=u (.inr b)/\Gr m a b/\KnX b n)\/V9 r
theorem zAF{st:CKt}(h:Vc 1 st)(n:U0)(p:PP)(hp:OkO st.1.2.1.xs p):Sp 1 n st (q3c (n,p,st)):=by
 obtain⟨⟨sg,t,a,j⟩,fns⟩:=st;obtain⟨⟨⟨jn,rfl,hj⟩,hv,hs,hf,hO,_⟩,hb⟩:=h;simp only at hj hv hb;have hv:=(hv _ (gc hj)).1;have hb:=hb _ (gc hj);unfold q3c qb5;simp only[ze hj,jj,yW];rw[wY _ _ (by simp only;omega)];simp only[jj,jl];by_cases h1:0<=idP n fns.xs[jn].V_.xs
 ·have h2:idP n fns.xs[jn].V_.xs < fns.xs[jn].V_.xs.length:=yE.2.1;obtain⟨i,hi⟩:∃i:Nat,idP n fns.xs[jn].V_.xs=(i:Int):=⟨_,(DF h1).symm⟩
  rw[hi] at h2 h1;simp only[hi,h1,jq,ze (s:=fns.xs[jn].V_) (show i < _ by omega),jj];rcases zid (ok:=decide (fns.xs[jn].V_.xs[i].N_=n) && (decide (fns.xs[jn].V_.xs[i].M_=p.M_) && (decide (fns.xs[jn].V_.xs[i].t_=p.t_) && w))) (Q:=True) (e:=40) (s:=((sg,t,a,(jn:Int)),fns)) (by decide) (λ_=>trivial) with⟨e,_⟩ | e
  ·exact .inl ⟨_,e,(Gr.refl rfl rfl rfl rfl).mono (by omega),_,⟨jn,rfl,UJ hj⟩,by omega⟩
  ·exact .inr e
 ·simp only[h1,jp,js,Dy];rw[Zu (by omega) (by omega),jj];refine .inl ⟨_,rfl,⟨rfl,rfl,rfl,by simp[Sl.set],λi h1 h2=>?_,λhk f hf p' hp'=>?_⟩,_,⟨jn,rfl,by simp only[Sl.set,G];exact List.getElem?_set_self hj⟩,yE.2.2.2 ⟨⟨n,p.M_,p.t_⟩,by simp,by simp⟩⟩
  rotate_left
  ·simp only[Sl.set,G] at hf;rcases D3 hf with hf | rfl
   ·exact hk f hf p' hp'
   ·exact zeu (hk _ (gc hj)) (p:=⟨n,p.M_,p.t_⟩) hp p' hp'
  simp only[Sl.set,G,List.getElem_set];by_cases hij:jn=i
  ·subst hij;simp only[jq];exact⟨trivial,trivial,[⟨n,p.M_,p.t_⟩],rfl,by simp⟩
  ·simp only[hij,jp];exact⟨trivial,trivial,[],by simp⟩
theorem zAG(fs:Sl PNf)(n:Nd)(h:fs.xs.length<=50000):q46 (fs,n)=u (idx (λx=>decide (x.N_=n.T_)) fs.xs,fs,n):=by
 have:=wh (f:=q7h q52) (xs:=fs.xs) (p:=λx=>decide (x.N_=n.T_)) (st:=λi=>(fs.len,(i:Int),fs,n)) (yes:=λi =>.inl ((i:Int),fs,n)) (no :=.inr (fs,n))
  (λi hi=>by
   unfold q7h;simp only[jl,zm];rw[jv jA,ze hi,jj,jj,jj];show((u (decide (fs.xs[i].N_=n.T_))).bind _)=_;simp only[jj,zu (Zc:i < 1000000000)]
   grind)
  (by unfold q7h;simp only[jl,zm];rw[jx jA])
 unfold q46 qc7;simp only[zm];have this:lpO (q7h q52) (fs.len,0,fs,n)=_:=this;rw[this];unfold idx;cases fs.xs.findIdx? _<;>rfl
theorem zxy{α:Type}{p:α->Bool}{l b:List α}(h:idx p l=(i:Int)):idx p (l++b)=(i:Int):=by
 unfold idx at h |-
 rw[List.findIdx?_append];cases e:l.findIdx? p with
 |none=>grind
 |some j=>grind
theorem KnX.gr{a b:CKt}(g:Gr m a b){n:U0}(h:KnX a n):KnX b n:=by
 obtain⟨f,⟨j,e,o⟩,hi⟩:=h;obtain⟨c,rfl⟩:=UC.1 o;have hb:j < b.2.xs.length:=by rw[g.l];exact c
 obtain⟨_,_,d,p,_⟩:=g.f j c hb;obtain⟨i,hi⟩:∃i:Nat,idP n a.2.xs[j].V_.xs=(i:Int):=⟨_,(DF hi).symm⟩
 refine⟨_,⟨j,g.j.trans e,UJ hb⟩,?_⟩;rw[p,show idP n (a.2.xs[j].V_.xs++d)=(i:Int) from zxy hi];omega
theorem Kn.gr{a b:CKt}(g:Gr m a b){n:U0}(h:Kn a n):Kn b n:=h.imp id λh=>h.gr g
theorem zus{a b:CKt}(g:Gr m a b)(y:U0):idx (λx=>decide (x.N_=y)) b.2.xs=idx (λx=>decide (x.N_=y)) a.2.xs:=by
 have h:b.2.xs.map qe.N_=a.2.xs.map qe.N_:=List.ext_getElem (by simp[g.l]) λi h1 h2=>by
  rw[L,L];exact(g.f i (by simpa using h2) (by simpa using h1)).1
 have k:∀l:List PNf,idx (λx=>decide (x.N_=y)) l=idx (λx=>decide (x=y)) (l.map qe.N_):=λl=>by
  unfold idx;rw[List.findIdx?_map];rfl
 rw[k,k,h]
theorem zfS.gr{a b:CKt}(g:Gr m a b){y:U0}{l:List U0}(h:zfS a.2.xs y l):zfS b.2.xs y l:=by
 obtain⟨k,f,h1,h2,q,o,j⟩:=h;obtain⟨c,rfl⟩:=UC.1 h2;have hb:k < b.2.xs.length:=by rw[g.l];exact c
 obtain⟨_,e,d,p,_⟩:=g.f k c hb;refine⟨k,_,(zus g y).trans h1,UJ hb,jE,jE,?_⟩;grind
theorem pN.gr{a b:CKt}(g:Gr m a b)(h:pN a n):pN b n:=⟨λc=>(h.q c).gr g,h.y,λc=>KnX.gr g (h.s c),λc=>by have:=h.c c;unfold QN at *;rw[g.s];exact this,λc=>zfS.gr g (h.f c)⟩
theorem zxz{st:CKt}(h:Vd st)(l:Sl Nd)(z:l.xs.length<=50000)(p:k < st.2.xs.length):LkQ ((∀k∈l.xs,Kn st k.T_)/\(l.xs.length:Int)=st.2.xs[k].P_/\Fit (l.xs.map q8.T_) st.2.xs[k].V_.xs) st (q25 (l,((k:Int),0,st.2.xs[k].P_),st)):=by
 obtain⟨M,v2,v3⟩:=h.v _ (gc p);have d:=Ys (s:=st.2.xs[k].V_) (lo:=0) (hi:=st.2.xs[k].P_) Zc v2 v3;rw[show(0:Int).toNat=0 from rfl,Ds] at d;unfold q25 q8a;simp only[yW,Vw,jj,jl,ze p,d];by_cases c:Sl.len l=st.2.xs[k].P_ - 0
 rotate_left
 ·simp only[c,jp,jo];exact .inr ⟨_,_,rfl,je⟩
 simp only[c,jq,jm];simp only[zf] at c
 rcases goE (f:=q6n q16 q1k) (n:=l.xs.length) (A:=CKt) (st:=λi a=>(((k:Int),0,st.2.xs[k].P_),l,st.2.xs[k].P_ - 0,(i:Int),a)) (fin:=λa =>.inr a) (J:=λi a=>a=st/\zfR st l.xs st.2.xs[k].V_.xs i) (bad:=λr=>V9 (u r))
  (λi hi a o=>by
   obtain⟨o,y⟩:=o;subst o;unfold q6n;simp only[jl,zm];have g:i < a.2.xs[k].V_.xs.length:=Zc
   rw[jv Zc,ze hi,jj,ze p,jj,d,jj];rw[ze (s:=⟨_,_⟩) jE];simp only[jj,Int.zero_add];rw[ze g,jj];rcases zpH h l.xs[i] (a.2.xs[k].V_.xs[i]) with⟨e,q⟩ | ⟨f,s,e,x⟩
   ·rw[e,jj,jm,zu Zc];exact .inl ⟨a,rfl,rfl,y.next (UJ hi) (UJ g) q⟩
   ·rw[e,jj,jo]
    exact .inr ⟨_,rfl,_,_,rfl,x⟩)
  (λa o=>by
   unfold q6n
   grind)
  (a:=st) ⟨rfl,λj b F=>Zc⟩ with⟨a,e,rfl,q⟩ | ⟨r,e,f,s,e2,x⟩
 ·exact .inl ⟨e,q.fin.1,Zc,q.fin.2⟩
 ·cases e2;exact .inr ⟨_,_,e,x⟩
abbrev WB:PP:=⟨lit [],1,0⟩
noncomputable abbrev LF(F:Nat):=q2a q2e q3c q26 q46 q16 q25 q1k (q2n F)
def StP(s:Nd):Prop:=∀F (st:CKt) (l:Sl Nd) (i:Nat) (hi:i < l.xs.length),l.xs[i]=s->l.xs.length<=50000->zl s<=F->Vc (zl s) st->
 (∃b,LF F (l,l.len,(i:Int),st.1,st.2,WB)=u (.next (l,l.len,((i+1:Nat):Int),b.1,b.2,WB))/\Gr (zl s) st b/\AllN (pN b) s)\/∃r,LF F (l,l.len,(i:Int),st.1,st.2,WB)=u (.done r)/\V9 (u r)
def BlP(n:Nat)(ks:Sl Nd):Prop:=∀F (st:CKt),n<=F->Vc n st->(∃b,q2n F (ks,st)=u (.inr b)/\Gr n st b/\∀s∈ks.xs,AllN (pN b) s)\/V9 (q2n F (ks,st))
theorem znO{ks:Sl Nd}(h:∀s∈ks.xs,StP s)(p:zd ks.xs<=40000):BlP (zd ks.xs+1) ks:=by
 intro F st x l;obtain⟨F,rfl⟩:∃k,F=k+1:=⟨F - 1,Zc⟩
 have v:=WA ks.xs
 rcases goE (f:=LF F) (n:=ks.xs.length) (A:=CKt) (st:=λi a=>(ks,ks.len,(i:Int),a.1,a.2,WB)) (fin:=λa =>.inr a) (J:=λi a=>Gr (zd (ks.xs.take i)) st a/\∀s∈ks.xs.take i,AllN (pN a) s) (bad:=λr=>V9 (u r))
  (λi hi a c=>by
   have z:=Y4 hi;obtain⟨c,j⟩:=c;have d:Vc (zl ks.xs[i]) a:=Vc.gr (l.mono (Zc:zd (ks.xs.take i)+zl ks.xs[i]<=_)) c;rcases h _ (gc hi) F a ks i hi rfl Zc Zc d with⟨b,e,g,q⟩ | hb
   ·refine .inl ⟨b,e,?_⟩;rw[<- DG hi,zN];refine⟨(c.trans g).mono (by simp[zd]),λs hs=>?_⟩;rcases U5.1 hs with hs | hs
    ·exact(j s hs).mono λn=>pN.gr g
    grind
   grind)
  (λa c=>by
   show q2a _ _ _ _ _ _ _ _ _=_;unfold q2a;simp only[jl]
   rw[jx jA])
  (a:=st) ⟨(Gr.refl rfl rfl rfl rfl).mono Zc,je⟩ with⟨a,e,g,q⟩ | ⟨r,e,f,s,e2,hf⟩
 ·rw[Dt] at g q;refine .inl ⟨a,?_,g.mono Zc,q⟩;exact congrArg (λo=>I o λy=>D (λa=>u (C a)) (λb=>u (E b)) y) e
 ·cases e2;exact .inr ⟨f,s,congrArg (λo=>I o λy=>D (λa=>u (C a)) (λb=>u (E b)) y) e,hf⟩
abbrev XT:=(Int×Int)×CKt⊕Sl Nd×Int×Int×(Sl PSg×Sl PT×Int×Int)×Sl PNf×PP
def zpJ(R:CKt->Prop)(l:Sl Nd)(i:Nat)(X:U3 XT):Prop:=(∃b,X=u (.inr (l,l.len,(i:Int),b.1,b.2,WB))/\R b)\/V9 X
theorem zvu {R:CKt->Prop}{l:Sl Nd}{X:U3 XT}(h:zpJ R l i X) (hi:i < 1000000000) :
    (∃b:CKt,(X.bind λe=>D (λd=>u (Step.done (C d:FTt))) (λc=>u (Step.next (c.1,c.2.1,U4 (c.2.2.1+1),c.2.2.2))) e)=u (.next (l,l.len,((i+1:Nat):Int),b.1,b.2,WB))/\R b)\/
    ∃r,(X.bind λe=>D (λd=>u (Step.done (C d:FTt))) (λc=>u (Step.next (c.1,c.2.1,U4 (c.2.2.1+1),c.2.2.2))) e)=u (.done r)/\V9 (u r):=by
 rcases h with⟨b,rfl,g⟩ | ⟨f,s,rfl,j⟩
 ·exact .inl ⟨b,by simp only[jj,jm,zu hi],g⟩
 ·exact .inr ⟨_,by simp only[jj,jo];rfl,_,_,rfl,j⟩
def atS(st:CKt)(a:Int):CKt:=((st.1.1,st.1.2.1,a,st.1.2.2.2),st.2)
theorem Vd.at{st:CKt}(h:Vd st)(a:Int):Vd (atS st a):=⟨h.j,h.v,h.s,h.f,h.o,h.g⟩
theorem Vc.at{st:CKt}(h:Vc k st)(a:Int):Vc k (atS st a):=⟨h.1.at a,h.2⟩
theorem Gr.at{st b:CKt}(h:Gr m (atS st a) b):Gr m st b:=⟨h.s,h.t,h.j,h.l,h.f,h.k⟩
theorem g0{st:CKt}:Gr m st (atS st a):=(Gr.refl (a:=st) (b:=atS st a) rfl rfl rfl rfl).mono (UL _)
theorem zie{k:Nd}(h:n.K_=⟨[k],w⟩)(c:zl n<=40000):k.K_.xs.length<=50000:=by
 have a:=@ZX n k (by rw[h];simp);have b:=@Zl k;omega
theorem Vx{s:Nd}(g:StmtG s)(O:zl s<=40000)(V:s.k_≠15)(T:s.k_≠16):StP s:=by
 intro F st l i hi hs X Z M;show(∃b,q2a _ _ _ _ _ _ _ _ _=_/\_)\/∃r,q2a _ _ _ _ _ _ _ _ _=_/\_
 unfold q2a;simp only[jl,zm,yW];rw[jv jA,ze hi,hs,jj];refine zvu ?_ Zc;have A:=M.1.at s.a_;have bad:∀{e:Int},e≠0->zpJ (λb=>Gr (zl s) st b/\AllN (pN b) s) l i (u (.inl ((s.a_,e),atS st s.a_))):=λW =>.inr ⟨_,_,rfl,W⟩
 have ok:AllN (pN (atS st s.a_)) s->zpJ (λb=>Gr (zl s) st b/\AllN (pN b) s) l i (u (.inr (l,l.len,(i:Int),(atS st s.a_).1,(atS st s.a_).2,WB))):=λh =>.inl ⟨_,rfl,g0,h⟩
 have y:∀(b:Bool) (e:Int),q16 (b,e,(st.1.1,st.1.2.1,s.a_,st.1.2.2.2),st.2)=u (if b=w then .inr (atS st s.a_) else .inl ((s.a_,e),atS st s.a_)):=λb e=>Vw b e (atS st s.a_)
 cases g with
 | @leaf k t n a c=>
  rcases c with rfl | rfl | rfl | rfl | rfl
  ·simp (decide:=true) only [js,jr,jq,jp,jk,jj,jo,jm,y];grind
  ·simp (decide:=true) only [js,jr,jq,jp,jk,jj,jo,jm,y];grind
  ·simp (decide:=true) only [js,jr,jq,jp,jk,jj,jo,jm,y];grind
  ·simp (decide:=true) only [js,jr,jq,jp,jk,jj,jo,jm,y,show(nilS:Sl Nd).len=0 from rfl];exact ok (.mk (.o je je je) je)
  ·simp (decide:=true) only [js,jr,jq,jp,jk,jj,jo,jm,y];exact ok (.mk (.o je je je) je)
 |ite=>grind
 |whl=>grind
 |ret c=>
  simp (decide:=true) only [jr,jq,jp,jk,jj,jo,jm,y,show∀x:Nd,Sl.len (⟨[x],w⟩:Sl Nd)=1 from λ_=>rfl];grind
 | @fork t n a ks c=>
  have R:=@Zl ⟨19,t,n,a,ks⟩;have e:=zAG st.2 ⟨19,t,n,a,ks⟩ M.1.f;generalize S:idx (λx:PNf=>decide (x.N_=(q8.mk 19 t n a ks).T_)) st.2.xs=x at e;simp (decide:=true) only [jr,jq,jp,jk,jj,y,e];by_cases h1:0<=x
  rotate_left
  ·grind
  obtain⟨k,rfl⟩:∃k:Nat,x=(k:Int):=⟨_,(DF h1).symm⟩
  have j:k < st.2.xs.length:=by have h:idx (λx:PNf=>decide (x.N_=(q8.mk 19 t n a ks).T_)) st.2.xs < st.2.xs.length:=yE.2.1;omega
  obtain⟨Y,v2,v3⟩:=M.1.v _ (gc j);simp only[h1,js,jq,jm];rw[show(atS st a).2=st.2 from rfl];simp only[ze j,jj,Ys (s:=st.2.xs[k].V_) (lo:=0) (hi:=st.2.xs[k].P_) Zc v2 v3];rcases zxz (st:=atS st a) A ks jE (k:=k) j with⟨e,q⟩ | ⟨f,s,e,z⟩
  ·have e:q25 (ks,((k:Int),0,st.2.xs[k].P_),atS st a)=_:=e;simp only[e,jj,jm];obtain⟨q,Q,P⟩:=q;exact ok (.mk ⟨je,je,je,je,λ_=>⟨k,_,S,UJ j,by rw[D1];exact Q,v3,λi b p hb hp=>P i b p hb (by rw[List.getElem?_take] at hp;split at hp<;>first | exact hp | cases hp)⟩⟩ λk j=>xN (c k j) (q k j))
  ·have e:q25 (ks,((k:Int),0,st.2.xs[k].P_),atS st a)=_:=e;simp only[e,jj,jo];exact .inr ⟨_,_,rfl,z⟩
 | @call t n a x c=>
  rcases zsb (st:=atS st a) A x (zie (n:=⟨20,t,n,a,⟨[x],w⟩⟩) rfl O) with⟨p,e,_,q,qc⟩ | ⟨f,s,e,z⟩
  ·have e:q26 (x,(st.1.1,st.1.2.1,a,st.1.2.2.2),st.2)=_:=e;simp (decide:=true) only [jr,jq,jp,jk,jj,show za (⟨[x],w⟩:Sl Nd) 0=u x from rfl,e,jm];refine ok (.mk (.o je je je) λk j=>?_);obtain rfl:=Dz.1 j;exact .mk ⟨by simp[c.1],by simp[c.1],by simp[c.1],λ_=>qc,by simp[c.1]⟩ λk j=>xN (c.2 k j) (q k j)
  ·have e:q26 (x,(st.1.1,st.1.2.1,a,st.1.2.2.2),st.2)=_:=e;simp (decide:=true) only [jr,jq,jp,jk,jj,show za (⟨[x],w⟩:Sl Nd) 0=u x from rfl,e,jo];exact .inr ⟨_,_,rfl,z⟩
 |store c d=>
  simp (decide:=true) only [jr,jp,jk,jj,jo,jm,y];grind
 | @set t n a x c=>
  rcases zzb (st:=atS st a) A c (zie (n:=⟨10,t,n,a,⟨[x],w⟩⟩) rfl O) with⟨p,e,q,qo⟩ | ⟨f,s,e,z⟩
  ·have e:q2e (x,(st.1.1,st.1.2.1,a,st.1.2.2.2),st.2)=_:=e;simp (decide:=true) only [jr,jq,jp,jk,jj,show za (⟨[x],w⟩:Sl Nd) 0=u x from rfl,e,jo];rcases zAF (st:=atS st a) ((M.mono (z6 _)).at a) t p qo with⟨b,e,g,U⟩ | ⟨f,s,e,z⟩
   ·simp only[e,jj,jm];refine .inl ⟨b,rfl,(g.mono (z6 _)).at,.mk ⟨je,je,λ_=>U,je,je⟩ λk j=>?_⟩;obtain rfl:=Dz.1 j;exact q.mono λn=>pN.gr g
   ·simp only[e,jj,jo];exact .inr ⟨_,_,rfl,z⟩
  ·have e:q2e (x,(st.1.1,st.1.2.1,a,st.1.2.2.2),st.2)=_:=e;simp (decide:=true) only [jr,jq,jp,jk,jj,show za (⟨[x],w⟩:Sl Nd) 0=u x from rfl,e,jm];exact .inr ⟨_,_,rfl,z⟩
theorem zg3{k:Int}{op:U0}{n:Int}{x y:Nd}{bs:List Nd}(hk:k=15\/k=16)(M:zl ⟨k,op,n,a,⟨x::y::bs,w⟩⟩<=40000)(Z:ZP x)(hy:ZP y)(hb:∀b∈bs,b.k_=9/\BlP (zl b) b.K_):StP ⟨k,op,n,a,⟨x::y::bs,w⟩⟩:=by
 intro F st l i hi hs hl hF U;have Y:zl ⟨k,op,n,a,⟨x::y::bs,w⟩⟩=zl x+(zl y+zd bs)+1:=by rw[zk];simp[zd]
 have px:=z6 x;have py:=z6 y;show(∃b,q2a _ _ _ _ _ _ _ _ _=_/\_)\/∃r,q2a _ _ _ _ _ _ _ _ _=_/\_
 unfold q2a;simp only[jl,zm,yW];rw[jv jA,ze hi,hs,jj];refine zvu ?_ Zc;have S:=U.1.at a;have hgs:z7 (⟨x::y::bs,w⟩:Sl Nd) 2 (⟨x::y::bs,w⟩:Sl Nd).len=u ⟨bs,w⟩:=by
  rw[Ys Zc (by simp only[zf,jz];omega) jA];simp only[zf,G,Dt];rfl
 have hbl:=WA bs;have v:∀z:Nd,LkQ (Kn (atS st a) z.T_) (atS st a) (q1k (z,WB,(st.1.1,st.1.2.1,a,st.1.2.2.2),st.2)):=λz=>by
  rcases zpH S z WB with⟨e,q⟩ | e
  ·exact .inl ⟨e,q.1⟩
  ·exact .inr e
 have V:Kn (atS st a) x.T_->Kn (atS st a) y.T_->zpJ (λc=>Gr (zl ⟨k,op,n,a,⟨x::y::bs,w⟩⟩) st c/\AllN (pN c) ⟨k,op,n,a,⟨x::y::bs,w⟩⟩) l i ((lpO (q5i q2e q3c q26 q46 q16 q25 q1k (q2n F)) (l,l.len,(i:Int),⟨bs,w⟩,(⟨bs,w⟩:Sl Nd).len,0,(atS st a).1,(atS st a).2,WB))):=by
  intro W X
  rcases goE (f:=q5i q2e q3c q26 q46 q16 q25 q1k (q2n F)) (n:=bs.length) (A:=CKt)
   (st:=λj c=>(l,l.len,(i:Int),⟨bs,w⟩,(⟨bs,w⟩:Sl Nd).len,(j:Int),c.1,c.2,WB)) (fin:=λc =>.inr (l,l.len,(i:Int),c.1,c.2,WB)) (J:=λj c=>Gr (zd (bs.take j)) (atS st a) c/\∀b∈bs.take j,AllN (pN c) b) (bad:=λr=>V9 (u r))
   (λj Q c P=>by
    obtain⟨P,hq⟩:=P;unfold q5i;simp only[jl];rw[jv jA,ze (s:=⟨bs,w⟩) Q,jj];have M:=Y4 Q;have R:Vc (zl bs[j]) c:=Vc.gr ((U.at a).mono (Zc:zd (bs.take j)+zl bs[j]<=_)) P;obtain⟨O,T⟩:=hb _ (gc Q);rcases T F c Zc R with⟨b,e,g,q⟩ | ⟨f,s,e,v⟩
    ·refine .inl ⟨b,?_,?_⟩
     ·show((q2n F (bs[j].K_,c)).bind _)=_;rw[e,jj,jm,zu Zc]
     ·rw[<- DG Q,zN];refine⟨(P.trans g).mono (by simp[zd]),λs hs=>?_⟩;rcases U5.1 hs with hs | hs
      ·exact(hq s hs).mono λn=>pN.gr g
      ·rw[Dz] at hs;subst hs;exact .mk (.o (by simp[O]) (by simp[O]) Zc) q
    ·refine .inr ⟨.inl (f,s),?_,f,s,rfl,v⟩
     grind)
   (λc P=>by
    unfold q5i;simp only[jl]
    rw[jx jA])
   (a:=atS st a) ⟨(Gr.refl rfl rfl rfl rfl).mono Zc,je⟩ with⟨c,e,g,q⟩ | ⟨r,e,f,s,d,v⟩
  ·rw[Dt] at g q;refine .inl ⟨c,e,(g.mono Zc).at,.mk (.o (λh=>jE) (λh=>jE) jE) λz M=>?_⟩
   ·rcases Db.1 M with rfl | M
    ·exact xN Z (W.gr g)
    rcases Db.1 M with rfl | M
    ·exact xN hy (X.gr g)
    grind
  ·cases d;exact .inr ⟨_,_,e,v⟩
 rcases hk with rfl | rfl<;>
 ·simp (decide:=true) only [js,jr,jq,jp,jj,show za (⟨x::y::bs,w⟩:Sl Nd) 0=u x from rfl,show za (⟨x::y::bs,w⟩:Sl Nd) 1=u y from rfl];rcases v x with⟨e,W⟩ | ⟨f,s,e,p⟩
  rotate_left
  ·simp only[e,jj,jo];exact .inr ⟨_,_,rfl,p⟩
  have d:=v y;simp only[e,jj,jm];rcases d with⟨d,X⟩ | ⟨f,s,d,p⟩
  rotate_left
  ·have d:q1k (y,WB,atS st a)=_:=d;simp only[d,jj,jo];exact .inr ⟨_,_,rfl,p⟩
  have d:q1k (y,WB,atS st a)=_:=d;grind
theorem zzc{s:Nd}(h:StmtG s)(hs:zl s<=40000):StP s:=by
 have g:∀(a:Int) (b:List Nd),(∀s∈b,zl s<=40000->StP s)->zl ⟨9,lit [],0,a,mkS b⟩<=40000->BlP (zl ⟨9,lit [],0,a,mkS b⟩) (q8.mk 9 (lit []) 0 a (mkS b)).K_:=λa b j q=>by
  rw[zk] at q |-
  exact znO (λs hs=>j s hs (by have:=X6 hs;omega)) Zc
 induction h with
 | @ite op n a x y p l b2 a2 e f h1 h2 o i2=>
  refine zg3 (.inl rfl) hs e f λb hb=>?_
  rw[zk] at hs;simp only[zd] at hs;grind
 | @whl op n a x y p l e f h1 o=>
  refine zg3 (.inr rfl) hs e f λb hb=>?_
  rw[zk] at hs;simp only[zd] at hs;grind
 | @leaf k t n a c=>exact Vx (.leaf c) hs jE jE
 |ret c=>exact Vx (.ret c) hs je je
 |fork c=>exact Vx (.fork c) hs je je
 |call c=>exact Vx (.call c) hs je je
 |store c d=>exact Vx (.store c d) hs je je
 |set c=>exact Vx (.set c) hs je je
theorem zzd{b:Nd}(h:V8 b)(hs:zl b<=40000):BlP (zl b) b.K_:=by
 obtain⟨a,l,rfl,d⟩:=h;rw[zk] at hs |-
 have hs:zd l+1<=40000:=hs;exact znO (λs c=>zzc (d s c) (by have:zl s<=zd l:=X6 c;omega)) jE
structure FnR(m:Nat)(k:Nd)(f:PNf):Prop where
 g:FnG k
 p:f.P_=((Xo k).length:Int)
 l:(Xo k).length<=8
 v:(Xo k).length<=f.V_.xs.length/\f.V_.xs.length<=(Xo k).length+m
def xK(m:Nat)(ks:List Nd)(fs:List PNf):Prop:=∃h:fs.length=ks.length,∀i (hi:i < ks.length),FnR m ks[i] (fs[i]' Zc)
theorem xK.mono{fs:List PNf}(h:xK m ks fs)(e:m<=k):xK k ks fs:=⟨h.1,λi hi=>by obtain⟨a,b,c,d⟩:=h.2 i hi;exact⟨a,b,c,Zc⟩⟩
theorem xK.snoc{fs:List PNf}{k:Nd}{f:PNf}(h:xK m ks fs)(g:FnR m k f):xK m (ks++[k]) (fs++[f]):=by
 have b:=h.1;refine⟨by simp[b],λi hi=>?_⟩;rw[jy,g9] at hi;by_cases c:i < ks.length
 ·rw[N c,N Zc];exact h.2 i c
 ·obtain rfl:i=ks.length:=Zc
  grind
abbrev OkS(t:Sl PT)(fs:Sl PNf):Prop:=∀f∈fs.xs,∀p∈f.V_.xs,OkO t.xs p
theorem xK.vc{d:Int}{fs:Sl PNf}(e:OkS t fs)(c:∀s∈sg.xs,OkO t.xs s.R_)(h:xK m ks fs.xs)(hs:sg.xs.length<=50000)(g:ks.length<=50000)(x:m+5000<=50000)(hi:i < ks.length):Vc 5000 ((sg,t,d,(i:Int)),fs):=by
 have key:∀f∈fs.xs,f.V_.xs.length<=m+8/\0<=f.P_/\f.P_<=f.V_.xs.length:=by
  intro f b;obtain⟨j,o,rfl⟩:=H b;have r:=h.2 j (by rw[<- h.1];exact o);have y:=r.v;have q:=r.l;have hp:=r.p;grind
 exact⟨⟨⟨i,rfl,by show i < fs.xs.length;rw[h.1];exact hi⟩,λf b=>⟨jE,(key f b).2⟩,hs,by show fs.xs.length<=_;rw[h.1];exact g,e,c⟩,λf b=>jE⟩
theorem xK.gr{a b:CKt}(h:xK m ks a.2.xs)(g:Gr k a b):xK (m+k) ks b.2.xs:=
 ⟨g.l.trans h.1,λi hi=>by
  have r:=h.2 i hi;obtain⟨_,g2,e,c,d⟩:=g.f i jE (by rw[g.l,h.1];exact hi);have j:=r.v;have c:=congrArg K c;rw[jy] at c
  exact⟨r.g,g2.trans r.p,r.l,Zc⟩⟩
theorem zsc(n:Nd)(ok:Bool)(e:Int)(s:CKt):q3w (n,ok,e,s)=u (if ok=w then .inr (atS s n.a_) else .inl ((n.a_,e),atS s n.a_)):=by cases ok<;>rfl
noncomputable abbrev LC0:=q7i q29 q3l q6v q44 q5b q3w q61
noncomputable abbrev LC1:=q7j q29 q3l q6v q44 q5b q3w q61
def zpK(n:Nd)(r:((Int×Int)×Nd×Int×Int)⊕β):Prop:=∃f,r = .inl (f,n,0,0)/\f.2≠0
theorem zze (l:UnitG n) (sg:Sl PSg) (t:Sl PT) (v:t.xs.length<=100000) (b:Int) :
    (∃a fs,lpO LC0 (n.K_,n.K_.len,0,n,0,0,(sg,t,b),Sl.mk [] B)=u (.inr (n,0,0,(sg,t,a),fs))/\xK 0 n.K_.xs fs.xs/\OkS t fs)\/
    ∃r,lpO LC0 (n.K_,n.K_.len,0,n,0,0,(sg,t,b),Sl.mk [] B)=u r/\zpK n r:=by
 have p:=@Zl n;have o:=l.size
 rcases goE (f:=LC0) (n:=n.K_.xs.length) (A:=Int×Sl PNf) (st:=λi a=>(n.K_,n.K_.len,(i:Int),n,0,0,(sg,t,a.1),a.2)) (fin:=λa =>.inr (n,0,0,(sg,t,a.1),a.2)) (J:=λi a=>xK 0 (n.K_.xs.take i) a.2.xs/\OkS t a.2) (bad:=zpK n)
  (λi hi a d=>by
    obtain⟨a,fs⟩:=a;obtain⟨d,q⟩:=d;have j:=d.1;rw[Dl] at j;simp only at j q;show(∃a',q7i _ _ _ _ _ _ _ _=_/\_)\/∃r,q7i _ _ _ _ _ _ _ _=_/\_
    unfold q7i;simp only[jl,zm,Zs];rw[jv jA,ze hi,jj,zfQ,jj];by_cases g:n.K_.xs[i].k_=6
    rotate_left
    ·simp only[g,jr,jk,jp,jo,jj];exact .inr ⟨_,rfl,_,rfl,je⟩
    simp only[g,js,jq,jm];have c:FnG n.K_.xs[i]:=by
     rcases l.kid _ (gc hi) with h | h
     ·exact absurd h.1 jE
     ·exact h
    rcases zy8 c (by have:=ZX (gc hi);omega) sg t v n.K_.xs[i].a_ fs with⟨a',vars,e,h8,hv,hvo⟩ | ⟨r,e,f,s,rfl,c⟩
    ·simp only[e,jj,jm];rw[Zu Zc Zc];simp only[jj,jm,zu (Zc:i < 1000000000)];refine .inl ⟨(a',_),rfl,?_⟩;rw[<- DG hi];refine⟨d.snoc ⟨c,rfl,h8,jE⟩,λf c=>?_⟩;grind
    · simp only[e,jj,jo]
      exact .inr ⟨_,rfl,_,rfl,c⟩)
  (λa d=>by
    show q7i _ _ _ _ _ _ _ _=_;unfold q7i;simp only[jl,zm]
    rw[jx jA])
  (a:=(b,Sl.mk [] B)) ⟨⟨je,λi hi=>by simp at hi⟩,λf c=>by cases c⟩ with⟨⟨a,fs⟩,e,h⟩ | h
 all_goals grind
abbrev zpL(sg:Sl PSg)(t:Sl PT)(fs:Sl PNf)(k:Nd)(i:Nat):Prop:=∀b∈k.K_.xs,b.k_=9->AllN (pN ((sg,t,0,(i:Int)),fs)) b
theorem pN.grj{i j:Int}{fs:Sl PNf}{c:CKt}(g:Gr m ((sg,t,a,i),fs) c)(h:pN ((sg,t,0,j),fs) n):pN ((sg,t,0,j),c.2) n:=
 h.gr (m:=m) (a:=((sg,t,0,j),fs)) (b:=((sg,t,0,j),c.2)) ⟨rfl,rfl,rfl,g.l,g.f,λh=>by have:=g.k h;rw[g.t] at this;exact this⟩
theorem pN.at'{i:Int}{c:CKt}(h:pN c n)(cs:c.1.1=sg)(d:c.1.2.1=t)(b:c.1.2.2.2=i):pN ((sg,t,0,i),c.2) n:=by
 subst cs d b;exact h
theorem zzf (hg:UnitG n) (sg:Sl PSg) (t:Sl PT) (hsg:∀s∈sg.xs,OkO t.xs s.R_) (hs:sg.xs.length<=50000) (at0:Int) {fs0:Sl PNf}(h0:xK 0 n.K_.xs fs0.xs) (o0:OkS t fs0) :
    (∃a fs,lpO LC1 (n.K_,n.K_.len,0,n,0,0,(sg,t,at0),fs0)=u (.inr (n,0,0,(sg,t,a),fs))/\xK 5000 n.K_.xs fs.xs/\OkS t fs/\∀(i:Nat) (hi:i < n.K_.xs.length),zpL sg t fs n.K_.xs[i] i)\/
    ∃r,lpO LC1 (n.K_,n.K_.len,0,n,0,0,(sg,t,at0),fs0)=u r/\zpK n r:=by
 have hkl:=@Zl n;have hsz:=hg.size;have hse:=zk n
 rcases goE (f:=LC1) (n:=n.K_.xs.length) (A:=Int×Sl PNf) (st:=λi a=>(n.K_,n.K_.len,(i:Int),n,0,0,(sg,t,a.1),a.2)) (fin:=λa =>.inr (n,0,0,(sg,t,a.1),a.2)) (J:=λi a=>xK (zd (n.K_.xs.take i)) n.K_.xs a.2.xs/\OkS t a.2/\∀(k:Nat) (hk:k < n.K_.xs.length),k < i->zpL sg t a.2 n.K_.xs[k] k) (bad:=zpK n)
  (λi hi a ha=>by
    obtain⟨a,fs⟩:=a;obtain⟨ha,hO,hD⟩:=ha;have hl:=ha.1;have hst:=Y4 hi;simp only at hl hD;have r:=ha.2 i hi;obtain⟨k6,ps,rr,b,hk,hpp,hrr,hr8,hb⟩:=r.g;have hk':=congrArg Sl.xs hk;simp only at hk';have hlen:n.K_.xs[i].K_.xs.length=ps.length+2:=by rw[hk];simp
    have hki:=@Zl n.K_.xs[i];have hbz:=ZX (n:=n.K_.xs[i]) (k:=b) (by rw[hk];simp);have hgl:za n.K_.xs[i].K_ (U4 (n.K_.xs[i].K_.len - 1))=u b:=by
     rw[zf,hlen,zE (by omega) (by omega),show(((ps.length+2:Nat):Int) - 1)=((ps.length+1:Nat):Int) by omega,ze (by omega)];simp[hk]
    show(∃a',q7j _ _ _ _ _ _ _ _=_/\_)\/∃r,q7j _ _ _ _ _ _ _ _=_/\_
    unfold q7j;simp only[jl,zm];rw[jv (by simp only[zf];omega),ze hi,jj,ze (s:=fs) (by omega),jj,hgl,jj];have vc:Vc 5000 ((sg,t,a,(i:Int)),fs):=ha.vc hO hsg hs (by omega) (by omega) hi;have hbl:=zzd hb (by omega) 100000 ((sg,t,a,(i:Int)),fs) (by omega) (vc.mono (by omega));rcases hbl with⟨c,e,g,q⟩ | ⟨f,s,e,hf⟩
    rotate_left
    ·have e:q44 (b.K_,(sg,t,a,(i:Int)),fs)=_:=e;simp only[e,jj,jo];exact .inr ⟨_,rfl,_,rfl,hf⟩
    have e:q44 (b.K_,(sg,t,a,(i:Int)),fs)=_:=e;have hj:c.1.2.2.2=(i:Int):=g.j;have gl:c.2.xs.length=fs.xs.length:=g.l;have hci:i < c.2.xs.length:=by omega
    have fin':xK (zd (n.K_.xs.take (i+1))) n.K_.xs c.2.xs:=by
     rw[<- DG hi,zN];exact(xK.gr (a:=((sg,t,a,(i:Int)),fs)) ha g).mono (by simp only[zd];omega)
    have cs:c.1.1=sg:=g.s;have ct:c.1.2.1=t:=g.t;simp only[e,jj,jm,hj,ze hci,zsc];by_cases h64:Sl.len c.2.xs[i].V_<=64
    rotate_left
    ·simp only[h64,jp,jk,jo,jj];exact .inr ⟨_,rfl,_,rfl,by simp⟩
    obtain⟨cc,e1,_⟩:=zpG (Q:=λ_=>True) r.g (by omega) trivial λ_ _ _=>zme (λ_=>⟨λ_=>trivial,λ_=>trivial,λ_=>trivial,λ_=>trivial,λ_=>trivial⟩) _
    simp only[h64,jq,e1,jj];by_cases h5:Sl.len cc.L_<=512
    · simp only[h5,js,jq,jj,jm,zu (show i < 1000000000 by omega),atS,cs,ct];refine .inl ⟨(_,_),rfl,fin',by have:=g.k hO;grind,λk hk hki=>?_⟩;have st2:∀{j:Nat} {x:Nd},AllN (pN ((sg,t,0,(j:Int)),fs)) x->AllN (pN ((sg,t,0,(j:Int)),c.2)) x:=λh=>h.mono λn=>pN.grj g
      by_cases hlt:k < i
      ·grind
      · obtain rfl:k=i:=by omega
        intro z hz h9;rw[hk'] at hz;rcases U5.1 hz with hz | hz
        ·have:=(hpp z hz).1;omega
        rcases Db.1 hz with rfl | hz
        ·omega
        ·obtain rfl:=Dz.1 hz;exact .mk (.o (by simp[h9]) (by simp[h9]) (by omega)) λs hs=>(q s hs).mono λn h=>h.at' cs ct hj
    · simp only[h5,jr,jp,jk,jo,jj]
      exact .inr ⟨_,rfl,_,rfl,by simp⟩)
  (λa ha=>by
    show q7j _ _ _ _ _ _ _ _=_;unfold q7j;simp only[jl,zm]
    rw[jx (by simp only[zf];omega)])
  (a:=(at0,fs0)) ⟨by simpa[zd] using h0,o0,λk hk h=>by omega⟩ with⟨⟨a,fs⟩,e,h,hO,hD⟩ | h
 ·rw[Dt] at h;exact .inl ⟨a,fs,e,h.mono (by omega),hO,λi hi=>hD i hi hi⟩
 grind
theorem zut (g:UnitG n) (sg:Sl PSg) (t:Sl PT) (c:∀s∈sg.xs,OkO t.xs s.R_) (hs:sg.xs.length<=50000) (l:t.xs.length<=100000) :
    ∃a e fs,q85 (n,sg,t)=u (a,e,fs)/\(e≠0/\fs.xs=[]\/e=0/\xK 5000 n.K_.xs fs.xs/\OkS t fs/\∀(i:Nat) (hi:i < n.K_.xs.length),zpL sg t fs n.K_.xs[i] i):=by
 unfold q85 qez;simp only[zm];rcases zze g sg t l 0 with⟨a,fs,e,h,o⟩ | ⟨r,e,f,rfl,d⟩
 · rw[e];simp only[jj,jm];rcases zzf g sg t c hs a h o with⟨b,j,e,h⟩ | ⟨r,e,f,rfl,d⟩
   ·rw[e];exact⟨_,_,j,rfl,.inr ⟨rfl,h⟩⟩
   ·rw[e];exact⟨_,_,_,rfl,.inl ⟨d,rfl⟩⟩
 ·rw[e];exact⟨_,_,_,rfl,.inl ⟨d,rfl⟩⟩
end Go.Px
