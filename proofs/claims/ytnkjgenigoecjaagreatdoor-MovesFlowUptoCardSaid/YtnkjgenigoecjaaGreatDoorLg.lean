/- Part Lg. -/
import Derived.Test.YtnkjgenigoecjaaGreatDoorLf
set_option linter.unusedVariables false
set_option linter.unusedSimpArgs false
namespace Go.Px
open Bool renaming true->w,false->B
open Int renaming toNat_natCast->G
open List renaming getElem_of_mem->H,length->K,getElem_map->L,getElem_append_left->N
open _root_.Option renaming some->u,bind->I
open Sum renaming inl->C,elim->D,inr->E
variable{a:Int}{i k m:Nat}{ks:List Nd}{n:Nd}{sg:Sl PSg}{t:Sl PT}{β:Type}
abbrev PNf:=qe
abbrev KS:=(Sl PSg×Sl PT×Int)×Sl PNf
theorem goE {S R A:Type}{f:S->U7 (Step S R)}{n:Nat}{st:Nat->A->S}{fin:A->R}{J:Nat->A->Prop}{bad:R->Prop}
    (h:∀i,i < n->∀a,J i a->(∃a',f (st i a)=u (.next (st (i+1) a'))/\J (i+1) a')\/∃r,f (st i a)=u (.done r)/\bad r)
    (h0:∀a,J n a->f (st n a)=u (.done (fin a))) {a:A} (ha:J 0 a) :
    (∃a',lpO f (st 0 a)=u (fin a')/\J n a')\/∃r,lpO f (st 0 a)=u r/\bad r:=by
 have:∀(m i:Nat) (a:A),i+m=n->J i a->(∃a',lpO f (st i a)=u (fin a')/\J n a')\/∃r,lpO f (st i a)=u r/\bad r:=by
  intro m
  induction m with
  |zero=>
   intro i a hi ha;obtain rfl:i=n:=by omega
   exact .inl ⟨a,zA (h0 a ha),ha⟩
  |succ m ih=>
   intro i a hi ha;rcases h i (by omega) a ha with⟨a',h1,h2⟩ | ⟨r,h1,h2⟩
   · rcases ih (i+1) a' (by omega) h2 with⟨b,h3,h4⟩ | ⟨r,h3,h4⟩
     ·exact .inl ⟨b,by rw[zG h1,h3],h4⟩
     ·exact .inr ⟨r,by rw[zG h1,h3],h4⟩
   ·exact .inr ⟨r,zA h1,h2⟩
 exact this n 0 a (by omega) ha
theorem zz6(ok:Bool)(e:Int)(s:KS):q3d (ok,e,s)=u (if ok=w then .inr s else .inl ((s.1.2.2,e),s)):=by cases ok<;>rfl
theorem zfR(n:Nd)(ok:Bool)(e:Int)(s:KS):q25 (n,ok,e,s)=u (if ok=w then .inr ((s.1.1,s.1.2.1,n.a_),s.2) else .inl ((n.a_,e),(s.1.1,s.1.2.1,n.a_),s.2)):=by cases ok<;>rfl
theorem wW(f:PNf)(n:U5)(h:f.V_.xs.length<=1000000):q1o (f,n)=u (idP n f.V_.xs):=by
 have:=wm (f:=q6b q7i) (xs:=f.V_.xs) (p:=λx=>decide (x.N_=n)) (st:=λi=>(f.V_,f.V_.len,(i:Int),n)) (yes:=λi =>.inl ((i:Int),n)) (no :=.inr n)
  (λi hi=>by
   unfold q6b;simp only[jl];rw[jv (by simp only[zj];omega),zg hi,jj];show((u (decide (f.V_.xs[i].N_=n),n)).bind _)=_;simp only[jj,zw (show i < 1000000000 by omega)]
   grind)
  (by unfold q6b;simp only[jl];rw[jx (by simp only[zj];omega)])
 show((((lpO (q6b q7i) (f.V_,Sl.len f.V_,((0:Nat):Int),n)).bind _)).bind _)=_;rw[this];unfold idP idx;cases f.V_.xs.findIdx? _<;>rfl
def OkO(t:List PT)(p:PP):Prop:=p.M_=2->0<=p.t_/\p.t_ < t.length
theorem zeu{t:List PT}{l:List PP}{p:PP}(h:∀q∈l,OkO t q)(hp:OkO t p):∀q∈l++[p],OkO t q:=λq hq=>by
 grind
def Xo(k:Nd):List Nd:=k.K_.xs.take (k.K_.xs.length - 2)
def zz7(r:((Int×Int)×KS)⊕β):Prop:=∃f s,r = .inl (f,s)/\f.2≠0
theorem zmy{m:Nd}(h:vj m)(ho:m.T_=lit [111,119,110]):∃x,m.K_=⟨[x],w⟩:=by
 rcases h.2 with⟨h1,_⟩ | ⟨_,x,h2,_⟩
 ·rw[ho] at h1;simp (decide:=true) only [] at h1
 grind
theorem zz8 {k:Nd}(h:FnG k) (hs:zl k<=40000) (sg:Sl PSg) (t:Sl PT) (ht:t.xs.length<=100000) (at_:Int) (fns:Sl PNf) :
    (∃at' vars,q3e (k,(sg,t,at_),fns)=u (.inr ((k.T_,((Xo k).length:Int)),(sg,t,at'),fns,vars))/\(Xo k).length<=8/\vars.xs.length=(Xo k).length/\∀p∈vars.xs,OkO t.xs p)\/
    ∃r,q3e (k,(sg,t,at_),fns)=u r/\zz7 r:=by
 obtain⟨h6,ps,r,b,hk,hp,hr,hr8,hb⟩:=h;have hlen:k.K_.xs.length=ps.length+2:=by rw[hk];simp
 have hps:Xo k=ps:=by unfold Xo;grind
 have hkl:=@Zl k;rw[hps];have hc:U8 (k.K_.len - 2)=(ps.length:Int):=by rw[zj,hlen,zK (by omega) (by omega)];omega
 have hgs:z7 k.K_ 0 (ps.length:Int)=u ⟨ps,w⟩:=by
  rw[YV (by omega) (by omega) (by omega),hk];simp
 have hgr:za k.K_ (ps.length:Int)=u r:=by rw[zg (by omega)];simp[hk]
 unfold q3e q9c;simp only[zm,zfR,jj,hc,hgs,jl];by_cases h8:(ps.length:Int)<=8
 rotate_left
 ·simp only[h8,jp,jo];exact .inr ⟨_,rfl,_,_,rfl,by simp⟩
 simp only[h8,jq,jm]
 have key:=goE (f:=q4f q25 q1o q2c q3d) (n:=ps.length) (A:=Int×Sl PP)
  (st:=λi a=>((ps.length:Int),⟨ps,w⟩,(⟨ps,w⟩:Sl Nd).len,(i:Int),(sg,t,a.1),fns,k,(lit [],0),(k.T_,(ps.length:Int)),a.2)) (fin:=λa =>.inr ((ps.length:Int),(sg,t,a.1),fns,k,(lit [],0),(k.T_,(ps.length:Int)),a.2))
  (J:=λi a=>a.2.xs.length=i/\∀p∈a.2.xs,OkO t.xs p) (bad:=zz7)
  (λi hi a ha=>by
    obtain⟨a,vars⟩:=a;obtain⟨hv,hO⟩:=ha;simp only at hv hO;obtain⟨_,m,hm,hmg⟩:=hp _ (gc hi);unfold q4f;simp only[jl,zm];rw[jv (by simp only[zj];omega),zg (s:=⟨ps,w⟩) hi,jj];simp only;rw[hm,show za (⟨[m],w⟩:Sl Nd) 0=u m from rfl,jj,wW _ _ (by grind)];simp only[jj,zfR,zz6,jl];by_cases h1:idP ps[i].T_ vars.xs < 0
    rotate_left
    ·simp only[h1,jp,jj,jo];exact .inr ⟨_,rfl,_,_,rfl,by simp⟩
    simp only[h1,jq,jm];by_cases h2:m.T_=lit [105,110,116]
    · have hno:¬ m.T_=lit [111,119,110]:=by rw[h2];simp (decide:=true) only []
      simp only[h2,jq,jj,jm];rw[<- h2];simp only[hno,jp,jj,jm];rw[Zz (by omega) (by omega)];simp only[jj,jm,zw (show i < 1000000000 by omega)];exact .inl ⟨(_,_),rfl,by simp[hv],zeu hO λh=>by simp at h⟩
    · simp only[h2,jp];by_cases h3:m.T_=lit [111,119,110]
      rotate_left
      ·simp only[h3,jp,jj,jo];exact .inr ⟨_,rfl,_,_,rfl,by simp⟩
      obtain⟨x,hx⟩:=zmy hmg h3;simp only[h3,jq,jj,jm];rw[hx,show za (⟨[x],w⟩:Sl Nd) 0=u x from rfl,jj];rw[zcA t _ (show t.xs.length<=1000000 by omega),jj];by_cases h4:0<=idT x.T_ t.xs
      rotate_left
      ·simp only[h4,jp,jj,jo];exact .inr ⟨_,rfl,_,_,rfl,by simp⟩
      simp only[h4,jq,jj,jm];rw[Zz (by omega) (by omega)];simp only[jj,jm,zw (show i < 1000000000 by omega)]
      exact .inl ⟨(_,_),rfl,by simp[hv],zeu hO λ_=>⟨h4,yz.2.1⟩⟩)
  (λa ha=>by
    unfold q4f;simp only[jl,zm]
    rw[jx (by simp only[zj];omega)])
  (a:=(k.a_,Sl.mk [] B)) ⟨rfl,by simp⟩
 rcases key with⟨⟨a,vars⟩,e1,e2⟩ | ⟨x,e1,f,s,rfl,hf⟩
 rotate_left
 ·have e1:lpO (q4f q25 q1o q2c q3d) ((ps.length:Int),⟨ps,w⟩,(⟨ps,w⟩:Sl Nd).len,0,(sg,t,k.a_),fns,k,(lit [],0),(k.T_,(ps.length:Int)),Sl.mk [] B)=_:=e1;rw[e1];exact .inr ⟨_,rfl,_,_,rfl,hf⟩
 have e1:lpO (q4f q25 q1o q2c q3d) ((ps.length:Int),⟨ps,w⟩,(⟨ps,w⟩:Sl Nd).len,0,(sg,t,k.a_),fns,k,(lit [],0),(k.T_,(ps.length:Int)),Sl.mk [] B)=_:=e1;rw[e1];simp only[jj,jm,hgr];by_cases h9:r.T_=lit []
 ·grind
 ·simp only[h9,jp,jo];exact .inr ⟨_,rfl,_,_,rfl,by simp⟩
abbrev CKt:=(Sl PSg×Sl PT×Int×Int)×Sl PNf
abbrev FTt:=(Int×Int)×CKt⊕CKt
structure Vd(st:CKt):Prop where
 j:∃jn:Nat,st.1.2.2.2=(jn:Int)/\jn < st.2.xs.length
 v:∀f∈st.2.xs,f.V_.xs.length<=60000/\0<=f.P_/\f.P_<=f.V_.xs.length
 s:st.1.1.xs.length<=50000
 f:st.2.xs.length<=50000
 o:∀f∈st.2.xs,∀p∈f.V_.xs,OkO st.1.2.1.xs p
 g:∀s∈st.1.1.xs,OkO st.1.2.1.xs s.R_
def Cur(st:CKt)(f:PNf):Prop:=∃j:Nat,st.1.2.2.2=(j:Int)/\st.2.xs[j]?=u f
def KnX(st:CKt)(n:U5):Prop:=∃f,Cur st f/\0<=idP n f.V_.xs
def Kn(st:CKt)(n:U5):Prop:=n=lit []\/KnX st n
def V6(r:U7 ((Int×Int)×CKt⊕β)):Prop:=∃f s,r=u (.inl (f,s))/\f.2≠0
def LkQ(Q:Prop)(st:CKt)(r:U7 FTt):Prop:=(r=u (.inr st)/\Q)\/V6 r
def LkP(Q:PP->Prop)(st:CKt)(r:U7 ((Int×Int)×CKt⊕PP×CKt)):Prop:=(∃p,r=u (.inr (p,st))/\Q p)\/V6 r
theorem yS{α:Type}(r:U7 (α⊕β)):(r.bind λy=>D (λa=>u (C a)) (λb=>u (E b)) y)=r:=by
 cases r with | none=>rfl | some x=>grind
theorem Vt(ok:Bool)(e:Int)(s:CKt):q17 (ok,e,s)=u (if ok=w then .inr s else .inl ((s.1.2.2.1,e),s)):=by cases ok<;>rfl
theorem zie{Q:Prop}{ok:Bool}{e:Int}{s:CKt}(he:e≠0)(h:ok=w->Q):LkQ Q s (q17 (ok,e,s)):=by
 cases ok
 ·exact .inr ⟨_,_,rfl,he⟩
 ·exact .inl ⟨rfl,h rfl⟩
theorem zbt{Q:Prop}{c:Prop}[Decidable c]{s:CKt}{a b:U7 FTt}(ha:c->LkQ Q s a)(hb:¬c->LkQ Q s b):LkQ Q s (if c then a else b):=by
 grind
theorem zbu{st:CKt}(h:Vd st)(n:U5):LkP (λp=>Kn st n/\OkO st.1.2.1.xs p) st (q4g (n,st)):=by
 obtain⟨⟨sg,t,a,j⟩,fns⟩:=st;obtain⟨⟨jn,rfl,hj⟩,hv,hs,hf,hO,_⟩:=h;simp only at hj hv hO;have hv:=(hv _ (gc hj)).1;unfold q4g q8c;simp only[zg hj,jj];rw[wW _ _ (by grind)];simp only[jj,Vt,jl];by_cases h1:0<=idP n fns.xs[jn].V_.xs
 ·have h2:idP n fns.xs[jn].V_.xs < fns.xs[jn].V_.xs.length:=yz.2.1;obtain⟨i,hi⟩:∃i:Nat,idP n fns.xs[jn].V_.xs=(i:Int):=⟨_,(DH h1).symm⟩
  have hi':=hi;rw[hi] at h2 h1;simp only[hi,h1,jq,jm,zg hj,jj,zg (s:=fns.xs[jn].V_) (show i < _ by omega)];exact .inl ⟨_,rfl,.inr ⟨_,⟨jn,rfl,UM hj⟩,by omega⟩,λhm=>hO _ (gc hj) (fns.xs[jn].V_.xs[i]'(by omega)) (gc _) hm⟩
 ·simp only[h1,jp,jo];exact .inr ⟨_,_,rfl,by simp⟩
theorem zpQ{st:CKt}(h:Vd st)(n:Nd)(p:PP):LkQ (Kn st n.T_/\(p.M_=2->n.T_≠lit [])) st (q1h (n,p,st)):=by
 unfold q1h qad;simp only[yS,zm];refine zbt (λc=>zie (by decide) λq=>⟨.inl (by simpa using c),λh2=>by simp[h2] at q⟩) λc=>?_
 rcases zbu h n.T_ with⟨k,e,P0.F,_⟩ | ⟨f,s,e,hf⟩
 ·have F:Kn st n.T_/\(p.M_=2->n.T_≠lit []):=⟨P0.F,λ_=>by simpa using c⟩;generalize (Kn st n.T_/\(p.M_=2->n.T_≠lit []))=P at F |-
  have M:∀(b:Bool) (e:Int),e≠0->LkQ P st (q17 (b,e,st)):=λb e he=>zie he λ_=>F
  simp only[e,jj,jm];refine zbt (λc1=>M _ _ (by decide)) λc1=>?_
  by_cases h3:p.M_=3
  ·simp only[h3,js,jq,jj];exact zbt (λ_=>zbt (λ_=>M _ _ (by decide)) (λ_=>M _ _ (by decide))) (λ_=>zbt (λ_=>zbt (λ_=>M _ _ (by decide)) (λ_=>M _ _ (by decide))) (λ_=>M _ _ (by decide)))
  ·simp (decide:=true) only [h3,jr,jp,jj];grind
 ·simp only[e,jj,jo];exact .inr ⟨_,_,rfl,hf⟩
def zfS(st:CKt)(l:List Nd)(p:List PP)(i:Nat):Prop:=∀(j:Nat) b,j < i->l[j]?=u b->Kn st b.T_/\∀q,p[j]?=u q->q.M_=2->b.T_≠lit []
theorem zfS.next{st:CKt}{l:List Nd}{p:List PP}(h:zfS st l p i){b:Nd}{q:PP}(hb:l[i]?=u b)(hq:p[i]?=u q)(c:Kn st b.T_/\(q.M_=2->b.T_≠lit [])):zfS st l p (i+1):=λj x hj hx=>by
 by_cases e:j=i
 ·grind
 ·exact h j x (by omega) hx
def Fit(l:List U5)(p:List PP):Prop:=∀(i:Nat) a q,l[i]?=u a->p[i]?=u q->q.M_=2->a≠lit []
theorem zfS.fin{st:CKt}{l:List Nd}{p:List PP}(h:zfS st l p l.length):(∀k∈l,Kn st k.T_)/\Fit (l.map q8.T_) p:=by
 refine⟨λk hk=>?_,λi a q ha hq hm=>?_⟩
 ·obtain⟨i,hi,rfl⟩:=H hk;exact(h i _ hi (UM hi)).1
 ·rw[UE,DB] at ha;obtain⟨b,hb,rfl⟩:=ha;exact(h i b (UG.1 hb).1 hb).2 q hq hm
theorem zz9{st:CKt}(h:Vd st)(l:Sl Nd)(p:Sl PP)(hl:l.xs.length<=50000):LkQ ((∀k∈l.xs,Kn st k.T_)/\l.xs.length=p.xs.length/\Fit (l.xs.map q8.T_) p.xs) st (q62 (l,p,st)):=by
 unfold q62 q9d;simp only[yS,Vt,jj,jl];by_cases hlen:Sl.len l=Sl.len p
 rotate_left
 ·simp only[hlen,jp,jo];exact .inr ⟨_,_,rfl,by simp⟩
 simp only[hlen,jq,jm];simp only[zj] at hlen
 rcases goE (f:=q6y q17 q1h) (n:=l.xs.length) (A:=CKt) (st:=λi a=>(p,l,p.len,(i:Int),a)) (fin:=λa =>.inr a) (J:=λi a=>a=st/\zfS st l.xs p.xs i) (bad:=λr=>V6 (u r))
  (λi hi a ha=>by
   obtain⟨rfl,hq⟩:=ha;unfold q6y;simp only[jl,zm];rw[jv (by simp only[zj];omega),zg hi,jj,zg (s:=p) (show i < _ by omega),jj];rcases zpQ h l.xs[i] (p.xs[i]'(by omega)) with⟨e,q⟩ | ⟨f,s,e,hf⟩
   ·rw[e,jj,jm,zw (by omega)];exact .inl ⟨a,rfl,rfl,hq.next (UM hi) (UM (show i < _ by omega)) q⟩
   ·rw[e,jj,jo]
    exact .inr ⟨_,rfl,_,_,rfl,hf⟩)
  (λa ha=>by
   unfold q6y;simp only[jl]
   rw[jx (by simp only[zj];omega)])
  (a:=st) ⟨rfl,λj b hj=>by omega⟩ with⟨a,e,rfl,q⟩ | ⟨r,e,f,s,e2,hf⟩
 ·exact .inl ⟨e,q.fin.1,by omega,q.fin.2⟩
 ·cases e2;exact .inr ⟨_,_,e,hf⟩
theorem zAa(sg:Sl PSg)(n:Nd)(h:sg.xs.length<=50000):q83 (sg,n)=u (idx (λx=>decide (x.N_=n.T_)) sg.xs,n):=by
 have:=wm (f:=q7j q53) (xs:=sg.xs) (p:=λx=>decide (x.N_=n.T_)) (st:=λi=>(sg,sg.len,(i:Int),n)) (yes:=λi =>.inl ((i:Int),n)) (no :=.inr n)
  (λi hi=>by
   unfold q7j;simp only[jl,zm];rw[jv (by simp only[zj];omega),zg hi,jj];show((u (decide (sg.xs[i].N_=n.T_),q8.mk _ _ _ _ _)).bind _)=_;simp only[zm,jj,zw (show i < 1000000000 by omega)]
   grind)
  (by unfold q7j;simp only[jl,zm];rw[jx (by simp only[zj];omega)])
 unfold q83 qce;simp only[zm];have this:lpO (q7j q53) (sg,sg.len,0,n)=_:=this;rw[this];unfold idx;cases sg.xs.findIdx? _<;>rfl
def zpR(sg:List PSg)(y:U5)(l:List U5):Prop:=∃(k:Nat) (s:PSg),idx (λx=>decide (x.N_=y)) sg=(k:Int)/\sg[k]?=u s/\l.length=s.P_.xs.length/\Fit l s.P_.xs
theorem zs2{st:CKt}(h:Vd st)(n:Nd)(hn:n.K_.xs.length<=50000):LkP (λp=>OkO st.1.2.1.xs p/\(∀k∈n.K_.xs,Kn st k.T_)/\zpR st.1.1.xs n.T_ (n.K_.xs.map q8.T_)) st (q20 (n,st)):=by
 have e:=zAa st.1.1 n h.s;have hi:idx (λx=>decide (x.N_=n.T_)) st.1.1.xs < st.1.1.xs.length:=yz.2.1;generalize hx:idx (λx=>decide (x.N_=n.T_)) st.1.1.xs=i at e hi;unfold q20 q9e;simp only[zm,e,jj,Vt,jl];by_cases h1:0<=i
 rotate_left
 ·simp only[h1,jp,jo];exact .inr ⟨_,_,rfl,by simp⟩
 obtain⟨j,rfl⟩:∃j:Nat,i=(j:Int):=⟨_,(DH h1).symm⟩
 simp only[h1,jq,jm,zg (s:=st.1.1) (show j < _ by omega),jj];rcases zz9 h n.K_ (st.1.1.xs[j]'(by omega)).P_ hn with⟨e,q⟩ | ⟨f,s,e,hf⟩
 ·simp only[e,jj,jm,zg (s:=st.1.1) (show j < _ by omega)];exact .inl ⟨_,rfl,h.g _ (gc _),q.1,j,_,hx,UM _,by grind,q.2.2⟩
 ·simp only[e,jj,jo];exact .inr ⟨_,_,rfl,hf⟩
def LkE(Q:PP->Prop)(st:CKt)(r:U7 (PP×CKt⊕(Int×Int)×CKt)):Prop:=(∃p,r=u (.inl (p,st))/\Q p)\/∃f s,r=u (.inr (f,s))/\f.2≠0
def zfT(fs:List PNf)(y:U5)(l:List U5):Prop:=∃(k:Nat) (f:PNf),idx (λx=>decide (x.N_=y)) fs=(k:Int)/\fs[k]?=u f/\(l.length:Int)=f.P_/\f.P_<=f.V_.xs.length/\Fit l (f.V_.xs.take l.length)
def QN(st:CKt):QK->Prop
 | .y=>False
 | .n b=>Kn st b
 | .x b=>KnX st b
 | .c y l=>zpR st.1.1.xs y l
 | .f y l=>zfT st.2.xs y l
abbrev pN(st:CKt):Nd->Prop:=pQ (QN st)
theorem xM{st:CKt}{k:Nd}(h:ZP k)(q:Kn st k.T_):AllN (pN st) k :=.mk (.o (λ_=>q) (λc=>by have:=h.2;omega) (by simp[h.2])) (by rw[h.1];simp)
theorem zAb{st:CKt}(h:Vd st)(g:ExprG n)(hn:n.K_.xs.length<=50000):LkE (λp=>AllN (pN st) n/\OkO st.1.2.1.xs p) st (q29 (n,st)):=by
 have o1:OkO st.1.2.1.xs ⟨lit [],1,0⟩:=λh=>by simp at h
 have fin5:LkE (λp=>AllN (pN st) n/\OkO st.1.2.1.xs p) st (u (E ((st.1.2.2.1,50),st))) :=.inr ⟨_,_,rfl,by simp⟩;unfold q29 q9f;simp only[zm,Vt];cases g with
 |term h5 h0=>
  have A:Kn st n.T_->AllN (pN st) n:=λq=>xM ⟨h0,h5⟩ q
  simp only[h5,js,jq];by_cases ht:n.T_=lit []
  ·simp only[ht,js,jq,jj,jo];exact .inl ⟨_,rfl,A (.inl ht),o1⟩
  simp only[ht,jr,jk,jp];rcases zbu h n.T_ with⟨k,e,q,qo⟩ | ⟨f,s,e,hf⟩
  rotate_left
  ·simp only[e,jj,jo,jm];exact .inr ⟨_,_,rfl,hf⟩
  simp only[e,jj,jo,jm,jl];by_cases hz:n.n_=0
  ·simp only[hz,jq,jj,jo,jm];exact .inl ⟨_,rfl,A q,qo⟩
  simp only[hz,jp];by_cases hm:k.M_=1
  ·simp only[hm,jq,jj,jo,jm];exact .inl ⟨_,rfl,A q,qo⟩
  ·simp only[hm,jp,jj,jo,jm];exact .inr ⟨_,_,rfl,by simp⟩
 |leaf h5 h0=>
  rcases h5 with h5 | h5 | h5 | h5
  ·simp (decide:=true) only [h5,jr,jq,jp,jk,jj,jo,jm];exact fin5
  ·simp (decide:=true) only [h5,jr,jq,jp,jk,jj,jo,jm];exact fin5
  all_goals
   rcases zbu h n.T_ with⟨k,e,q,qo⟩ | ⟨f,s,e,hf⟩
   ·simp (decide:=true) only [h5,jr,js,jq,jp,jk,jj,jo,jm,e,jl];by_cases hm:k.M_=2
    ·simp only[hm,jq,jj,jo,jm];exact .inl ⟨_,rfl,.mk (.o (λ_=>q) (λc=>by omega) (by omega)) (by rw[show n.K_=nilS from h0];simp),λh=>by simp at h⟩
    ·simp only[hm,jp,jj,jo,jm];exact .inr ⟨_,_,rfl,by simp⟩
   ·simp (decide:=true) only [h5,jr,js,jq,jp,jk,jj,jo,jm,e];exact .inr ⟨_,_,rfl,hf⟩
 |call h5=>
  rcases zs2 h n hn with⟨k,e,qo,q,qc⟩ | ⟨f,s,e,hf⟩
  ·simp (decide:=true) only [h5.1,jr,jq,jp,jk,jj,jo,jm,e,jl];by_cases hm:k.M_=0
   ·simp (decide:=true) only [hm,jp,jj,jo,jm];exact .inr ⟨_,_,rfl,by simp⟩
   ·simp (decide:=true) only [hm,jq,Dm,ju,jj,jo,jm];exact .inl ⟨_,rfl,.mk ⟨λh=>by have:=h5.1;omega,λh=>by have:=h5.1;omega,λh=>by have:=h5.1;omega,λ_=>qc,λh=>by have:=h5.1;omega⟩ λk hk=>xM (h5.2 k hk) (q k hk),qo⟩
  ·simp (decide:=true) only [h5.1,jr,js,jq,jp,jk,jj,jo,jm,e];exact .inr ⟨_,_,rfl,hf⟩
 |load h5 _ _=>
  simp (decide:=true) only [h5,jr,jq,jp,jk,jj,jo,jm];exact fin5
 | @two x y h5 h6 hx hy=>
  have g0:za n.K_ 0=u x:=by rw[h6];rfl
  have g1:za n.K_ 1=u y:=by rw[h6];rfl
  rcases zbu h x.T_ with⟨k,e,q,_⟩ | ⟨f,s,e,hf⟩
  rotate_left
  ·rcases h5 with h5 | h5<;>
   ·simp (decide:=true) only [h5,jr,js,jq,jp,jk,jj,jo,jm,g0,g1,e];exact .inr ⟨_,_,rfl,hf⟩
  rcases zbu h y.T_ with⟨k2,e2,q2,_⟩ | ⟨f,s,e2,hf⟩
  rotate_left
  ·rcases h5 with h5 | h5<;>
   ·simp (decide:=true) only [h5,jr,js,jq,jp,jk,jj,jo,jm,g0,g1,e,e2];exact .inr ⟨_,_,rfl,hf⟩
  have A:AllN (pN st) n :=.mk (.o (λh=>by omega) (λh=>by omega) (by omega)) (by rw[h6];simpa using⟨xM hx q,xM hy q2⟩)
  by_cases hm:k.M_=1<;>by_cases hm2:k2.M_=1<;>rcases h5 with h5 | h5<;>
   simp (decide:=true) only [h5,jr,js,jq,jp,jk,jj,jo,jm,g0,g1,e,e2,hm,hm2]<;>
   first | exact .inl ⟨_,rfl,A,o1⟩ | exact .inr ⟨_,_,rfl,by simp⟩
structure Gr(m:Nat)(a b:CKt):Prop where
 s:b.1.1=a.1.1
 t:b.1.2.1=a.1.2.1
 j:b.1.2.2.2=a.1.2.2.2
 l:b.2.xs.length=a.2.xs.length
 f:∀i (h:i < a.2.xs.length) (h':i < b.2.xs.length),b.2.xs[i].N_=a.2.xs[i].N_/\b.2.xs[i].P_=a.2.xs[i].P_/\∃ex,b.2.xs[i].V_.xs=a.2.xs[i].V_.xs++ex/\ex.length<=m
 k:(∀f∈a.2.xs,∀p∈f.V_.xs,OkO a.1.2.1.xs p)->∀f∈b.2.xs,∀p∈f.V_.xs,OkO b.1.2.1.xs p
theorem Gr.refl{a b:CKt}(h1:b.1.1=a.1.1)(h2:b.1.2.1=a.1.2.1)(h3:b.1.2.2.2=a.1.2.2.2)(h4:b.2=a.2):Gr 0 a b:=
 ⟨h1,h2,h3,by rw[h4],λi h h'=>by simp only[h4];exact⟨trivial,trivial,[],by simp⟩,λh=>by rw[h2,h4];exact h⟩
theorem Gr.trans{a b c:CKt}(h:Gr m a b)(g:Gr k b c):Gr (m+k) a c:=
 ⟨g.s.trans h.s,g.t.trans h.t,g.j.trans h.j,g.l.trans h.l,λi h1 h2=>by
  have hb:i < b.2.xs.length:=by rw[h.l];exact h1
  obtain⟨n1,p1,x1,v1,l1⟩:=h.f i h1 hb;obtain⟨n2,p2,x2,v2,l2⟩:=g.f i hb h2
  exact⟨n2.trans n1,p2.trans p1,x1++x2,by rw[v2,v1,Df],by rw[jy];omega⟩,λi=>g.k (h.k i)⟩
theorem Gr.mono{a b:CKt}(h:Gr m a b)(hm:m<=k):Gr k a b:=
 ⟨h.s,h.t,h.j,h.l,λi h1 h2=>by obtain⟨n1,p1,x1,v1,l1⟩:=h.f i h1 h2;exact⟨n1,p1,x1,v1,by omega⟩,h.k⟩
def Vc(k:Nat)(st:CKt):Prop:=Vd st/\∀f∈st.2.xs,f.V_.xs.length+k<=60000
theorem Vc.gr{a b:CKt}(h:Vc (m+k) a)(g:Gr m a b):Vc k b:=by
 have key:∀f∈b.2.xs,f.V_.xs.length+k<=60000/\0<=f.P_/\f.P_<=f.V_.xs.length:=by
  intro f hf;obtain⟨i,hi,rfl⟩:=H hf;have ha:i < a.2.xs.length:=by rw[<- g.l];exact hi
  obtain⟨n1,p1,x1,v1,l1⟩:=g.f i ha hi;have h1:=h.2 _ (gc ha);have h2:=h.1.v _ (gc ha);have h3:=congrArg K v1;rw[jy] at h3;exact⟨by omega,by rw[p1];omega,by rw[p1];omega⟩
 obtain⟨jn,e,hj⟩:=h.1.j;exact⟨⟨⟨jn,by rw[g.j,e],by rw[g.l];exact hj⟩,λf hf=>⟨by have:=(key f hf).1;omega,(key f hf).2⟩,by rw[g.s];exact h.1.s,by rw[g.l];exact h.1.f,g.k h.1.o,by rw[g.s,g.t];exact h.1.g⟩,λf hf=>(key f hf).1⟩
theorem Vc.mono{a:CKt}(h:Vc m a)(hk:k<=m):Vc k a:=⟨h.1,λf hf=>by have:=h.2 f hf;omega⟩
def Sp(m:Nat)(n:U5)(a:CKt)(r:U7 FTt):Prop:=(∃b,r=u (.inr b)/\Gr m a b/\KnX b n)\/V6 r
theorem zBA{st:CKt}(h:Vc 1 st)(n:U5)(p:PP)(hp:OkO st.1.2.1.xs p):Sp 1 n st (q37 (n,p,st)):=by
 obtain⟨⟨sg,t,a,j⟩,fns⟩:=st;obtain⟨⟨⟨jn,rfl,hj⟩,hv,hs,hf,hO,_⟩,hb⟩:=h;simp only at hj hv hb;have hv:=(hv _ (gc hj)).1;have hb:=hb _ (gc hj);unfold q37 qae;simp only[zg hj,jj,yS];rw[wW _ _ (by simp only;omega)];simp only[jj,jl];by_cases h1:0<=idP n fns.xs[jn].V_.xs
 ·have h2:idP n fns.xs[jn].V_.xs < fns.xs[jn].V_.xs.length:=yz.2.1;obtain⟨i,hi⟩:∃i:Nat,idP n fns.xs[jn].V_.xs=(i:Int):=⟨_,(DH h1).symm⟩
  rw[hi] at h2 h1;simp only[hi,h1,jq,zg (s:=fns.xs[jn].V_) (show i < _ by omega),jj];rcases zie (ok:=decide (fns.xs[jn].V_.xs[i].N_=n) && (decide (fns.xs[jn].V_.xs[i].M_=p.M_) && (decide (fns.xs[jn].V_.xs[i].t_=p.t_) && w))) (Q:=True) (e:=40) (s:=((sg,t,a,(jn:Int)),fns)) (by decide) (λ_=>trivial) with⟨e,_⟩ | e
  ·exact .inl ⟨_,e,(Gr.refl rfl rfl rfl rfl).mono (by omega),_,⟨jn,rfl,UM hj⟩,by omega⟩
  ·exact .inr e
 ·simp only[h1,jp,js,D1];rw[Zz (by omega) (by omega),jj];refine .inl ⟨_,rfl,⟨rfl,rfl,rfl,by simp[Sl.set],λi h1 h2=>?_,λhk f hf p' hp'=>?_⟩,_,⟨jn,rfl,by simp only[Sl.set,G];exact List.getElem?_set_self hj⟩,yz.2.2.2 ⟨⟨n,p.M_,p.t_⟩,by simp,by simp⟩⟩
  rotate_left
  ·simp only[Sl.set,G] at hf;rcases List.mem_or_eq_of_mem_set hf with hf | rfl
   ·exact hk f hf p' hp'
   ·exact zeu (hk _ (gc hj)) (p:=⟨n,p.M_,p.t_⟩) hp p' hp'
  simp only[Sl.set,G,List.getElem_set];by_cases hij:jn=i
  ·subst hij;simp only[jq];exact⟨trivial,trivial,[⟨n,p.M_,p.t_⟩],rfl,by simp⟩
  ·simp only[hij,jp];exact⟨trivial,trivial,[],by simp⟩
theorem zBB(fs:Sl PNf)(n:Nd)(h:fs.xs.length<=50000):q3w (fs,n)=u (idx (λx=>decide (x.N_=n.T_)) fs.xs,fs,n):=by
 have:=wm (f:=q6z q4o) (xs:=fs.xs) (p:=λx=>decide (x.N_=n.T_)) (st:=λi=>(fs.len,(i:Int),fs,n)) (yes:=λi =>.inl ((i:Int),fs,n)) (no :=.inr (fs,n))
  (λi hi=>by
   unfold q6z;simp only[jl,zm];rw[jv (by simp only[zj];omega),zg hi,jj,jj,jj];show((u (decide (fs.xs[i].N_=n.T_))).bind _)=_;simp only[jj,zw (show i < 1000000000 by omega)]
   grind)
  (by unfold q6z;simp only[jl,zm];rw[jx (by simp only[zj];omega)])
 unfold q3w qbn;simp only[zm];have this:lpO (q6z q4o) (fs.len,0,fs,n)=_:=this;rw[this];unfold idx;cases fs.xs.findIdx? _<;>rfl
theorem zyx{α:Type}{p:α->Bool}{l ex:List α}(h:idx p l=(i:Int)):idx p (l++ex)=(i:Int):=by
 unfold idx at h |-
 rw[List.findIdx?_append];cases e:l.findIdx? p with
 |none=>grind
 |some j=>grind
theorem KnX.gr{a b:CKt}(g:Gr m a b){n:U5}(h:KnX a n):KnX b n:=by
 obtain⟨f,⟨j,hj,hf⟩,hi⟩:=h;obtain⟨hj',rfl⟩:=UG.1 hf;have hb:j < b.2.xs.length:=by rw[g.l];exact hj'
 obtain⟨_,_,ex,v1,_⟩:=g.f j hj' hb;obtain⟨i,hi⟩:∃i:Nat,idP n a.2.xs[j].V_.xs=(i:Int):=⟨_,(DH hi).symm⟩
 refine⟨_,⟨j,g.j.trans hj,UM hb⟩,?_⟩;rw[v1,show idP n (a.2.xs[j].V_.xs++ex)=(i:Int) from zyx hi];omega
theorem Kn.gr{a b:CKt}(g:Gr m a b){n:U5}(h:Kn a n):Kn b n:=h.imp id λh=>h.gr g
theorem zvd{a b:CKt}(g:Gr m a b)(y:U5):idx (λx=>decide (x.N_=y)) b.2.xs=idx (λx=>decide (x.N_=y)) a.2.xs:=by
 have h:b.2.xs.map qe.N_=a.2.xs.map qe.N_:=List.ext_getElem (by simp[g.l]) λi h1 h2=>by
  rw[L,L];exact(g.f i (by simpa using h2) (by simpa using h1)).1
 have k:∀l:List PNf,idx (λx=>decide (x.N_=y)) l=idx (λx=>decide (x=y)) (l.map qe.N_):=λl=>by
  unfold idx;rw[List.findIdx?_map];rfl
 rw[k,k,h]
theorem zfT.gr{a b:CKt}(g:Gr m a b){y:U5}{l:List U5}(h:zfT a.2.xs y l):zfT b.2.xs y l:=by
 obtain⟨k,f,h1,h2,h3,h4,h5⟩:=h;obtain⟨hk,rfl⟩:=UG.1 h2;have hb:k < b.2.xs.length:=by rw[g.l];exact hk
 obtain⟨_,p1,ex,v1,_⟩:=g.f k hk hb;refine⟨k,_,(zvd g y).trans h1,UM hb,by grind,by grind,?_⟩;grind
theorem pN.gr{a b:CKt}(g:Gr m a b)(h:pN a n):pN b n:=⟨λc=>(h.q c).gr g,h.y,λc=>KnX.gr g (h.s c),λc=>by have:=h.c c;unfold QN at *;rw[g.s];exact this,λc=>zfT.gr g (h.f c)⟩
theorem zyy{st:CKt}(h:Vd st)(l:Sl Nd)(hl:l.xs.length<=50000)(hk:k < st.2.xs.length):LkQ ((∀k∈l.xs,Kn st k.T_)/\(l.xs.length:Int)=st.2.xs[k].P_/\Fit (l.xs.map q8.T_) st.2.xs[k].V_.xs) st (q1z (l,((k:Int),0,st.2.xs[k].P_),st)):=by
 obtain⟨v1,v2,v3⟩:=h.v _ (gc hk);have hgs:=YV (s:=st.2.xs[k].V_) (lo:=0) (hi:=st.2.xs[k].P_) (by omega) v2 v3;rw[show(0:Int).toNat=0 from rfl,Dv] at hgs;unfold q1z q7r;simp only[yS,Vt,jj,jl,zg hk,hgs];by_cases hlen:Sl.len l=st.2.xs[k].P_ - 0
 rotate_left
 ·simp only[hlen,jp,jo];exact .inr ⟨_,_,rfl,by simp⟩
 simp only[hlen,jq,jm];simp only[zj] at hlen
 rcases goE (f:=q64 q17 q1h) (n:=l.xs.length) (A:=CKt) (st:=λi a=>(((k:Int),0,st.2.xs[k].P_),l,st.2.xs[k].P_ - 0,(i:Int),a)) (fin:=λa =>.inr a) (J:=λi a=>a=st/\zfS st l.xs st.2.xs[k].V_.xs i) (bad:=λr=>V6 (u r))
  (λi hi a ha=>by
   obtain⟨ha,hq⟩:=ha;subst ha;unfold q64;simp only[jl,zm];have hi2:i < a.2.xs[k].V_.xs.length:=by omega
   rw[jv (by omega),zg hi,jj,zg hk,jj,hgs,jj];rw[zg (s:=⟨_,_⟩) (by grind)];simp only[jj,Int.zero_add];rw[zg hi2,jj];rcases zpQ h l.xs[i] (a.2.xs[k].V_.xs[i]) with⟨e,q⟩ | ⟨f,s,e,hf⟩
   ·rw[e,jj,jm,zw (by omega)];exact .inl ⟨a,rfl,rfl,hq.next (UM hi) (UM hi2) q⟩
   ·rw[e,jj,jo]
    exact .inr ⟨_,rfl,_,_,rfl,hf⟩)
  (λa ha=>by
   unfold q64
   grind)
  (a:=st) ⟨rfl,λj b hj=>by omega⟩ with⟨a,e,rfl,q⟩ | ⟨r,e,f,s,e2,hf⟩
 ·exact .inl ⟨e,q.fin.1,by omega,q.fin.2⟩
 ·cases e2;exact .inr ⟨_,_,e,hf⟩
abbrev Wu:PP:=⟨lit [],1,0⟩
noncomputable abbrev LF(F:Nat):=q26 q29 q37 q20 q3w q17 q1z q1h (q2i F)
def StP(s:Nd):Prop:=∀F (st:CKt) (l:Sl Nd) (i:Nat) (hi:i < l.xs.length),l.xs[i]=s->l.xs.length<=50000->zl s<=F->Vc (zl s) st->
 (∃b,LF F (l,l.len,(i:Int),st.1,st.2,Wu)=u (.next (l,l.len,((i+1:Nat):Int),b.1,b.2,Wu))/\Gr (zl s) st b/\AllN (pN b) s)\/∃r,LF F (l,l.len,(i:Int),st.1,st.2,Wu)=u (.done r)/\V6 (u r)
def BlP(n:Nat)(ks:Sl Nd):Prop:=∀F (st:CKt),n<=F->Vc n st->(∃b,q2i F (ks,st)=u (.inr b)/\Gr n st b/\∀s∈ks.xs,AllN (pN b) s)\/V6 (q2i F (ks,st))
theorem zn2{ks:Sl Nd}(h:∀s∈ks.xs,StP s)(hl:zd ks.xs<=40000):BlP (zd ks.xs+1) ks:=by
 intro F st hF hv;obtain⟨F,rfl⟩:∃k,F=k+1:=⟨F - 1,by omega⟩
 have hk:=Wt ks.xs
 rcases goE (f:=LF F) (n:=ks.xs.length) (A:=CKt) (st:=λi a=>(ks,ks.len,(i:Int),a.1,a.2,Wu)) (fin:=λa =>.inr a) (J:=λi a=>Gr (zd (ks.xs.take i)) st a/\∀s∈ks.xs.take i,AllN (pN a) s) (bad:=λr=>V6 (u r))
  (λi hi a ha=>by
   have hz:=Y1 hi;obtain⟨ha,hq⟩:=ha;have ha2:Vc (zl ks.xs[i]) a:=Vc.gr (hv.mono (show zd (ks.xs.take i)+zl ks.xs[i]<=_ by omega)) ha;rcases h _ (gc hi) F a ks i hi rfl (by omega) (by omega) ha2 with⟨b,e,g,q⟩ | hb
   ·refine .inl ⟨b,e,?_⟩;rw[<- DI hi,zL];refine⟨(ha.trans g).mono (by simp[zd]),λs hs=>?_⟩;rcases U9.1 hs with hs | hs
    ·exact(hq s hs).mono λn=>pN.gr g
    grind
   grind)
  (λa ha=>by
   show q26 _ _ _ _ _ _ _ _ _=_;unfold q26;simp only[jl]
   rw[jx (by simp only[zj];omega)])
  (a:=st) ⟨(Gr.refl rfl rfl rfl rfl).mono (by omega),by simp⟩ with⟨a,e,g,q⟩ | ⟨r,e,f,s,e2,hf⟩
 ·rw[Dw] at g q;refine .inl ⟨a,?_,g.mono (by omega),q⟩;exact congrArg (λo=>I o λy=>D (λa=>u (C a)) (λb=>u (E b)) y) e
 ·cases e2;exact .inr ⟨f,s,congrArg (λo=>I o λy=>D (λa=>u (C a)) (λb=>u (E b)) y) e,hf⟩
abbrev XT:=(Int×Int)×CKt⊕Sl Nd×Int×Int×(Sl PSg×Sl PT×Int×Int)×Sl PNf×PP
def zpS(R:CKt->Prop)(l:Sl Nd)(i:Nat)(X:U7 XT):Prop:=(∃b,X=u (.inr (l,l.len,(i:Int),b.1,b.2,Wu))/\R b)\/V6 X
theorem zwa {R:CKt->Prop}{l:Sl Nd}{X:U7 XT}(h:zpS R l i X) (hi:i < 1000000000) :
    (∃b:CKt,(X.bind λy68=>D (λy69=>u (Step.done (C y69:FTt))) (λy70=>u (Step.next (y70.1,y70.2.1,U8 (y70.2.2.1+1),y70.2.2.2))) y68)=u (.next (l,l.len,((i+1:Nat):Int),b.1,b.2,Wu))/\R b)\/
    ∃r,(X.bind λy68=>D (λy69=>u (Step.done (C y69:FTt))) (λy70=>u (Step.next (y70.1,y70.2.1,U8 (y70.2.2.1+1),y70.2.2.2))) y68)=u (.done r)/\V6 (u r):=by
 rcases h with⟨b,rfl,g⟩ | ⟨f,s,rfl,hf⟩
 ·exact .inl ⟨b,by simp only[jj,jm,zw hi],g⟩
 ·exact .inr ⟨_,by simp only[jj,jo];rfl,_,_,rfl,hf⟩
def atS(st:CKt)(a:Int):CKt:=((st.1.1,st.1.2.1,a,st.1.2.2.2),st.2)
theorem Vd.at{st:CKt}(h:Vd st)(a:Int):Vd (atS st a):=⟨h.j,h.v,h.s,h.f,h.o,h.g⟩
theorem Vc.at{st:CKt}(h:Vc k st)(a:Int):Vc k (atS st a):=⟨h.1.at a,h.2⟩
theorem Gr.at{st b:CKt}(h:Gr m (atS st a) b):Gr m st b:=⟨h.s,h.t,h.j,h.l,h.f,h.k⟩
theorem g0{st:CKt}:Gr m st (atS st a):=(Gr.refl (a:=st) (b:=atS st a) rfl rfl rfl rfl).mono (UO _)
theorem zif{k:Nd}(h:n.K_=⟨[k],w⟩)(hn:zl n<=40000):k.K_.xs.length<=50000:=by
 have a:=@ZX n k (by rw[h];simp);have b:=@Zl k;omega
theorem Vu{s:Nd}(g:StmtG s)(hz:zl s<=40000)(h15:s.k_≠15)(h16:s.k_≠16):StP s:=by
 intro F st l i hi hs hl hF hv;show(∃b,q26 _ _ _ _ _ _ _ _ _=_/\_)\/∃r,q26 _ _ _ _ _ _ _ _ _=_/\_
 unfold q26;simp only[jl,zm,yS];rw[jv (by simp only[zj];omega),zg hi,hs,jj];refine zwa ?_ (by omega);have hv':=hv.1.at s.a_;have bad:∀{e:Int},e≠0->zpS (λb=>Gr (zl s) st b/\AllN (pN b) s) l i (u (.inl ((s.a_,e),atS st s.a_))):=λhe =>.inr ⟨_,_,rfl,he⟩
 have ok:AllN (pN (atS st s.a_)) s->zpS (λb=>Gr (zl s) st b/\AllN (pN b) s) l i (u (.inr (l,l.len,(i:Int),(atS st s.a_).1,(atS st s.a_).2,Wu))):=λh =>.inl ⟨_,rfl,g0,h⟩
 have hm:∀(b:Bool) (e:Int),q17 (b,e,(st.1.1,st.1.2.1,s.a_,st.1.2.2.2),st.2)=u (if b=w then .inr (atS st s.a_) else .inl ((s.a_,e),atS st s.a_)):=λb e=>Vt b e (atS st s.a_)
 cases g with
 | @leaf k t n a c=>
  rcases c with rfl | rfl | rfl | rfl | rfl
  ·simp (decide:=true) only [js,jr,jq,jp,jk,jj,jo,jm,hm];grind
  ·simp (decide:=true) only [js,jr,jq,jp,jk,jj,jo,jm,hm];grind
  ·simp (decide:=true) only [js,jr,jq,jp,jk,jj,jo,jm,hm];grind
  ·simp (decide:=true) only [js,jr,jq,jp,jk,jj,jo,jm,hm,show(nilS:Sl Nd).len=0 from rfl];exact ok (.mk (.o (by simp) (by simp) (by simp)) (by simp))
  ·simp (decide:=true) only [js,jr,jq,jp,jk,jj,jo,jm,hm];exact ok (.mk (.o (by simp) (by simp) (by simp)) (by simp))
 |ite=>grind
 |whl=>grind
 |ret c=>
  simp (decide:=true) only [jr,jq,jp,jk,jj,jo,jm,hm,show∀x:Nd,Sl.len (⟨[x],w⟩:Sl Nd)=1 from λ_=>rfl];grind
 | @fork t n a ks c=>
  have hkl:=@Zl ⟨19,t,n,a,ks⟩;have e:=zBB st.2 ⟨19,t,n,a,ks⟩ hv.1.f;generalize hx:idx (λx:PNf=>decide (x.N_=(q8.mk 19 t n a ks).T_)) st.2.xs=x at e;simp (decide:=true) only [jr,jq,jp,jk,jj,hm,e];by_cases h1:0<=x
  rotate_left
  ·grind
  obtain⟨k,rfl⟩:∃k:Nat,x=(k:Int):=⟨_,(DH h1).symm⟩
  have hk:k < st.2.xs.length:=by have h:idx (λx:PNf=>decide (x.N_=(q8.mk 19 t n a ks).T_)) st.2.xs < st.2.xs.length:=yz.2.1;omega
  obtain⟨v1,v2,v3⟩:=hv.1.v _ (gc hk);simp only[h1,js,jq,jm];rw[show(atS st a).2=st.2 from rfl];simp only[zg hk,jj,YV (s:=st.2.xs[k].V_) (lo:=0) (hi:=st.2.xs[k].P_) (by omega) v2 v3];rcases zyy (st:=atS st a) hv' ks (by grind) (k:=k) hk with⟨e,q⟩ | ⟨f,s,e,hf⟩
  ·have e:q1z (ks,((k:Int),0,st.2.xs[k].P_),atS st a)=_:=e;simp only[e,jj,jm];obtain⟨q,q1,q2⟩:=q;exact ok (.mk ⟨by simp,by simp,by simp,by simp,λ_=>⟨k,_,hx,UM hk,by rw[D4];exact q1,v3,λi b p hb hp=>q2 i b p hb (by rw[List.getElem?_take] at hp;split at hp<;>first | exact hp | cases hp)⟩⟩ λk hk=>xM (c k hk) (q k hk))
  ·have e:q1z (ks,((k:Int),0,st.2.xs[k].P_),atS st a)=_:=e;simp only[e,jj,jo];exact .inr ⟨_,_,rfl,hf⟩
 | @call t n a x c=>
  rcases zs2 (st:=atS st a) hv' x (zif (n:=⟨20,t,n,a,⟨[x],w⟩⟩) rfl hz) with⟨p,e,_,q,qc⟩ | ⟨f,s,e,hf⟩
  ·have e:q20 (x,(st.1.1,st.1.2.1,a,st.1.2.2.2),st.2)=_:=e;simp (decide:=true) only [jr,jq,jp,jk,jj,show za (⟨[x],w⟩:Sl Nd) 0=u x from rfl,e,jm];refine ok (.mk (.o (by simp) (by simp) (by simp)) λk hk=>?_);obtain rfl:=D2.1 hk;exact .mk ⟨by simp[c.1],by simp[c.1],by simp[c.1],λ_=>qc,by simp[c.1]⟩ λk hk=>xM (c.2 k hk) (q k hk)
  ·have e:q20 (x,(st.1.1,st.1.2.1,a,st.1.2.2.2),st.2)=_:=e;simp (decide:=true) only [jr,jq,jp,jk,jj,show za (⟨[x],w⟩:Sl Nd) 0=u x from rfl,e,jo];exact .inr ⟨_,_,rfl,hf⟩
 |store c d=>
  simp (decide:=true) only [jr,jp,jk,jj,jo,jm,hm];grind
 | @set t n a x c=>
  rcases zAb (st:=atS st a) hv' c (zif (n:=⟨10,t,n,a,⟨[x],w⟩⟩) rfl hz) with⟨p,e,q,qo⟩ | ⟨f,s,e,hf⟩
  ·have e:q29 (x,(st.1.1,st.1.2.1,a,st.1.2.2.2),st.2)=_:=e;simp (decide:=true) only [jr,jq,jp,jk,jj,show za (⟨[x],w⟩:Sl Nd) 0=u x from rfl,e,jo];rcases zBA (st:=atS st a) ((hv.mono (z6 _)).at a) t p qo with⟨b,e,g,kb⟩ | ⟨f,s,e,hf⟩
   ·simp only[e,jj,jm];refine .inl ⟨b,rfl,(g.mono (z6 _)).at,.mk ⟨by simp,by simp,λ_=>kb,by simp,by simp⟩ λk hk=>?_⟩;obtain rfl:=D2.1 hk;exact q.mono λn=>pN.gr g
   ·simp only[e,jj,jo];exact .inr ⟨_,_,rfl,hf⟩
  ·have e:q29 (x,(st.1.1,st.1.2.1,a,st.1.2.2.2),st.2)=_:=e;simp (decide:=true) only [jr,jq,jp,jk,jj,show za (⟨[x],w⟩:Sl Nd) 0=u x from rfl,e,jm];exact .inr ⟨_,_,rfl,hf⟩
theorem zg3{k:Int}{op:U5}{n:Int}{x y:Nd}{bs:List Nd}(hk:k=15\/k=16)(hz:zl ⟨k,op,n,a,⟨x::y::bs,w⟩⟩<=40000)(hx:ZP x)(hy:ZP y)(hb:∀b∈bs,b.k_=9/\BlP (zl b) b.K_):StP ⟨k,op,n,a,⟨x::y::bs,w⟩⟩:=by
 intro F st l i hi hs hl hF hv;have hsz:zl ⟨k,op,n,a,⟨x::y::bs,w⟩⟩=zl x+(zl y+zd bs)+1:=by rw[zk];simp[zd]
 have px:=z6 x;have py:=z6 y;show(∃b,q26 _ _ _ _ _ _ _ _ _=_/\_)\/∃r,q26 _ _ _ _ _ _ _ _ _=_/\_
 unfold q26;simp only[jl,zm,yS];rw[jv (by simp only[zj];omega),zg hi,hs,jj];refine zwa ?_ (by omega);have hv':=hv.1.at a;have hgs:z7 (⟨x::y::bs,w⟩:Sl Nd) 2 (⟨x::y::bs,w⟩:Sl Nd).len=u ⟨bs,w⟩:=by
  rw[YV (by omega) (by simp only[zj,jz];omega) (by simp only[zj];omega)];simp only[zj,G,Dw];rfl
 have hbl:=Wt bs;have hf:∀z:Nd,LkQ (Kn (atS st a) z.T_) (atS st a) (q1h (z,Wu,(st.1.1,st.1.2.1,a,st.1.2.2.2),st.2)):=λz=>by
  rcases zpQ hv' z Wu with⟨e,q⟩ | e
  ·exact .inl ⟨e,q.1⟩
  ·exact .inr e
 have main:Kn (atS st a) x.T_->Kn (atS st a) y.T_->zpS (λc=>Gr (zl ⟨k,op,n,a,⟨x::y::bs,w⟩⟩) st c/\AllN (pN c) ⟨k,op,n,a,⟨x::y::bs,w⟩⟩) l i ((lpO (q54 q29 q37 q20 q3w q17 q1z q1h (q2i F)) (l,l.len,(i:Int),⟨bs,w⟩,(⟨bs,w⟩:Sl Nd).len,0,(atS st a).1,(atS st a).2,Wu))):=by
  intro kx ky
  rcases goE (f:=q54 q29 q37 q20 q3w q17 q1z q1h (q2i F)) (n:=bs.length) (A:=CKt)
   (st:=λj c=>(l,l.len,(i:Int),⟨bs,w⟩,(⟨bs,w⟩:Sl Nd).len,(j:Int),c.1,c.2,Wu)) (fin:=λc =>.inr (l,l.len,(i:Int),c.1,c.2,Wu)) (J:=λj c=>Gr (zd (bs.take j)) (atS st a) c/\∀b∈bs.take j,AllN (pN c) b) (bad:=λr=>V6 (u r))
   (λj hj c hc=>by
    obtain⟨hc,hq⟩:=hc;unfold q54;simp only[jl];rw[jv (by simp only[zj];omega),zg (s:=⟨bs,w⟩) hj,jj];have hz:=Y1 hj;have hc2:Vc (zl bs[j]) c:=Vc.gr ((hv.at a).mono (show zd (bs.take j)+zl bs[j]<=_ by omega)) hc;obtain⟨hb9,hb'⟩:=hb _ (gc hj);rcases hb' F c (by omega) hc2 with⟨b,e,g,q⟩ | ⟨f,s,e,hf⟩
    ·refine .inl ⟨b,?_,?_⟩
     ·show((q2i F (bs[j].K_,c)).bind _)=_;rw[e,jj,jm,zw (by omega)]
     ·rw[<- DI hj,zL];refine⟨(hc.trans g).mono (by simp[zd]),λs hs=>?_⟩;rcases U9.1 hs with hs | hs
      ·exact(hq s hs).mono λn=>pN.gr g
      ·rw[D2] at hs;subst hs;exact .mk (.o (by simp[hb9]) (by simp[hb9]) (by omega)) q
    ·refine .inr ⟨.inl (f,s),?_,f,s,rfl,hf⟩
     grind)
   (λc hc=>by
    unfold q54;simp only[jl]
    rw[jx (by simp only[zj];omega)])
   (a:=atS st a) ⟨(Gr.refl rfl rfl rfl rfl).mono (by omega),by simp⟩ with⟨c,e,g,q⟩ | ⟨r,e,f,s,e2,hf⟩
  ·rw[Dw] at g q;refine .inl ⟨c,e,(g.mono (by omega)).at,.mk (.o (λh=>by grind) (λh=>by grind) (by grind)) λz hz=>?_⟩
   ·rcases De.1 hz with rfl | hz
    ·exact xM hx (kx.gr g)
    rcases De.1 hz with rfl | hz
    ·exact xM hy (ky.gr g)
    grind
  ·cases e2;exact .inr ⟨_,_,e,hf⟩
 rcases hk with rfl | rfl<;>
 ·simp (decide:=true) only [js,jr,jq,jp,jj,show za (⟨x::y::bs,w⟩:Sl Nd) 0=u x from rfl,show za (⟨x::y::bs,w⟩:Sl Nd) 1=u y from rfl];rcases hf x with⟨e,kx⟩ | ⟨f,s,e,hf'⟩
  rotate_left
  ·simp only[e,jj,jo];exact .inr ⟨_,_,rfl,hf'⟩
  have e2:=hf y;simp only[e,jj,jm];rcases e2 with⟨e2,ky⟩ | ⟨f,s,e2,hf'⟩
  rotate_left
  ·have e2:q1h (y,Wu,atS st a)=_:=e2;simp only[e2,jj,jo];exact .inr ⟨_,_,rfl,hf'⟩
  have e2:q1h (y,Wu,atS st a)=_:=e2;grind
theorem zAc{s:Nd}(h:StmtG s)(hs:zl s<=40000):StP s:=by
 have blk:∀(a:Int) (b:List Nd),(∀s∈b,zl s<=40000->StP s)->zl ⟨9,lit [],0,a,mkS b⟩<=40000->BlP (zl ⟨9,lit [],0,a,mkS b⟩) (q8.mk 9 (lit []) 0 a (mkS b)).K_:=λa b ih hz=>by
  rw[zk] at hz |-
  exact zn2 (λs hs=>ih s hs (by have:=X7 hs;omega)) (by omega)
 induction h with
 | @ite op n a x y b1 a1 b2 a2 hx hy h1 h2 i1 i2=>
  refine zg3 (.inl rfl) hs hx hy λb hb=>?_
  rw[zk] at hs;simp only[zd] at hs;grind
 | @whl op n a x y b1 a1 hx hy h1 i1=>
  refine zg3 (.inr rfl) hs hx hy λb hb=>?_
  rw[zk] at hs;simp only[zd] at hs;grind
 | @leaf k t n a c=>exact Vu (.leaf c) hs (by grind) (by grind)
 |ret c=>exact Vu (.ret c) hs (by simp) (by simp)
 |fork c=>exact Vu (.fork c) hs (by simp) (by simp)
 |call c=>exact Vu (.call c) hs (by simp) (by simp)
 |store c d=>exact Vu (.store c d) hs (by simp) (by simp)
 |set c=>exact Vu (.set c) hs (by simp) (by simp)
theorem zAd{b:Nd}(h:V5 b)(hs:zl b<=40000):BlP (zl b) b.K_:=by
 obtain⟨a,l,rfl,hl⟩:=h;rw[zk] at hs |-
 have hs:zd l+1<=40000:=hs;exact zn2 (λs hs'=>zAc (hl s hs') (by have:zl s<=zd l:=X7 hs';omega)) (by grind)
structure FnR(m:Nat)(k:Nd)(f:PNf):Prop where
 g:FnG k
 p:f.P_=((Xo k).length:Int)
 l:(Xo k).length<=8
 v:(Xo k).length<=f.V_.xs.length/\f.V_.xs.length<=(Xo k).length+m
def xJ(m:Nat)(ks:List Nd)(fs:List PNf):Prop:=∃h:fs.length=ks.length,∀i (hi:i < ks.length),FnR m ks[i] (fs[i]'(by omega))
theorem xJ.mono{fs:List PNf}(h:xJ m ks fs)(hm:m<=k):xJ k ks fs:=⟨h.1,λi hi=>by obtain⟨a,b,c,d⟩:=h.2 i hi;exact⟨a,b,c,by omega⟩⟩
theorem xJ.snoc{fs:List PNf}{k:Nd}{f:PNf}(h:xJ m ks fs)(g:FnR m k f):xJ m (ks++[k]) (fs++[f]):=by
 have hl:=h.1;refine⟨by simp[hl],λi hi=>?_⟩;rw[jy,g9] at hi;by_cases c:i < ks.length
 ·rw[N c,N (by omega)];exact h.2 i c
 ·obtain rfl:i=ks.length:=by omega
  grind
abbrev OkS(t:Sl PT)(fs:Sl PNf):Prop:=∀f∈fs.xs,∀p∈f.V_.xs,OkO t.xs p
theorem xJ.vc{at_:Int}{fs:Sl PNf}(ho:OkS t fs)(hsg:∀s∈sg.xs,OkO t.xs s.R_)(h:xJ m ks fs.xs)(hs:sg.xs.length<=50000)(hk:ks.length<=50000)(hm:m+5000<=50000)(hi:i < ks.length):Vc 5000 ((sg,t,at_,(i:Int)),fs):=by
 have key:∀f∈fs.xs,f.V_.xs.length<=m+8/\0<=f.P_/\f.P_<=f.V_.xs.length:=by
  intro f hf;obtain⟨j,hj,rfl⟩:=H hf;have r:=h.2 j (by rw[<- h.1];exact hj);have hv:=r.v;have h8:=r.l;have hp:=r.p;grind
 exact⟨⟨⟨i,rfl,by show i < fs.xs.length;rw[h.1];exact hi⟩,λf hf=>⟨by grind,(key f hf).2⟩,hs,by show fs.xs.length<=_;rw[h.1];exact hk,ho,hsg⟩,λf hf=>by grind⟩
theorem xJ.gr{a b:CKt}(h:xJ m ks a.2.xs)(g:Gr k a b):xJ (m+k) ks b.2.xs:=
 ⟨g.l.trans h.1,λi hi=>by
  have r:=h.2 i hi;obtain⟨_,g2,ex,g3,g4⟩:=g.f i (by grind) (by rw[g.l,h.1];exact hi);have hv:=r.v;have g3:=congrArg K g3;rw[jy] at g3
  exact⟨r.g,g2.trans r.p,r.l,by omega⟩⟩
theorem zs3(n:Nd)(ok:Bool)(e:Int)(s:CKt):q3p (n,ok,e,s)=u (if ok=w then .inr (atS s n.a_) else .inl ((n.a_,e),atS s n.a_)):=by cases ok<;>rfl
noncomputable abbrev LC0:=q70 q25 q3e q6c q3u q4x q3p q5k
noncomputable abbrev LC1:=q71 q25 q3e q6c q3u q4x q3p q5k
def zpT(n:Nd)(r:((Int×Int)×Nd×Int×Int)⊕β):Prop:=∃f,r = .inl (f,n,0,0)/\f.2≠0
theorem zAe (hg:UnitG n) (sg:Sl PSg) (t:Sl PT) (ht:t.xs.length<=100000) (at0:Int) :
    (∃a fs,lpO LC0 (n.K_,n.K_.len,0,n,0,0,(sg,t,at0),Sl.mk [] B)=u (.inr (n,0,0,(sg,t,a),fs))/\xJ 0 n.K_.xs fs.xs/\OkS t fs)\/
    ∃r,lpO LC0 (n.K_,n.K_.len,0,n,0,0,(sg,t,at0),Sl.mk [] B)=u r/\zpT n r:=by
 have hkl:=@Zl n;have hsz:=hg.size
 rcases goE (f:=LC0) (n:=n.K_.xs.length) (A:=Int×Sl PNf) (st:=λi a=>(n.K_,n.K_.len,(i:Int),n,0,0,(sg,t,a.1),a.2)) (fin:=λa =>.inr (n,0,0,(sg,t,a.1),a.2)) (J:=λi a=>xJ 0 (n.K_.xs.take i) a.2.xs/\OkS t a.2) (bad:=zpT n)
  (λi hi a ha=>by
    obtain⟨a,fs⟩:=a;obtain⟨ha,hO⟩:=ha;have hl:=ha.1;rw[Do] at hl;simp only at hl hO;show(∃a',q70 _ _ _ _ _ _ _ _=_/\_)\/∃r,q70 _ _ _ _ _ _ _ _=_/\_
    unfold q70;simp only[jl,zm,ZI];rw[jv (by simp only[zj];omega),zg hi,jj,zfR,jj];by_cases h6:n.K_.xs[i].k_=6
    rotate_left
    ·simp only[h6,jr,jk,jp,jo,jj];exact .inr ⟨_,rfl,_,rfl,by simp⟩
    simp only[h6,js,jq,jm];have hf:FnG n.K_.xs[i]:=by
     rcases hg.kid _ (gc hi) with h | h
     ·exact absurd h.1 (by grind)
     ·exact h
    rcases zz8 hf (by have:=ZX (gc hi);omega) sg t ht n.K_.xs[i].a_ fs with⟨a',vars,e,h8,hv,hvo⟩ | ⟨r,e,f,s,rfl,hf⟩
    ·simp only[e,jj,jm];rw[Zz (by omega) (by omega)];simp only[jj,jm,zw (show i < 1000000000 by omega)];refine .inl ⟨(a',_),rfl,?_⟩;rw[<- DI hi];refine⟨ha.snoc ⟨hf,rfl,h8,by grind⟩,λf hf=>?_⟩;grind
    · simp only[e,jj,jo]
      exact .inr ⟨_,rfl,_,rfl,hf⟩)
  (λa ha=>by
    show q70 _ _ _ _ _ _ _ _=_;unfold q70;simp only[jl,zm]
    rw[jx (by simp only[zj];omega)])
  (a:=(at0,Sl.mk [] B)) ⟨⟨by simp,λi hi=>by simp at hi⟩,λf hf=>by cases hf⟩ with⟨⟨a,fs⟩,e,h⟩ | h
 all_goals grind
abbrev zpU(sg:Sl PSg)(t:Sl PT)(fs:Sl PNf)(k:Nd)(i:Nat):Prop:=∀b∈k.K_.xs,b.k_=9->AllN (pN ((sg,t,0,(i:Int)),fs)) b
theorem pN.grj{i j:Int}{fs:Sl PNf}{c:CKt}(g:Gr m ((sg,t,a,i),fs) c)(h:pN ((sg,t,0,j),fs) n):pN ((sg,t,0,j),c.2) n:=
 h.gr (m:=m) (a:=((sg,t,0,j),fs)) (b:=((sg,t,0,j),c.2)) ⟨rfl,rfl,rfl,g.l,g.f,λh=>by have:=g.k h;rw[g.t] at this;exact this⟩
theorem pN.at'{i:Int}{c:CKt}(h:pN c n)(cs:c.1.1=sg)(ct:c.1.2.1=t)(cj:c.1.2.2.2=i):pN ((sg,t,0,i),c.2) n:=by
 subst cs ct cj;exact h
theorem zAf (hg:UnitG n) (sg:Sl PSg) (t:Sl PT) (hsg:∀s∈sg.xs,OkO t.xs s.R_) (hs:sg.xs.length<=50000) (at0:Int) {fs0:Sl PNf}(h0:xJ 0 n.K_.xs fs0.xs) (o0:OkS t fs0) :
    (∃a fs,lpO LC1 (n.K_,n.K_.len,0,n,0,0,(sg,t,at0),fs0)=u (.inr (n,0,0,(sg,t,a),fs))/\xJ 5000 n.K_.xs fs.xs/\OkS t fs/\∀(i:Nat) (hi:i < n.K_.xs.length),zpU sg t fs n.K_.xs[i] i)\/
    ∃r,lpO LC1 (n.K_,n.K_.len,0,n,0,0,(sg,t,at0),fs0)=u r/\zpT n r:=by
 have hkl:=@Zl n;have hsz:=hg.size;have hse:=zk n
 rcases goE (f:=LC1) (n:=n.K_.xs.length) (A:=Int×Sl PNf) (st:=λi a=>(n.K_,n.K_.len,(i:Int),n,0,0,(sg,t,a.1),a.2)) (fin:=λa =>.inr (n,0,0,(sg,t,a.1),a.2)) (J:=λi a=>xJ (zd (n.K_.xs.take i)) n.K_.xs a.2.xs/\OkS t a.2/\∀(k:Nat) (hk:k < n.K_.xs.length),k < i->zpU sg t a.2 n.K_.xs[k] k) (bad:=zpT n)
  (λi hi a ha=>by
    obtain⟨a,fs⟩:=a;obtain⟨ha,hO,hD⟩:=ha;have hl:=ha.1;have hst:=Y1 hi;simp only at hl hD;have r:=ha.2 i hi;obtain⟨k6,ps,rr,b,hk,hpp,hrr,hr8,hb⟩:=r.g;have hk':=congrArg Sl.xs hk;simp only at hk';have hlen:n.K_.xs[i].K_.xs.length=ps.length+2:=by rw[hk];simp
    have hki:=@Zl n.K_.xs[i];have hbz:=ZX (n:=n.K_.xs[i]) (k:=b) (by rw[hk];simp);have hgl:za n.K_.xs[i].K_ (U8 (n.K_.xs[i].K_.len - 1))=u b:=by
     rw[zj,hlen,zK (by omega) (by omega),show(((ps.length+2:Nat):Int) - 1)=((ps.length+1:Nat):Int) by omega,zg (by omega)];simp[hk]
    show(∃a',q71 _ _ _ _ _ _ _ _=_/\_)\/∃r,q71 _ _ _ _ _ _ _ _=_/\_
    unfold q71;simp only[jl,zm];rw[jv (by simp only[zj];omega),zg hi,jj,zg (s:=fs) (by omega),jj,hgl,jj];have vc:Vc 5000 ((sg,t,a,(i:Int)),fs):=ha.vc hO hsg hs (by omega) (by omega) hi;have hbl:=zAd hb (by omega) 100000 ((sg,t,a,(i:Int)),fs) (by omega) (vc.mono (by omega));rcases hbl with⟨c,e,g,q⟩ | ⟨f,s,e,hf⟩
    rotate_left
    ·have e:q3u (b.K_,(sg,t,a,(i:Int)),fs)=_:=e;simp only[e,jj,jo];exact .inr ⟨_,rfl,_,rfl,hf⟩
    have e:q3u (b.K_,(sg,t,a,(i:Int)),fs)=_:=e;have hj:c.1.2.2.2=(i:Int):=g.j;have gl:c.2.xs.length=fs.xs.length:=g.l;have hci:i < c.2.xs.length:=by omega
    have fin':xJ (zd (n.K_.xs.take (i+1))) n.K_.xs c.2.xs:=by
     rw[<- DI hi,zL];exact(xJ.gr (a:=((sg,t,a,(i:Int)),fs)) ha g).mono (by simp only[zd];omega)
    have cs:c.1.1=sg:=g.s;have ct:c.1.2.1=t:=g.t;simp only[e,jj,jm,hj,zg hci,zs3];by_cases h64:Sl.len c.2.xs[i].V_<=64
    rotate_left
    ·simp only[h64,jp,jk,jo,jj];exact .inr ⟨_,rfl,_,rfl,by simp⟩
    obtain⟨cc,e1,_⟩:=zpP (Q:=λ_=>True) r.g (by omega) trivial λ_ _ _=>zmt (λ_=>⟨λ_=>trivial,λ_=>trivial,λ_=>trivial,λ_=>trivial,λ_=>trivial⟩) _
    simp only[h64,jq,e1,jj];by_cases h5:Sl.len cc.L_<=512
    · simp only[h5,js,jq,jj,jm,zw (show i < 1000000000 by omega),atS,cs,ct];refine .inl ⟨(_,_),rfl,fin',by have:=g.k hO;grind,λk hk hki=>?_⟩;have st2:∀{j:Nat} {x:Nd},AllN (pN ((sg,t,0,(j:Int)),fs)) x->AllN (pN ((sg,t,0,(j:Int)),c.2)) x:=λh=>h.mono λn=>pN.grj g
      by_cases hlt:k < i
      ·grind
      · obtain rfl:k=i:=by omega
        intro z hz h9;rw[hk'] at hz;rcases U9.1 hz with hz | hz
        ·have:=(hpp z hz).1;omega
        rcases De.1 hz with rfl | hz
        ·omega
        ·obtain rfl:=D2.1 hz;exact .mk (.o (by simp[h9]) (by simp[h9]) (by omega)) λs hs=>(q s hs).mono λn h=>h.at' cs ct hj
    · simp only[h5,jr,jp,jk,jo,jj]
      exact .inr ⟨_,rfl,_,rfl,by simp⟩)
  (λa ha=>by
    show q71 _ _ _ _ _ _ _ _=_;unfold q71;simp only[jl,zm]
    rw[jx (by simp only[zj];omega)])
  (a:=(at0,fs0)) ⟨by simpa[zd] using h0,o0,λk hk h=>by omega⟩ with⟨⟨a,fs⟩,e,h,hO,hD⟩ | h
 ·rw[Dw] at h;exact .inl ⟨a,fs,e,h.mono (by omega),hO,λi hi=>hD i hi hi⟩
 grind
theorem zve (hg:UnitG n) (sg:Sl PSg) (t:Sl PT) (hsg:∀s∈sg.xs,OkO t.xs s.R_) (hs:sg.xs.length<=50000) (ht:t.xs.length<=100000) :
    ∃a e fs,q7m (n,sg,t)=u (a,e,fs)/\(e≠0/\fs.xs=[]\/e=0/\xJ 5000 n.K_.xs fs.xs/\OkS t fs/\∀(i:Nat) (hi:i < n.K_.xs.length),zpU sg t fs n.K_.xs[i] i):=by
 unfold q7m qei;simp only[zm];rcases zAe hg sg t ht 0 with⟨a,fs,e,h,o⟩ | ⟨r,e,f,rfl,hf⟩
 · rw[e];simp only[jj,jm];rcases zAf hg sg t hsg hs a h o with⟨b,gs,e,h⟩ | ⟨r,e,f,rfl,hf⟩
   ·rw[e];exact⟨_,_,gs,rfl,.inr ⟨rfl,h⟩⟩
   ·rw[e];exact⟨_,_,_,rfl,.inl ⟨hf,rfl⟩⟩
 ·rw[e];exact⟨_,_,_,rfl,.inl ⟨hf,rfl⟩⟩
end Go.Px
