/- Part Lg: Px22RC Px22RD Px22RE Px22RF Px22RG Px22RH Px2 -/
import Derived.Test.YtpcipfnohfefhaaGreatDoorLf
set_option linter.unusedVariables false
set_option linter.unusedSimpArgs false
namespace Go.Px
open Bool renaming true->w,false->B
open List renaming length->H,getElem_of_mem->I,getElem_append_right->K,getElem_append_left->L
open _root_.Option renaming some->u,bind->G
open Sum renaming inl->C,elim->D,inr->E
variable{a:Int}{i k m:Nat}{ks:List Nd}{n:Nd}{sg:Sl PSg}{t:List PT}{α β:Type}
abbrev PNf:=qb
abbrev KS:=(Sl PSg×Sl PT×Int)×Sl PNf
theorem goE {S R A:Type}{f:S->Us (Step S R)}{n:Nat}{st:Nat->A->S}{fin:A->R}{J:Nat->A->Prop}{bad:R->Prop}
    (h:∀i,i < n->∀a,J i a->(∃a',f (st i a)=u (.next (st (i+1) a'))/\J (i+1) a')\/∃r,f (st i a)=u (.done r)/\bad r)
    (h0:∀a,J n a->f (st n a)=u (.done (fin a))) {a:A} (ha:J 0 a) :
    (∃a',lpO f (st 0 a)=u (fin a')/\J n a')\/∃r,lpO f (st 0 a)=u r/\bad r:=by
  have:∀(m i:Nat) (a:A),i+m=n->J i a->(∃a',lpO f (st i a)=u (fin a')/\J n a')\/∃r,lpO f (st i a)=u r/\bad r:=by
    intro m
    induction m with
    |zero=>
      intro i a hi ha;obtain rfl:i=n:=by omega
      exact .inl ⟨a,zx (h0 a ha),ha⟩
    |succ m ih=>
      intro i a hi ha;rcases h i (by omega) a ha with⟨a',h1,h2⟩ | ⟨r,h1,h2⟩
      · rcases ih (i+1) a' (by omega) h2 with⟨b,h3,h4⟩ | ⟨r,h3,h4⟩
        ·exact .inl ⟨b,by rw[zE h1,h3],h4⟩
        ·exact .inr ⟨r,by rw[zE h1,h3],h4⟩
      ·exact .inr ⟨r,zx h1,h2⟩
  exact this n 0 a (by omega) ha
def ZH(t:List PT)(k:Nd):PP:=if(zQ k).T_=lit [111,119,110] then⟨k.T_,2,idT (zQ (zQ k)).T_ t⟩ else⟨k.T_,1,0⟩
theorem zza(ok:Bool)(e:Int)(s:KS):q36 (ok,e,s)=u (if ok=w then .inr s else .inl ((s.1.2.2,e),s)):=by cases ok<;>rfl
theorem zfo(n:Nd)(ok:Bool)(e:Int)(s:KS):q1x (n,ok,e,s)=u (if ok=w then .inr ((s.1.1,s.1.2.1,n.a_),s.2) else .inl ((n.a_,e),(s.1.1,s.1.2.1,n.a_),s.2)):=by cases ok<;>rfl
theorem za8(f:PNf)(n:Uq)(h:f.V_.xs.length<=1000000):q1s (f,n)=u (idP n f.V_.xs):=by
 have:=XB (f:=q65 q79) (xs:=f.V_.xs) (p:=λx=>decide (x.N_=n)) (st:=λi=>(f.V_,f.V_.len,(i:Int),n)) (yes:=λi =>.inl ((i:Int),n)) (no :=.inr n)
  (λi hi=>by
   unfold q65;simp only[jk];rw[ju (by simp only[zo];omega),zh hi,ji];show((u (decide (f.V_.xs[i].N_=n),n)).bind _)=_;simp only[ji,zw (show i < 1000000000 by omega)]
   grind)
  (by unfold q65;simp only[jk];rw[jv (by simp only[zo];omega)])
 show((((lpO (q65 q79) (f.V_,Sl.len f.V_,((0:Nat):Int),n)).bind _)).bind _)=_;rw[this];unfold idP idx;cases f.V_.xs.findIdx? _<;>rfl
def zlC(t:List PT)(l:List Nd):Prop:=∀k∈l,(ZH t k).M_=2->0<=(ZH t k).t_
def yl(k:Nd):List Nd:=k.K_.xs.take (k.K_.xs.length - 2)
def zzb(r:((Int×Int)×KS)⊕β):Prop:=∃f s,r = .inl (f,s)/\f.2≠0
theorem zlD{m:Nd}(h:WU m)(ho:m.T_=lit [111,119,110]):∃x,m.K_=⟨[x],w⟩:=by
 rcases h.2 with⟨h1,_⟩ | ⟨_,x,h2,_⟩
 ·rw[ho] at h1;simp (decide:=true) only [Zy] at h1
 grind
theorem zzc {k:Nd}(h:FnG k) (hs:zm k<=40000) (sg:Sl PSg) (t:Sl PT) (ht:t.xs.length<=100000) (at_:Int) (fns:Sl PNf) :
    (∃at' vars,q37 (k,(sg,t,at_),fns)=u (.inr ((k.T_,((yl k).length:Int)),(sg,t,at'),fns,vars))/\(yl k).length<=8/\vars.xs=(yl k).map (ZH t.xs)/\zlC t.xs (yl k))\/
    ∃r,q37 (k,(sg,t,at_),fns)=u r/\zzb r:=by
  obtain⟨h6,ps,r,b,hk,hp,hr,hr8,hb⟩:=h;have hlen:k.K_.xs.length=ps.length+2:=by rw[hk];simp
  have hps:yl k=ps:=by unfold yl;grind
  have hkl:=@Zl k;rw[hps];have hc:Ut (k.K_.len - 2)=(ps.length:Int):=by rw[zo,hlen,zK (by omega) (by omega)];omega
  have hgs:Zd k.K_ 0 (ps.length:Int)=u ⟨ps,w⟩:=by
    rw[Yk (by omega) (by omega) (by omega),hk];simp
  have hgr:zb k.K_ (ps.length:Int)=u r:=by rw[zh (by omega)];simp[hk]
  unfold q37 q97;simp only[zn,zfo,ji,hc,hgs,jk];by_cases h8:(ps.length:Int)<=8
  rotate_left
  ·simp only[h8,jo,jm];exact .inr ⟨_,rfl,_,_,rfl,by simp⟩
  simp only[h8,jp,jl]
  have key:=goE (f:=q4a q1x q1s q25 q36) (n:=ps.length) (A:=Int×Sl PP)
    (st:=λi a=>((ps.length:Int),⟨ps,w⟩,(⟨ps,w⟩:Sl Nd).len,(i:Int),(sg,t,a.1),fns,k,(lit [],0),(k.T_,(ps.length:Int)),a.2)) (fin:=λa =>.inr ((ps.length:Int),(sg,t,a.1),fns,k,(lit [],0),(k.T_,(ps.length:Int)),a.2))
    (J:=λi a=>a.2.xs=(ps.take i).map (ZH t.xs)/\zlC t.xs (ps.take i)) (bad:=zzb)
    (λi hi a ha=>by
      obtain⟨a,vars⟩:=a;obtain⟨hv,ho⟩:=ha;simp only at hv ho;obtain⟨_,m,hm,hmg⟩:=hp _ (g9 hi);have vl:vars.xs.length<=40000:=by grind
      have k0:zQ ps[i]=m:=by unfold zQ;rw[hm];rfl
      have fin':∀p:PP,ZH t.xs ps[i]=p->(p.M_=2->0<=p.t_)->((⟨vars.xs++[p],w⟩:Sl PP).xs=(ps.take (i+1)).map (ZH t.xs)/\zlC t.xs (ps.take (i+1))):=by
        intro p hp ht;rw[<- D0 hi];refine⟨by grind,λx hx=>?_⟩;rcases Uu.1 hx with hx | hx
        ·exact ho x hx
        grind
      unfold q4a;simp only[jk,zn];rw[ju (by simp only[zo];omega),zh (s:=⟨ps,w⟩) hi,ji];simp only;rw[hm,show zb (⟨[m],w⟩:Sl Nd) 0=u m from rfl,ji,za8 _ _ (by grind)];simp only[ji,zfo,zza,jk,VG t _ (show t.xs.length<=1000000 by omega)];by_cases h1:idP ps[i].T_ vars.xs < 0
      rotate_left
      ·simp only[h1,jo,ji,jm];exact .inr ⟨_,rfl,_,_,rfl,by simp⟩
      simp only[h1,jp,jl];by_cases h2:m.T_=lit [105,110,116]
      · have hpo:ZH t.xs ps[i]=⟨ps[i].T_,1,0⟩:=by unfold ZH;rw[k0,h2,jv (by simp (decide:=true) only [Zy])]
        have hno:¬ m.T_=lit [111,119,110]:=by rw[h2];simp (decide:=true) only [Zy]
        simp only[h2,jp,ji,jl,hno,jo];rw[<- h2];simp only[hno,jo,ji,jl];rw[ZA (by omega) (by omega)];simp only[ji,jl,zw (show i < 1000000000 by omega)];exact .inl ⟨(_,_),rfl,fin' _ hpo (by simp)⟩
      · simp only[h2,jo];by_cases h3:m.T_=lit [111,119,110]
        rotate_left
        ·simp only[h3,jo,ji,jm];exact .inr ⟨_,rfl,_,_,rfl,by simp⟩
        obtain⟨x,hx⟩:=zlD hmg h3;have hpo:ZH t.xs ps[i]=⟨ps[i].T_,2,idT x.T_ t.xs⟩:=by unfold ZH;rw[k0,ju h3];unfold zQ;rw[hx];rfl
        simp only[h3,jp,ji,jl];rw[hx,show zb (⟨[x],w⟩:Sl Nd) 0=u x from rfl,ji];rw[VG t _ (show t.xs.length<=1000000 by omega),ji];by_cases h4:0<=idT x.T_ t.xs
        rotate_left
        ·simp only[h4,jo,ji,jm];exact .inr ⟨_,rfl,_,_,rfl,by simp⟩
        simp only[h4,jp,ji,jl];rw[ZA (by omega) (by omega)];simp only[ji,jl,zw (show i < 1000000000 by omega)]
        exact .inl ⟨(_,_),rfl,fin' _ hpo (λ_=>h4)⟩)
    (λa ha=>by
      unfold q4a;simp only[jk,zn]
      rw[jv (by simp only[zo];omega)])
    (a:=(k.a_,Sl.mk [] B)) ⟨by simp,by intro x hx;simp at hx⟩
  rcases key with⟨⟨a,vars⟩,e1,e2,e3⟩ | ⟨x,e1,f,s,rfl,hf⟩
  rotate_left
  ·have e1:lpO (q4a q1x q1s q25 q36) ((ps.length:Int),⟨ps,w⟩,(⟨ps,w⟩:Sl Nd).len,0,(sg,t,k.a_),fns,k,(lit [],0),(k.T_,(ps.length:Int)),Sl.mk [] B)=_:=e1;rw[e1];exact .inr ⟨_,rfl,_,_,rfl,hf⟩
  have e1:lpO (q4a q1x q1s q25 q36) ((ps.length:Int),⟨ps,w⟩,(⟨ps,w⟩:Sl Nd).len,0,(sg,t,k.a_),fns,k,(lit [],0),(k.T_,(ps.length:Int)),Sl.mk [] B)=_:=e1;rw[e1];simp only[ji,jl,hgr];by_cases h9:r.T_=lit []
  ·grind
  ·simp only[h9,jo,jm];exact .inr ⟨_,rfl,_,_,rfl,by simp⟩
abbrev CKt:=(Sl PSg×Sl PT×Int×Int)×Sl PNf
abbrev FTt:=(Int×Int)×CKt⊕CKt
structure Vd(st:CKt):Prop where
 j:∃jn:Nat,st.1.2.2.2=(jn:Int)/\jn < st.2.xs.length
 v:∀f∈st.2.xs,f.V_.xs.length<=60000/\0<=f.P_/\f.P_<=f.V_.xs.length
 s:st.1.1.xs.length<=50000
 f:st.2.xs.length<=50000
def Cur(st:CKt)(f:PNf):Prop:=∃j:Nat,st.1.2.2.2=(j:Int)/\st.2.xs[j]?=u f
def zgs(st:CKt)(n:Uq)(v:PP):Prop:=∃f,Cur st f/\∃i:Nat,idP n f.V_.xs=(i:Int)/\f.V_.xs[i]?=u v
def VK(st:CKt)(n:Nd)(p:PP):Prop:=(n.T_=lit []/\p.M_=1)\/(n.T_≠lit []/\∃v,zgs st n.T_ v/\(p.M_=1->v.M_=1)/\(p.M_=2->v.M_=2/\v.t_=p.t_))
def vk(r:Us ((Int×Int)×CKt⊕β)):Prop:=∃f s,r=u (.inl (f,s))/\f.2≠0
def LkQ(Q:Prop)(st:CKt)(r:Us FTt):Prop:=(r=u (.inr st)/\Q)\/vk r
def LkP(st:CKt)(r:Us ((Int×Int)×CKt⊕PP×CKt)):Prop:=(∃p,r=u (.inr (p,st)))\/vk r
theorem yR(r:Us (α⊕β)):(r.bind λy=>D (λa=>u (C a)) (λb=>u (E b)) y)=r:=by
 cases r with | none=>rfl | some x=>grind
theorem vX(ok:Bool)(e:Int)(s:CKt):q14 (ok,e,s)=u (if ok=w then .inr s else .inl ((s.1.2.2.1,e),s)):=by cases ok<;>rfl
theorem xC{Q:Prop}{ok:Bool}{e:Int}{s:CKt}(he:e≠0)(h:ok=w->Q):LkQ Q s (q14 (ok,e,s)):=by
 cases ok
 ·exact .inr ⟨_,_,rfl,he⟩
 ·exact .inl ⟨rfl,h rfl⟩
theorem vb{Q:Prop}{c:Prop}[Decidable c]{s:CKt}{a b:Us FTt}(ha:c->LkQ Q s a)(hb:¬c->LkQ Q s b):LkQ Q s (if c then a else b):=by
 by_cases h:c
 ·rw[ju h];exact ha h
 ·rw[jv h];exact hb h
theorem zm5{st:CKt}(h:Vd st)(n:Uq):(∃p,q2w (n,st)=u (.inr (p,st))/\∃v,zgs st n v/\p.M_=v.M_/\p.t_=v.t_)\/vk (q2w (n,st)):=by
 obtain⟨⟨sg,t,a,j⟩,fns⟩:=st;obtain⟨⟨jn,rfl,hj⟩,hv,hs,hf⟩:=h;simp only at hj hv;have hv:=(hv _ (g9 hj)).1;unfold q2w q88;simp only[zh hj,ji];rw[za8 _ _ (by grind)];simp only[ji,vX,jk];by_cases h1:0<=idP n fns.xs[jn].V_.xs
 ·have h2:idP n fns.xs[jn].V_.xs < fns.xs[jn].V_.xs.length:=xB.2.1;obtain⟨i,hi⟩:∃i:Nat,idP n fns.xs[jn].V_.xs=(i:Int):=⟨_,(Dz h1).symm⟩
  have hi':=hi;rw[hi] at h2 h1;simp only[hi,h1,jp,jl,zh hj,ji,zh (s:=fns.xs[jn].V_) (show i < _ by omega)];exact .inl ⟨_,rfl,_,⟨_,⟨jn,rfl,U6 hj⟩,i,hi',U6 (show i < _ by omega)⟩,rfl,rfl⟩
 ·simp only[h1,jo,jm];exact .inr ⟨_,_,rfl,by simp⟩
theorem zdZ{st:CKt}(h:Vd st)(n:Uq):LkP st (q2w (n,st)):=by
 rcases zm5 h n with⟨p,e,_⟩ | e
 ·exact .inl ⟨p,e⟩
 ·exact .inr e
theorem zoY{st:CKt}(h:Vd st)(n:Nd)(p:PP):LkQ (VK st n p) st (q1f (n,p,st)):=by
 unfold q1f qa7;simp only[yR,zn];refine vb (λc=>xC (by decide) λq =>.inl ⟨by simpa using c,by simpa using q⟩) λc=>?_
 rcases zm5 h n.T_ with⟨k,e,v,hv,k1,k2⟩ | ⟨f,s,e,hf⟩
 ·have F:(p.M_=1->k.M_=1)->(p.M_=2->k.M_=2/\k.t_=p.t_)->VK st n p:=λa b =>.inr ⟨by simpa using c,v,hv,by rw[<- k1];exact a,by rw[<- k1,<- k2];exact b⟩
  simp only[e,ji,jl];refine vb (λc1=>xC (by decide) λq=>F (by grind) (by grind)) λc1=>?_
  by_cases h3:p.M_=3
  ·have F':VK st n p:=F (by omega) (by omega);simp only[h3,jr,jp,ji];exact vb (λ_=>vb (λ_=>xC (by decide) λ_=>F') (λ_=>xC (by decide) λ_=>F')) (λ_=>vb (λ_=>vb (λ_=>xC (by decide) λ_=>F') (λ_=>xC (by decide) λ_=>F')) (λ_=>xC (by decide) λ_=>F'))
  ·simp (decide:=true) only [h3,jq,jo,ji];exact vb (λ_=>vb (λ_=>xC (by decide) λq=>F (by grind) (by grind)) (λ_=>xC (by decide) λq=>by grind)) (λ_=>xC (by decide) λq=>by grind)
 ·simp only[e,ji,jm];exact .inr ⟨_,_,rfl,hf⟩
theorem zzd{st:CKt}(h:Vd st)(l:Sl Nd)(p:Sl PP)(hl:l.xs.length<=50000):LkQ True st (q5v (l,p,st)):=by
 unfold q5v q98;simp only[yR,vX,ji,jk];by_cases hlen:Sl.len l=Sl.len p
 rotate_left
 ·simp only[hlen,jo,jm];exact .inr ⟨_,_,rfl,by simp⟩
 simp only[hlen,jp,jl];simp only[zo] at hlen
 rcases goE (f:=q6q q14 q1f) (n:=l.xs.length) (A:=CKt) (st:=λi a=>(p,l,p.len,(i:Int),a)) (fin:=λa =>.inr a) (J:=λi a=>a=st) (bad:=λr=>vk (u r))
  (λi hi a ha=>by
   subst ha;unfold q6q;simp only[jk,zn];rw[ju (by simp only[zo];omega),zh hi,ji,zh (s:=p) (show i < _ by omega),ji];rcases zoY h l.xs[i] (p.xs[i]'(by omega)) with⟨e,_⟩ | ⟨f,s,e,hf⟩
   ·rw[e,ji,jl,zw (by omega)];grind
   ·rw[e,ji,jm]
    exact .inr ⟨_,rfl,_,_,rfl,hf⟩)
  (λa ha=>by
   unfold q6q;simp only[jk]
   rw[jv (by simp only[zo];omega)])
  (a:=st) rfl with⟨a,e,rfl⟩ | ⟨r,e,f,s,e2,hf⟩
 ·exact .inl ⟨e,trivial⟩
 ·cases e2;exact .inr ⟨_,_,e,hf⟩
theorem zze(sg:Sl PSg)(n:Nd)(h:sg.xs.length<=50000):∃i:Int,q7y (sg,n)=u (i,n)/\i < sg.xs.length:=by
 have:=XB (f:=q7a q4x) (xs:=sg.xs) (p:=λx=>decide (x.N_=n.T_)) (st:=λi=>(sg,sg.len,(i:Int),n)) (yes:=λi =>.inl ((i:Int),n)) (no :=.inr n)
  (λi hi=>by
   unfold q7a;simp only[jk,zn];rw[ju (by simp only[zo];omega),zh hi,ji];show((u (decide (sg.xs[i].N_=n.T_),q6.mk _ _ _ _ _)).bind _)=_;simp only[zn,ji,zw (show i < 1000000000 by omega)]
   grind)
  (by unfold q7a;simp only[jk,zn];rw[jv (by simp only[zo];omega)])
 refine⟨idx (λx=>decide (x.N_=n.T_)) sg.xs,?_,xB.2.1⟩;unfold q7y qbq;simp only[zn];have this:lpO (q7a q4x) (sg,sg.len,0,n)=_:=this;rw[this];unfold idx;cases sg.xs.findIdx? _<;>rfl
theorem zrQ{st:CKt}(h:Vd st)(n:Nd)(hn:n.K_.xs.length<=50000):LkP st (q1t (n,st)):=by
 obtain⟨i,e,hi⟩:=zze st.1.1 n h.s;unfold q1t q99;simp only[zn,e,ji,vX,jk];by_cases h1:0<=i
 rotate_left
 ·simp only[h1,jo,jm];exact .inr ⟨_,_,rfl,by simp⟩
 obtain⟨j,rfl⟩:∃j:Nat,i=(j:Int):=⟨_,(Dz h1).symm⟩
 simp only[h1,jp,jl,zh (s:=st.1.1) (show j < _ by omega),ji];rcases zzd h n.K_ (st.1.1.xs[j]'(by omega)).P_ hn with⟨e,_⟩ | ⟨f,s,e,hf⟩
 ·simp only[e,ji,jl,zh (s:=st.1.1) (show j < _ by omega)];exact .inl ⟨_,rfl⟩
 ·simp only[e,ji,jm];exact .inr ⟨_,_,rfl,hf⟩
def LkE(st:CKt)(r:Us (PP×CKt⊕(Int×Int)×CKt)):Prop:=(∃p,r=u (.inl (p,st)))\/∃f s,r=u (.inr (f,s))/\f.2≠0
theorem zzf{st:CKt}(h:Vd st)(g:ExprG n)(hn:n.K_.xs.length<=50000):LkE st (q21 (n,st)):=by
 have fin5:LkE st (u (E ((st.1.2.2.1,50),st))) :=.inr ⟨_,_,rfl,by simp⟩;unfold q21 q9a;simp only[zn,vX];cases g with
 |term h5 h0=>
  simp only[h5,jr,jp];by_cases ht:n.T_=lit []
  ·simp only[ht,jr,jp,ji,jm];exact .inl ⟨_,rfl⟩
  simp only[ht,jq,jj,jo];rcases zdZ h n.T_ with⟨k,e⟩ | ⟨f,s,e,hf⟩
  rotate_left
  ·simp only[e,ji,jm,jl];exact .inr ⟨_,_,rfl,hf⟩
  simp only[e,ji,jm,jl,jk];by_cases hz:n.n_=0
  ·simp only[hz,jp,ji,jm,jl];exact .inl ⟨_,rfl⟩
  simp only[hz,jo,ji];by_cases hm:k.M_=1
  ·simp only[hm,jp,ji,jm,jl];exact .inl ⟨_,rfl⟩
  ·simp only[hm,jo,ji,jm,jl];exact .inr ⟨_,_,rfl,by simp⟩
 |leaf h5 h0=>
  rcases h5 with h5 | h5 | h5 | h5
  ·simp (decide:=true) only [h5,jq,jr,jp,jo,jj,ji,jm,jl];exact fin5
  ·simp (decide:=true) only [h5,jq,jr,jp,jo,jj,ji,jm,jl];exact fin5
  all_goals
   rcases zdZ h n.T_ with⟨k,e⟩ | ⟨f,s,e,hf⟩
   ·simp (decide:=true) only [h5,jq,jr,jp,jo,jj,ji,jm,jl,e,jk];by_cases hm:k.M_=2
    ·simp only[hm,jp,ji,jm,jl];exact .inl ⟨_,rfl⟩
    ·simp only[hm,jo,ji,jm,jl];exact .inr ⟨_,_,rfl,by simp⟩
   ·simp (decide:=true) only [h5,jq,jr,jp,jo,jj,ji,jm,jl,e];exact .inr ⟨_,_,rfl,hf⟩
 |call h5=>
  rcases zrQ h n hn with⟨k,e⟩ | ⟨f,s,e,hf⟩
  ·simp (decide:=true) only [h5.1,jq,jr,jp,jo,jj,ji,jm,jl,e,jk];by_cases hm:k.M_=0
   ·simp (decide:=true) only [hm,jp,jo,ji,jm,jl];exact .inr ⟨_,_,rfl,by simp⟩
   ·simp (decide:=true) only [hm,jo,jp,UW,jt,ji,jm,jl];exact .inl ⟨_,rfl⟩
  ·simp (decide:=true) only [h5.1,jq,jr,jp,jo,jj,ji,jm,jl,e];exact .inr ⟨_,_,rfl,hf⟩
 |load h5 _ _=>
  simp (decide:=true) only [h5,jq,jr,jp,jo,jj,ji,jm,jl];exact fin5
 | @two x y h5 h6 _ _=>
  have g0:zb n.K_ 0=u x:=by rw[h6];rfl
  have g1:zb n.K_ 1=u y:=by rw[h6];rfl
  rcases zdZ h x.T_ with⟨k,e⟩ | ⟨f,s,e,hf⟩
  rotate_left
  ·rcases h5 with h5 | h5<;>
   ·simp (decide:=true) only [h5,jq,jr,jp,jo,jj,ji,jm,jl,g0,g1,e];exact .inr ⟨_,_,rfl,hf⟩
  rcases zdZ h y.T_ with⟨k2,e2⟩ | ⟨f,s,e2,hf⟩
  rotate_left
  ·rcases h5 with h5 | h5<;>
   ·simp (decide:=true) only [h5,jq,jr,jp,jo,jj,ji,jm,jl,g0,g1,e,e2];exact .inr ⟨_,_,rfl,hf⟩
  by_cases hm:k.M_=1<;>by_cases hm2:k2.M_=1<;>rcases h5 with h5 | h5<;>
   simp (decide:=true) only [h5,jq,jr,jp,jo,jj,ji,jm,jl,g0,g1,e,e2,hm,hm2]<;>
   first | exact .inl ⟨_,rfl⟩ | exact .inr ⟨_,_,rfl,by simp⟩
structure Gr(m:Nat)(a b:CKt):Prop where
 s:b.1.1=a.1.1
 t:b.1.2.1=a.1.2.1
 j:b.1.2.2.2=a.1.2.2.2
 l:b.2.xs.length=a.2.xs.length
 f:∀i (h:i < a.2.xs.length) (h':i < b.2.xs.length),b.2.xs[i].N_=a.2.xs[i].N_/\b.2.xs[i].P_=a.2.xs[i].P_/\∃ex,b.2.xs[i].V_.xs=a.2.xs[i].V_.xs++ex/\ex.length<=m
theorem Gr.refl{a b:CKt}(h1:b.1.1=a.1.1)(h2:b.1.2.1=a.1.2.1)(h3:b.1.2.2.2=a.1.2.2.2)(h4:b.2=a.2):Gr 0 a b:=
 ⟨h1,h2,h3,by rw[h4],λi h h'=>by simp only[h4];exact⟨trivial,trivial,[],by simp⟩⟩
theorem Gr.trans{a b c:CKt}(h:Gr m a b)(g:Gr k b c):Gr (m+k) a c:=
 ⟨g.s.trans h.s,g.t.trans h.t,g.j.trans h.j,g.l.trans h.l,λi h1 h2=>by
  have hb:i < b.2.xs.length:=by rw[h.l];exact h1
  obtain⟨n1,p1,x1,v1,l1⟩:=h.f i h1 hb;obtain⟨n2,p2,x2,v2,l2⟩:=g.f i hb h2
  exact⟨n2.trans n1,p2.trans p1,x1++x2,by rw[v2,v1,UP],by rw[jx];omega⟩⟩
theorem Gr.mono{a b:CKt}(h:Gr m a b)(hm:m<=k):Gr k a b:=
 ⟨h.s,h.t,h.j,h.l,λi h1 h2=>by obtain⟨n1,p1,x1,v1,l1⟩:=h.f i h1 h2;exact⟨n1,p1,x1,v1,by omega⟩⟩
def Vc(k:Nat)(st:CKt):Prop:=Vd st/\∀f∈st.2.xs,f.V_.xs.length+k<=60000
theorem Vc.gr{a b:CKt}(h:Vc (m+k) a)(g:Gr m a b):Vc k b:=by
 have key:∀f∈b.2.xs,f.V_.xs.length+k<=60000/\0<=f.P_/\f.P_<=f.V_.xs.length:=by
  intro f hf;obtain⟨i,hi,rfl⟩:=I hf;have ha:i < a.2.xs.length:=by rw[<- g.l];exact hi
  obtain⟨n1,p1,x1,v1,l1⟩:=g.f i ha hi;have h1:=h.2 _ (g9 ha);have h2:=h.1.v _ (g9 ha);have h3:=congrArg H v1;rw[jx] at h3;exact⟨by omega,by rw[p1];omega,by rw[p1];omega⟩
 obtain⟨jn,e,hj⟩:=h.1.j;exact⟨⟨⟨jn,by rw[g.j,e],by rw[g.l];exact hj⟩,λf hf=>⟨by have:=(key f hf).1;omega,(key f hf).2⟩,by rw[g.s];exact h.1.s,by rw[g.l];exact h.1.f⟩,λf hf=>(key f hf).1⟩
theorem Vc.mono{a:CKt}(h:Vc m a)(hk:k<=m):Vc k a:=⟨h.1,λf hf=>by have:=h.2 f hf;omega⟩
def Sp(m:Nat)(a:CKt)(r:Us FTt):Prop:=(∃b,r=u (.inr b)/\Gr m a b)\/vk r
theorem zAK{st:CKt}(h:Vc 1 st)(n:Uq)(p:PP):Sp 1 st (q2z (n,p,st)):=by
 obtain⟨⟨sg,t,a,j⟩,fns⟩:=st;obtain⟨⟨⟨jn,rfl,hj⟩,hv,hs,hf⟩,hb⟩:=h;simp only at hj hv hb;have hv:=(hv _ (g9 hj)).1;have hb:=hb _ (g9 hj);unfold q2z qa8;simp only[zh hj,ji,yR];rw[za8 _ _ (by simp only;omega)];simp only[ji,jk];by_cases h1:0<=idP n fns.xs[jn].V_.xs
 ·have h2:idP n fns.xs[jn].V_.xs < fns.xs[jn].V_.xs.length:=xB.2.1;obtain⟨i,hi⟩:∃i:Nat,idP n fns.xs[jn].V_.xs=(i:Int):=⟨_,(Dz h1).symm⟩
  rw[hi] at h2 h1;simp only[hi,h1,jp,zh (s:=fns.xs[jn].V_) (show i < _ by omega),ji];rcases xC (ok:=decide (fns.xs[jn].V_.xs[i].N_=n) && (decide (fns.xs[jn].V_.xs[i].M_=p.M_) && (decide (fns.xs[jn].V_.xs[i].t_=p.t_) && w))) (Q:=True) (e:=40) (s:=((sg,t,a,(jn:Int)),fns)) (by decide) (λ_=>trivial) with⟨e,_⟩ | e
  ·exact .inl ⟨_,e,(Gr.refl rfl rfl rfl rfl).mono (by omega)⟩
  ·exact .inr e
 ·simp only[h1,jo,jr,Dk];rw[ZA (by omega) (by omega),ji];refine .inl ⟨_,rfl,rfl,rfl,rfl,by simp[Sl.set],λi h1 h2=>?_⟩;simp only[Sl.set,Int.toNat_natCast,List.getElem_set];by_cases hij:jn=i
  ·subst hij;simp only[jp];exact⟨trivial,trivial,[⟨n,p.M_,p.t_⟩],rfl,by simp⟩
  ·simp only[hij,jo];exact⟨trivial,trivial,[],by simp⟩
theorem zAL(fs:Sl PNf)(n:Nd)(h:fs.xs.length<=50000):q3u (fs,n)=u (idx (λx=>decide (x.N_=n.T_)) fs.xs,fs,n):=by
 have:=XB (f:=q6r q4i) (xs:=fs.xs) (p:=λx=>decide (x.N_=n.T_)) (st:=λi=>(fs.len,(i:Int),fs,n)) (yes:=λi =>.inl ((i:Int),fs,n)) (no :=.inr (fs,n))
  (λi hi=>by
   unfold q6r;simp only[jk,zn];rw[ju (by simp only[zo];omega),zh hi,ji,ji,ji];show((u (decide (fs.xs[i].N_=n.T_))).bind _)=_;simp only[ji,zw (show i < 1000000000 by omega)]
   grind)
  (by unfold q6r;simp only[jk,zn];rw[jv (by simp only[zo];omega)])
 unfold q3u qb4;simp only[zn];have this:lpO (q6r q4i) (fs.len,0,fs,n)=_:=this;rw[this];unfold idx;cases fs.xs.findIdx? _<;>rfl
def zAM(st:CKt)(n:Nd):Prop:=∃(k:Nat) (f:PNf),idx (λx=>decide (x.N_=n.T_)) st.2.xs=(k:Int)/\st.2.xs[k]?=u f/\(n.K_.xs.length:Int)=f.P_/\∀(i:Nat) (a:Nd),n.K_.xs[i]?=u a->∃p,f.V_.xs[i]?=u p/\VK st a p
def pN(st:CKt)(n:Nd):Prop:=n.k_=19->zAM st n
theorem zzg{p:α->Bool}{l:List α}{j:Nat}(h:idx p l=(j:Int)):∃hj:j < l.length,p l[j]=true:=by
 unfold idx at h;cases e:l.findIdx? p with
 |none=>rw[e] at h;simp at h
 |some i=>
  obtain⟨hi,hp,_⟩:=List.findIdx?_eq_some_iff_getElem.1 e;rw[e] at h;obtain rfl:i=j:=by have h:(i:Int)=j:=h;omega
  exact⟨hi,hp⟩
theorem zm6{p:α->Bool}{l ex:List α}(h:idx p l=(i:Int)):idx p (l++ex)=(i:Int):=by
 unfold idx at h |-
 rw[List.findIdx?_append];cases e:l.findIdx? p with
 |none=>rw[e] at h;simp at h
 |some j=>rw[e] at h;simpa using h
theorem zgs.gr{a b:CKt}(g:Gr m a b){n:Uq}{v:PP}(h:zgs a n v):zgs b n v:=by
 obtain⟨f,⟨j,hj,hf⟩,i,hi,hv⟩:=h;obtain⟨hj',rfl⟩:=U1.1 hf;have hb:j < b.2.xs.length:=by rw[g.l];exact hj'
 obtain⟨_,_,ex,v1,_⟩:=g.f j hj' hb;refine⟨_,⟨j,g.j.trans hj,U6 hb⟩,i,by rw[v1];exact zm6 hi,?_⟩;rw[v1,UR (by obtain⟨h,_⟩:=U1.1 hv;exact h)];exact hv
theorem VK.gr{a b:CKt}(g:Gr m a b){p:PP}(h:VK a n p):VK b n p:=by
 rcases h with h | ⟨h,v,hv,h1,h2⟩
 ·exact .inl h
 ·exact .inr ⟨h,v,hv.gr g,h1,h2⟩
theorem zlE{a b:CKt}(g:Gr m a b)(y:Uq):idx (λx=>decide (x.N_=y)) b.2.xs=idx (λx=>decide (x.N_=y)) a.2.xs:=by
 have e:b.2.xs.map qb.N_=a.2.xs.map qb.N_:=by
  refine List.ext_getElem (by simp[g.l]) λi h1 h2=>?_
  simp only[List.getElem_map];exact(g.f i (by simpa using h2) (by simpa using h1)).1
 have h1:=zdU qb.N_ (λx=>decide (x=y)) b.2.xs;have h2:=zdU qb.N_ (λx=>decide (x=y)) a.2.xs;rw[e] at h1;exact h1.symm.trans h2
theorem pN.gr{a b:CKt}(g:Gr m a b)(h:pN a n):pN b n:=by
 intro c;obtain⟨k,f,h1,h2,h3,h4⟩:=h c;obtain⟨hk,rfl⟩:=U1.1 h2;have hb:k < b.2.xs.length:=by rw[g.l];exact hk
 obtain⟨_,g2,ex,v1,_⟩:=g.f k hk hb;refine⟨k,_,(zlE g _).trans h1,U6 hb,by rw[g2];exact h3,λi x hx=>?_⟩;obtain⟨p,p1,p2⟩:=h4 i x hx;refine⟨p,?_,p2.gr g⟩;rw[v1,UR (by obtain⟨h,_⟩:=U1.1 p1;exact h)];exact p1
theorem YU{st:CKt}{k:Nd}(h:yr k):AllN (pN st) k :=.mk (by simp[pN,h.2]) (by rw[h.1];simp[nilS])
theorem zin{st:CKt}(g:ExprG n):AllN (pN st) n:=by
 cases g with
 |term h5 h0=>exact YU ⟨h0,h5⟩
 |leaf h5 h0=>exact .mk (λh=>by omega) (by rw[show n.K_=nilS from h0];simp[nilS])
 |call h5=>exact .mk (by simp[pN,h5.1]) λk hk=>YU (h5.2 k hk)
 |load h5 h6 hx=>exact .mk (by simp[pN,h5]) (by rw[h6];simpa using YU hx)
 |two h5 h6 hx hy=>exact .mk (λh=>by omega) (by rw[h6];simpa using⟨YU hx,YU hy⟩)
theorem zxl{st:CKt}(h:Vd st)(l:Sl Nd)(hl:l.xs.length<=50000)(hk:k < st.2.xs.length):LkQ ((l.xs.length:Int)=st.2.xs[k].P_/\∀(i:Nat) (a:Nd),l.xs[i]?=u a->∃p,st.2.xs[k].V_.xs[i]?=u p/\VK st a p) st (q1r (l,((k:Int),0,st.2.xs[k].P_),st)):=by
 obtain⟨v1,v2,v3⟩:=h.v _ (g9 hk);have hgs:=Yk (s:=st.2.xs[k].V_) (lo:=0) (hi:=st.2.xs[k].P_) (by omega) v2 v3;rw[show(0:Int).toNat=0 from rfl,De] at hgs;unfold q1r q7i;simp only[yR,vX,ji,jk,zh hk,hgs];by_cases hlen:Sl.len l=st.2.xs[k].P_ - 0
 rotate_left
 ·simp only[hlen,jo,jm];exact .inr ⟨_,_,rfl,by simp⟩
 simp only[hlen,jp,jl];simp only[zo] at hlen
 rcases goE (f:=q5y q14 q1f) (n:=l.xs.length) (A:=CKt) (st:=λi a=>(((k:Int),0,st.2.xs[k].P_),l,st.2.xs[k].P_ - 0,(i:Int),a)) (fin:=λa =>.inr a) (J:=λi a=>a=st/\∀(j:Nat) (x:Nd),j < i->l.xs[j]?=u x->∃p,st.2.xs[k].V_.xs[j]?=u p/\VK st x p) (bad:=λr=>vk (u r))
  (λi hi a ha=>by
   obtain⟨ha,hq⟩:=ha;subst ha;unfold q5y;simp only[jk,zn];have hi2:i < a.2.xs[k].V_.xs.length:=by omega
   rw[ju (by omega),zh hi,ji,zh hk,ji,hgs,ji];rw[zh (s:=⟨_,_⟩) (by grind)];simp only[ji,Int.zero_add];rw[zh hi2,ji];rcases zoY h l.xs[i] (a.2.xs[k].V_.xs[i]) with⟨e,q⟩ | ⟨f,s,e,hf⟩
   ·rw[e,ji,jl,zw (by omega)];refine .inl ⟨a,rfl,rfl,λj x hj hx=>?_⟩;by_cases c:j < i
    ·exact hq j x c hx
    ·obtain rfl:j=i:=by omega
     rw[U6 hi] at hx;cases hx;exact⟨_,U6 hi2,q⟩
   ·rw[e,ji,jm]
    exact .inr ⟨_,rfl,_,_,rfl,hf⟩)
  (λa ha=>by
   unfold q5y
   grind)
  (a:=st) ⟨rfl,λj x hj=>by omega⟩ with⟨a,e,rfl,q⟩ | ⟨r,e,f,s,e2,hf⟩
 ·refine .inl ⟨e,by omega,λi x hx=>q i x ?_ hx⟩;obtain⟨h,_⟩:=U1.1 hx;exact h
 ·cases e2;exact .inr ⟨_,_,e,hf⟩
abbrev wx:PP:=⟨lit [],1,0⟩
noncomputable abbrev LF(F:Nat):=q1y q21 q2z q1t q3u q14 q1r q1f (q2b F)
def StP(s:Nd):Prop:=∀F (st:CKt) (l:Sl Nd) (i:Nat) (hi:i < l.xs.length),l.xs[i]=s->l.xs.length<=50000->zm s<=F->Vc (zm s) st->
 (∃b,LF F (l,l.len,(i:Int),st.1,st.2,wx)=u (.next (l,l.len,((i+1:Nat):Int),b.1,b.2,wx))/\Gr (zm s) st b/\AllN (pN b) s)\/∃r,LF F (l,l.len,(i:Int),st.1,st.2,wx)=u (.done r)/\vk (u r)
def BlP(n:Nat)(ks:Sl Nd):Prop:=∀F (st:CKt),n<=F->Vc n st->(∃b,q2b F (ks,st)=u (.inr b)/\Gr n st b/\∀s∈ks.xs,AllN (pN b) s)\/vk (q2b F (ks,st))
theorem zm7{ks:Sl Nd}(h:∀s∈ks.xs,StP s)(hl:zf ks.xs<=40000):BlP (zf ks.xs+1) ks:=by
 intro F st hF hv;obtain⟨F,rfl⟩:∃k,F=k+1:=⟨F - 1,by omega⟩
 have hk:=Wb ks.xs
 rcases goE (f:=LF F) (n:=ks.xs.length) (A:=CKt) (st:=λi a=>(ks,ks.len,(i:Int),a.1,a.2,wx)) (fin:=λa =>.inr a) (J:=λi a=>Gr (zf (ks.xs.take i)) st a/\∀s∈ks.xs.take i,AllN (pN a) s) (bad:=λr=>vk (u r))
  (λi hi a ha=>by
   have hz:=YT hi;obtain⟨ha,hq⟩:=ha;have ha2:Vc (zm ks.xs[i]) a:=Vc.gr (hv.mono (show zf (ks.xs.take i)+zm ks.xs[i]<=_ by omega)) ha;rcases h _ (g9 hi) F a ks i hi rfl (by omega) (by omega) ha2 with⟨b,e,g,q⟩ | hb
   ·refine .inl ⟨b,e,?_⟩;rw[<- D0 hi,zR];refine⟨(ha.trans g).mono (by simp[zf]),λs hs=>?_⟩;rcases Uu.1 hs with hs | hs
    ·exact(hq s hs).mono λn=>pN.gr g
    ·rw[Dl] at hs;subst hs;exact q
   ·exact .inr hb)
  (λa ha=>by
   show q1y _ _ _ _ _ _ _ _ _=_;unfold q1y;simp only[jk]
   rw[jv (by simp only[zo];omega)])
  (a:=st) ⟨(Gr.refl rfl rfl rfl rfl).mono (by omega),by simp⟩ with⟨a,e,g,q⟩ | ⟨r,e,f,s,e2,hf⟩
 ·rw[Df] at g q;refine .inl ⟨a,?_,g.mono (by omega),q⟩;exact congrArg (λo=>G o λy=>D (λa=>u (C a)) (λb=>u (E b)) y) e
 ·cases e2;exact .inr ⟨f,s,congrArg (λo=>G o λy=>D (λa=>u (C a)) (λb=>u (E b)) y) e,hf⟩
abbrev XT:=(Int×Int)×CKt⊕Sl Nd×Int×Int×(Sl PSg×Sl PT×Int×Int)×Sl PNf×PP
def zoZ(R:CKt->Prop)(l:Sl Nd)(i:Nat)(X:Us XT):Prop:=(∃b,X=u (.inr (l,l.len,(i:Int),b.1,b.2,wx))/\R b)\/vk X
theorem zu3 {R:CKt->Prop}{l:Sl Nd}{X:Us XT}(h:zoZ R l i X) (hi:i < 1000000000) :
    (∃b:CKt,(X.bind λy68=>D (λy69=>u (Step.done (C y69:FTt))) (λy70=>u (Step.next (y70.1,y70.2.1,Ut (y70.2.2.1+1),y70.2.2.2))) y68)=u (.next (l,l.len,((i+1:Nat):Int),b.1,b.2,wx))/\R b)\/
    ∃r,(X.bind λy68=>D (λy69=>u (Step.done (C y69:FTt))) (λy70=>u (Step.next (y70.1,y70.2.1,Ut (y70.2.2.1+1),y70.2.2.2))) y68)=u (.done r)/\vk (u r):=by
  rcases h with⟨b,rfl,g⟩ | ⟨f,s,rfl,hf⟩
  ·exact .inl ⟨b,by simp only[ji,jl,zw hi],g⟩
  ·exact .inr ⟨_,by simp only[ji,jm];rfl,_,_,rfl,hf⟩
def atS(st:CKt)(a:Int):CKt:=((st.1.1,st.1.2.1,a,st.1.2.2.2),st.2)
theorem Vd.at{st:CKt}(h:Vd st)(a:Int):Vd (atS st a):=⟨h.j,h.v,h.s,h.f⟩
theorem Vc.at{st:CKt}(h:Vc k st)(a:Int):Vc k (atS st a):=⟨h.1.at a,h.2⟩
theorem Gr.at{st b:CKt}(h:Gr m (atS st a) b):Gr m st b:=⟨h.s,h.t,h.j,h.l,h.f⟩
theorem g0{st:CKt}:Gr m st (atS st a):=(Gr.refl (a:=st) (b:=atS st a) rfl rfl rfl rfl).mono (U8 _)
theorem zhB{k:Nd}(h:n.K_=⟨[k],w⟩)(hn:zm n<=40000):k.K_.xs.length<=50000:=by
 have a:=@yF n k (by rw[h];simp);have b:=@Zl k;omega
theorem vY{s:Nd}(g:StmtG s)(hz:zm s<=40000)(h15:s.k_≠15)(h16:s.k_≠16):StP s:=by
 intro F st l i hi hs hl hF hv;show(∃b,q1y _ _ _ _ _ _ _ _ _=_/\_)\/∃r,q1y _ _ _ _ _ _ _ _ _=_/\_
 unfold q1y;simp only[jk,zn,yR];rw[ju (by simp only[zo];omega),zh hi,hs,ji];refine zu3 ?_ (by omega);have hv':=hv.1.at s.a_;have bad:∀{e:Int},e≠0->zoZ (λb=>Gr (zm s) st b/\AllN (pN b) s) l i (u (.inl ((s.a_,e),atS st s.a_))):=λhe =>.inr ⟨_,_,rfl,he⟩
 have ok:AllN (pN (atS st s.a_)) s->zoZ (λb=>Gr (zm s) st b/\AllN (pN b) s) l i (u (.inr (l,l.len,(i:Int),(atS st s.a_).1,(atS st s.a_).2,wx))):=λh =>.inl ⟨_,rfl,g0,h⟩
 have hm:∀(b:Bool) (e:Int),q14 (b,e,(st.1.1,st.1.2.1,s.a_,st.1.2.2.2),st.2)=u (if b=w then .inr (atS st s.a_) else .inl ((s.a_,e),atS st s.a_)):=λb e=>vX b e (atS st s.a_)
 cases g with
 | @leaf k t n a c=>
  rcases c with rfl | rfl | rfl | rfl | rfl
  ·simp (decide:=true) only [jr,jq,jp,jo,jj,ji,jm,jl,hm];grind
  ·simp (decide:=true) only [jr,jq,jp,jo,jj,ji,jm,jl,hm];grind
  ·simp (decide:=true) only [jr,jq,jp,jo,jj,ji,jm,jl,hm];grind
  ·simp (decide:=true) only [jr,jq,jp,jo,jj,ji,jm,jl,hm,show(nilS:Sl Nd).len=0 from rfl];exact ok (.mk (by simp[pN]) (by simp[nilS]))
  ·simp (decide:=true) only [jr,jq,jp,jo,jj,ji,jm,jl,hm];exact ok (.mk (by simp[pN]) (by simp[nilS]))
 |ite=>grind
 |whl=>grind
 |ret c=>
  simp (decide:=true) only [jr,jq,jp,jo,jj,ji,jm,jl,hm,show∀x:Nd,Sl.len (⟨[x],w⟩:Sl Nd)=1 from λ_=>rfl];grind
 | @fork t n a ks c=>
  have hkl:=@Zl ⟨19,t,n,a,ks⟩;have e:=zAL st.2 ⟨19,t,n,a,ks⟩ hv.1.f;generalize hx:idx (λx:PNf=>decide (x.N_=(q6.mk 19 t n a ks).T_)) st.2.xs=x at e;simp (decide:=true) only [jr,jq,jp,jo,jj,ji,hm,e];by_cases h1:0<=x
  rotate_left
  ·grind
  obtain⟨k,rfl⟩:∃k:Nat,x=(k:Int):=⟨_,(Dz h1).symm⟩
  obtain⟨hk,hkn⟩:=zzg hx;obtain⟨v1,v2,v3⟩:=hv.1.v _ (g9 hk);simp only[h1,jr,jp,jl];rw[show(atS st a).2=st.2 from rfl];simp only[zh hk,ji,Yk (s:=st.2.xs[k].V_) (lo:=0) (hi:=st.2.xs[k].P_) (by omega) v2 v3];rcases zxl (st:=atS st a) hv' ks (by grind) (k:=k) hk with⟨e,q1,q2⟩ | ⟨f,s,e,hf⟩
  ·have e:q1r (ks,((k:Int),0,st.2.xs[k].P_),atS st a)=_:=e;simp only[e,ji,jl];exact ok (.mk (λ_=>⟨k,_,hx,U6 hk,q1,q2⟩) λk hk=>YU (c k hk))
  ·have e:q1r (ks,((k:Int),0,st.2.xs[k].P_),atS st a)=_:=e;simp only[e,ji,jm];exact .inr ⟨_,_,rfl,hf⟩
 | @call t n a x c=>
  rcases zrQ (st:=atS st a) hv' x (zhB (n:=⟨20,t,n,a,⟨[x],w⟩⟩) rfl hz) with⟨p,e⟩ | ⟨f,s,e,hf⟩
  ·have e:q1t (x,(st.1.1,st.1.2.1,a,st.1.2.2.2),st.2)=_:=e;simp (decide:=true) only [jr,jq,jp,jo,jj,ji,show zb (⟨[x],w⟩:Sl Nd) 0=u x from rfl,e,jl];refine ok (.mk (by simp[pN]) λk hk=>?_);obtain rfl:=Dl.1 hk;exact zin (.call c)
  ·have e:q1t (x,(st.1.1,st.1.2.1,a,st.1.2.2.2),st.2)=_:=e;simp (decide:=true) only [jr,jq,jp,jo,jj,ji,show zb (⟨[x],w⟩:Sl Nd) 0=u x from rfl,e,jm];exact .inr ⟨_,_,rfl,hf⟩
 |store c d=>
  simp (decide:=true) only [jr,jq,jp,jo,jj,ji,jm,jl,hm];grind
 | @set t n a x c=>
  rcases zzf (st:=atS st a) hv' c (zhB (n:=⟨10,t,n,a,⟨[x],w⟩⟩) rfl hz) with⟨p,e⟩ | ⟨f,s,e,hf⟩
  ·have e:q21 (x,(st.1.1,st.1.2.1,a,st.1.2.2.2),st.2)=_:=e;simp (decide:=true) only [jr,jq,jp,jo,jj,ji,show zb (⟨[x],w⟩:Sl Nd) 0=u x from rfl,e,jm];rcases zAK (st:=atS st a) ((hv.mono (Zh _)).at a) t p with⟨b,e,g⟩ | ⟨f,s,e,hf⟩
   ·simp only[e,ji,jl];refine .inl ⟨b,rfl,(g.mono (Zh _)).at,.mk (by simp[pN]) λk hk=>?_⟩;obtain rfl:=Dl.1 hk;exact zin c
   ·simp only[e,ji,jm];exact .inr ⟨_,_,rfl,hf⟩
  ·have e:q21 (x,(st.1.1,st.1.2.1,a,st.1.2.2.2),st.2)=_:=e;simp (decide:=true) only [jr,jq,jp,jo,jj,ji,show zb (⟨[x],w⟩:Sl Nd) 0=u x from rfl,e,jl];exact .inr ⟨_,_,rfl,hf⟩
theorem zgt{k:Int}{op:Uq}{n:Int}{x y:Nd}{bs:List Nd}(hk:k=15\/k=16)(hz:zm ⟨k,op,n,a,⟨x::y::bs,w⟩⟩<=40000)(hx:yr x)(hy:yr y)(hb:∀b∈bs,b.k_=9/\BlP (zm b) b.K_):StP ⟨k,op,n,a,⟨x::y::bs,w⟩⟩:=by
 intro F st l i hi hs hl hF hv;have hsz:zm ⟨k,op,n,a,⟨x::y::bs,w⟩⟩=zm x+(zm y+zf bs)+1:=by rw[zl];simp[zf]
 have px:=Zh x;have py:=Zh y;show(∃b,q1y _ _ _ _ _ _ _ _ _=_/\_)\/∃r,q1y _ _ _ _ _ _ _ _ _=_/\_
 unfold q1y;simp only[jk,zn,yR];rw[ju (by simp only[zo];omega),zh hi,hs,ji];refine zu3 ?_ (by omega);have hv':=hv.1.at a;have hgs:Zd (⟨x::y::bs,w⟩:Sl Nd) 2 (⟨x::y::bs,w⟩:Sl Nd).len=u ⟨bs,w⟩:=by
  rw[Yk (by omega) (by simp only[zo,jy];omega) (by simp only[zo];omega)];simp only[zo,Int.toNat_natCast,Df];rfl
 have hbl:=Wb bs;have hf:∀z:Nd,LkQ (VK (atS st a) z wx) (atS st a) (q1f (z,wx,(st.1.1,st.1.2.1,a,st.1.2.2.2),st.2)):=λz=>zoY hv' z wx
 have main:zoZ (λc=>Gr (zm ⟨k,op,n,a,⟨x::y::bs,w⟩⟩) st c/\AllN (pN c) ⟨k,op,n,a,⟨x::y::bs,w⟩⟩) l i ((lpO (q4y q21 q2z q1t q3u q14 q1r q1f (q2b F)) (l,l.len,(i:Int),⟨bs,w⟩,(⟨bs,w⟩:Sl Nd).len,0,(atS st a).1,(atS st a).2,wx))):=by
  rcases goE (f:=q4y q21 q2z q1t q3u q14 q1r q1f (q2b F)) (n:=bs.length) (A:=CKt)
   (st:=λj c=>(l,l.len,(i:Int),⟨bs,w⟩,(⟨bs,w⟩:Sl Nd).len,(j:Int),c.1,c.2,wx)) (fin:=λc =>.inr (l,l.len,(i:Int),c.1,c.2,wx)) (J:=λj c=>Gr (zf (bs.take j)) (atS st a) c/\∀b∈bs.take j,AllN (pN c) b) (bad:=λr=>vk (u r))
   (λj hj c hc=>by
    obtain⟨hc,hq⟩:=hc;unfold q4y;simp only[jk,zn];rw[ju (by simp only[zo];omega),zh (s:=⟨bs,w⟩) hj,ji];have hz:=YT hj;have hc2:Vc (zm bs[j]) c:=Vc.gr ((hv.at a).mono (show zf (bs.take j)+zm bs[j]<=_ by omega)) hc;obtain⟨hb9,hb'⟩:=hb _ (g9 hj);rcases hb' F c (by omega) hc2 with⟨b,e,g,q⟩ | ⟨f,s,e,hf⟩
    ·refine .inl ⟨b,?_,?_⟩
     ·show((q2b F (bs[j].K_,c)).bind _)=_;rw[e,ji,jl,zw (by omega)]
     ·rw[<- D0 hj,zR];refine⟨(hc.trans g).mono (by simp[zf]),λs hs=>?_⟩;rcases Uu.1 hs with hs | hs
      ·exact(hq s hs).mono λn=>pN.gr g
      ·rw[Dl] at hs;subst hs;exact .mk (by simp[pN,hb9]) q
    ·refine .inr ⟨.inl (f,s),?_,f,s,rfl,hf⟩
     grind)
   (λc hc=>by
    unfold q4y;simp only[jk]
    rw[jv (by simp only[zo];omega)])
   (a:=atS st a) ⟨(Gr.refl rfl rfl rfl rfl).mono (by omega),by simp⟩ with⟨c,e,g,q⟩ | ⟨r,e,f,s,e2,hf⟩
  ·rw[Df] at g q;refine .inl ⟨c,e,(g.mono (by omega)).at,.mk (λh=>by have h:k=19:=h;omega) λz hz=>?_⟩
   ·rcases UO.1 hz with rfl | hz
    ·exact YU hx
    rcases UO.1 hz with rfl | hz
    ·exact YU hy
    ·exact q z hz
  ·cases e2;exact .inr ⟨_,_,e,hf⟩
 rcases hk with rfl | rfl<;>
 ·simp (decide:=true) only [jr,jq,jp,jo,jj,ji,show zb (⟨x::y::bs,w⟩:Sl Nd) 0=u x from rfl,show zb (⟨x::y::bs,w⟩:Sl Nd) 1=u y from rfl];rcases hf x with⟨e,_⟩ | ⟨f,s,e,hf'⟩
  rotate_left
  ·simp only[e,ji,jm];exact .inr ⟨_,_,rfl,hf'⟩
  have e2:=hf y;simp only[e,ji,jl];rcases e2 with⟨e2,_⟩ | ⟨f,s,e2,hf'⟩
  rotate_left
  ·have e2:q1f (y,wx,atS st a)=_:=e2;simp only[e2,ji,jm];exact .inr ⟨_,_,rfl,hf'⟩
  have e2:q1f (y,wx,atS st a)=_:=e2;grind
theorem zzh{s:Nd}(h:StmtG s)(hs:zm s<=40000):StP s:=by
 have blk:∀(a:Int) (b:List Nd),(∀s∈b,zm s<=40000->StP s)->zm ⟨9,lit [],0,a,mkS b⟩<=40000->BlP (zm ⟨9,lit [],0,a,mkS b⟩) (q6.mk 9 (lit []) 0 a (mkS b)).K_:=λa b ih hz=>by
  rw[zl] at hz |-
  exact zm7 (λs hs=>ih s hs (by have:=XR hs;omega)) (by omega)
 induction h with
 | @ite op n a x y b1 a1 b2 a2 hx hy h1 h2 i1 i2=>
  refine zgt (.inl rfl) hs hx hy λb hb=>?_
  rw[zl] at hs;simp only[zf] at hs;rcases UO.1 hb with rfl | hb
  all_goals grind
 | @whl op n a x y b1 a1 hx hy h1 i1=>
  refine zgt (.inr rfl) hs hx hy λb hb=>?_
  rw[zl] at hs;simp only[zf] at hs;grind
 | @leaf k t n a c=>exact vY (.leaf c) hs (by grind) (by grind)
 |ret c=>exact vY (.ret c) hs (by simp) (by simp)
 |fork c=>exact vY (.fork c) hs (by simp) (by simp)
 |call c=>exact vY (.call c) hs (by simp) (by simp)
 |store c d=>exact vY (.store c d) hs (by simp) (by simp)
 |set c=>exact vY (.set c) hs (by simp) (by simp)
theorem zzi{b:Nd}(h:VI b)(hs:zm b<=40000):BlP (zm b) b.K_:=by
 obtain⟨a,l,rfl,hl⟩:=h;rw[zl] at hs |-
 have hs:zf l+1<=40000:=hs;exact zm7 (λs hs'=>zzh (hl s hs') (by have:zm s<=zf l:=XR hs';omega)) (by grind)
structure FnR(m:Nat)(t:List PT)(k:Nd)(f:PNf):Prop where
 g:FnG k
 n:f.N_=k.T_
 p:f.P_=((yl k).length:Int)
 l:(yl k).length<=8
 o:zlC t (yl k)
 v:∃ex,f.V_.xs=(yl k).map (ZH t)++ex/\ex.length<=m
theorem FnR.gr{a b:PNf}(h:FnR m t n a)(g:b.N_=a.N_/\b.P_=a.P_/\∃ex,b.V_.xs=a.V_.xs++ex/\ex.length<=k):FnR (m+k) t n b:=by
 obtain⟨g1,g2,ex,g3,g4⟩:=g;obtain⟨e1,v1,l1⟩:=h.v;exact⟨h.g,g1.trans h.n,g2.trans h.p,h.l,h.o,e1++ex,by grind,by grind⟩
theorem FnR.mono{a:PNf}(h:FnR m t n a)(hm:m<=k):FnR k t n a:=⟨h.g,h.n,h.p,h.l,h.o,by obtain⟨e1,v1,l1⟩:=h.v;grind⟩
def Yd(m:Nat)(t:List PT)(ks:List Nd)(fs:List PNf):Prop:=∃h:fs.length=ks.length,∀i (hi:i < ks.length),FnR m t ks[i] (fs[i]'(by omega))
theorem Yd.mono{fs:List PNf}(h:Yd m t ks fs)(hm:m<=k):Yd k t ks fs:=⟨h.1,λi hi=>(h.2 i hi).mono hm⟩
theorem Yd.snoc{fs:List PNf}{k:Nd}{f:PNf}(h:Yd m t ks fs)(g:FnR m t k f):Yd m t (ks++[k]) (fs++[f]):=by
 have hl:=h.1;refine⟨by simp[hl],λi hi=>?_⟩;rw[jx,jz] at hi;by_cases c:i < ks.length
 ·rw[L c,L (by omega)];exact h.2 i c
 ·obtain rfl:i=ks.length:=by omega
  rw[K (U7 _),K (by omega)];grind
theorem Yd.vc{t:Sl PT}{at_:Int}{fs:Sl PNf}(h:Yd m t.xs ks fs.xs)(hs:sg.xs.length<=50000)(hk:ks.length<=50000)(hm:m+5000<=50000)(hi:i < ks.length):Vc 5000 ((sg,t,at_,(i:Int)),fs):=by
 have key:∀f∈fs.xs,f.V_.xs.length<=m+8/\0<=f.P_/\f.P_<=f.V_.xs.length:=by
  intro f hf;obtain⟨j,hj,rfl⟩:=I hf;have r:=h.2 j (by rw[<- h.1];exact hj);obtain⟨e1,v1,l1⟩:=r.v;have:=congrArg H v1;rw[jx,Dn] at this;have h8:=r.l;have hp:=r.p;grind
 exact⟨⟨⟨i,rfl,by show i < fs.xs.length;rw[h.1];exact hi⟩,λf hf=>⟨by grind,(key f hf).2⟩,hs,by show fs.xs.length<=_;rw[h.1];exact hk⟩,λf hf=>by grind⟩
theorem Yd.gr{a b:CKt}(h:Yd m t ks a.2.xs)(g:Gr k a b):Yd (m+k) t ks b.2.xs:=
 ⟨g.l.trans h.1,λi hi=>(h.2 i hi).gr (g.f i (by rw[h.1];exact hi) (by rw[g.l,h.1];exact hi))⟩
theorem zrR(n:Nd)(ok:Bool)(e:Int)(s:CKt):q3k (n,ok,e,s)=u (if ok=w then .inr (atS s n.a_) else .inl ((n.a_,e),atS s n.a_)):=by cases ok<;>rfl
noncomputable abbrev LC0:=q6s q1x q37 q66 q3r q5j q3k q5f
noncomputable abbrev LC1:=q6t q1x q37 q66 q3r q5j q3k q5f
def zo0(n:Nd)(r:((Int×Int)×Nd×Int×Int)⊕β):Prop:=∃f,r = .inl (f,n,0,0)/\f.2≠0
theorem zzj (hg:UnitG n) (sg:Sl PSg) (t:Sl PT) (ht:t.xs.length<=100000) (at0:Int) :
    (∃a fs,lpO LC0 (n.K_,n.K_.len,0,n,0,0,(sg,t,at0),Sl.mk [] B)=u (.inr (n,0,0,(sg,t,a),fs))/\Yd 0 t.xs n.K_.xs fs.xs)\/
    ∃r,lpO LC0 (n.K_,n.K_.len,0,n,0,0,(sg,t,at0),Sl.mk [] B)=u r/\zo0 n r:=by
  have hkl:=@Zl n;have hsz:=hg.size
  rcases goE (f:=LC0) (n:=n.K_.xs.length) (A:=Int×Sl PNf) (st:=λi a=>(n.K_,n.K_.len,(i:Int),n,0,0,(sg,t,a.1),a.2)) (fin:=λa =>.inr (n,0,0,(sg,t,a.1),a.2)) (J:=λi a=>Yd 0 t.xs (n.K_.xs.take i) a.2.xs) (bad:=zo0 n)
    (λi hi a ha=>by
      obtain⟨a,fs⟩:=a;have hl:=ha.1;rw[UY] at hl;simp only at hl;show(∃a',q6s _ _ _ _ _ _ _ _=_/\_)\/∃r,q6s _ _ _ _ _ _ _ _=_/\_
      unfold q6s;simp only[jk,zn,Zz];rw[ju (by simp only[zo];omega),zh hi,ji,zfo,ji];by_cases h6:n.K_.xs[i].k_=6
      rotate_left
      ·simp only[h6,jq,jj,jo,jm,ji];exact .inr ⟨_,rfl,_,rfl,by simp⟩
      simp only[h6,jr,jp,jl];have hf:FnG n.K_.xs[i]:=by
        rcases hg.kid _ (g9 hi) with h | h
        ·exact absurd h.1 (by grind)
        ·exact h
      rcases zzc hf (by have:=yF (g9 hi);omega) sg t ht n.K_.xs[i].a_ fs with⟨a',vars,e,h8,hv,ho⟩ | ⟨r,e,f,s,rfl,hf⟩
      ·simp only[e,ji,jl];rw[ZA (by omega) (by omega)];simp only[ji,jl,zw (show i < 1000000000 by omega)];refine .inl ⟨(a',_),rfl,?_⟩;rw[<- D0 hi];exact ha.snoc ⟨hf,rfl,rfl,h8,ho,[],by simp[hv],by simp⟩
      · simp only[e,ji,jm]
        exact .inr ⟨_,rfl,_,rfl,hf⟩)
    (λa ha=>by
      show q6s _ _ _ _ _ _ _ _=_;unfold q6s;simp only[jk,zn]
      rw[jv (by simp only[zo];omega)])
    (a:=(at0,Sl.mk [] B)) ⟨by simp,λi hi=>by simp at hi⟩ with⟨⟨a,fs⟩,e,h⟩ | h
  all_goals grind
abbrev ziR(sg:Sl PSg)(t:Sl PT)(fs:Sl PNf)(k:Nd)(i:Nat):Prop:=AllN (pN ((sg,t,0,(i:Int)),fs)) k
theorem pN.grj{t:Sl PT}{i j:Int}{fs:Sl PNf}{c:CKt}(g:Gr m ((sg,t,a,i),fs) c)(h:pN ((sg,t,0,j),fs) n):pN ((sg,t,0,j),c.2) n:=by
 intro c19;obtain⟨k,f,h1,h2,h3,h4⟩:=h c19;obtain⟨hk,rfl⟩:=U1.1 h2;have hb:k < c.2.xs.length:=by rw[g.l];exact hk
 obtain⟨_,p2,ex,v1,_⟩:=g.f k hk hb;refine⟨k,_,(zlE g _).trans h1,U6 hb,by rw[p2];exact h3,λi x hx=>?_⟩;obtain⟨p,p1,p2⟩:=h4 i x hx;refine⟨p,?_,?_⟩
 ·rw[v1,UR (by obtain⟨h,_⟩:=U1.1 p1;exact h)];exact p1
 rcases p2 with h | ⟨h,v,⟨f,⟨j',hj,hf⟩,i,hi,hv⟩,q1,q2⟩
 ·exact .inl h
 refine .inr ⟨h,v,?_,q1,q2⟩;obtain⟨hj',rfl⟩:=U1.1 hf;have hb:j' < c.2.xs.length:=by rw[g.l];exact hj'
 obtain⟨_,_,ex,v1,_⟩:=g.f j' hj' hb;refine⟨_,⟨j',hj,U6 hb⟩,i,by rw[v1];exact zm6 hi,?_⟩;rw[v1,UR (by obtain⟨h,_⟩:=U1.1 hv;exact h)];exact hv
theorem pN.at'{t:Sl PT}{i:Int}{c:CKt}(h:pN c n)(cs:c.1.1=sg)(ct:c.1.2.1=t)(cj:c.1.2.2.2=i):pN ((sg,t,0,i),c.2) n:=by
 subst cs ct cj;exact h
theorem zio{st:CKt}{m:Nd}(h:WU m):AllN (pN st) m:=by
 refine .mk (by simp[pN,h.1]) λk hk=>?_
 rcases h.2 with⟨_,h⟩ | ⟨_,x,h,hx⟩
 ·rw[h] at hk;simp[nilS] at hk
 ·rw[h] at hk;obtain rfl:=Dl.1 hk;exact YU hx
theorem zzk (hg:UnitG n) (sg:Sl PSg) (t:Sl PT) (hs:sg.xs.length<=50000) (at0:Int) {fs0:Sl PNf}(h0:Yd 0 t.xs n.K_.xs fs0.xs) :
    (∃a fs,lpO LC1 (n.K_,n.K_.len,0,n,0,0,(sg,t,at0),fs0)=u (.inr (n,0,0,(sg,t,a),fs))/\Yd 5000 t.xs n.K_.xs fs.xs/\∀(i:Nat) (hi:i < n.K_.xs.length),ziR sg t fs n.K_.xs[i] i)\/
    ∃r,lpO LC1 (n.K_,n.K_.len,0,n,0,0,(sg,t,at0),fs0)=u r/\zo0 n r:=by
  have hkl:=@Zl n;have hsz:=hg.size;have hse:=zl n
  rcases goE (f:=LC1) (n:=n.K_.xs.length) (A:=Int×Sl PNf) (st:=λi a=>(n.K_,n.K_.len,(i:Int),n,0,0,(sg,t,a.1),a.2)) (fin:=λa =>.inr (n,0,0,(sg,t,a.1),a.2)) (J:=λi a=>Yd (zf (n.K_.xs.take i)) t.xs n.K_.xs a.2.xs/\∀(k:Nat) (hk:k < n.K_.xs.length),k < i->ziR sg t a.2 n.K_.xs[k] k) (bad:=zo0 n)
    (λi hi a ha=>by
      obtain⟨a,fs⟩:=a;obtain⟨ha,hD⟩:=ha;have hl:=ha.1;have hst:=YT hi;simp only at hl hD;have r:=ha.2 i hi;obtain⟨k6,ps,rr,b,hk,hpp,hrr,hr8,hb⟩:=r.g;have hk':=congrArg Sl.xs hk;simp only at hk';have hlen:n.K_.xs[i].K_.xs.length=ps.length+2:=by rw[hk];simp
      have hki:=@Zl n.K_.xs[i];have hbz:=yF (n:=n.K_.xs[i]) (k:=b) (by rw[hk];simp);have hgl:zb n.K_.xs[i].K_ (Ut (n.K_.xs[i].K_.len - 1))=u b:=by
        rw[zo,hlen,zK (by omega) (by omega),show(((ps.length+2:Nat):Int) - 1)=((ps.length+1:Nat):Int) by omega,zh (by omega)];simp[hk]
      show(∃a',q6t _ _ _ _ _ _ _ _=_/\_)\/∃r,q6t _ _ _ _ _ _ _ _=_/\_
      unfold q6t;simp only[jk,zn];rw[ju (by simp only[zo];omega),zh hi,ji,zh (s:=fs) (by omega),ji,hgl,ji];have vc:Vc 5000 ((sg,t,a,(i:Int)),fs):=ha.vc hs (by omega) (by omega) hi;have hbl:=zzi hb (by omega) 100000 ((sg,t,a,(i:Int)),fs) (by omega) (vc.mono (by omega));rcases hbl with⟨c,e,g,q⟩ | ⟨f,s,e,hf⟩
      rotate_left
      ·have e:q3r (b.K_,(sg,t,a,(i:Int)),fs)=_:=e;simp only[e,ji,jm];exact .inr ⟨_,rfl,_,rfl,hf⟩
      have e:q3r (b.K_,(sg,t,a,(i:Int)),fs)=_:=e;have hj:c.1.2.2.2=(i:Int):=g.j;have gl:c.2.xs.length=fs.xs.length:=g.l;have hci:i < c.2.xs.length:=by omega
      have fin':Yd (zf (n.K_.xs.take (i+1))) t.xs n.K_.xs c.2.xs:=by
        rw[<- D0 hi,zR];exact(Yd.gr (a:=((sg,t,a,(i:Int)),fs)) ha g).mono (by simp only[zf];omega)
      have cs:c.1.1=sg:=g.s;have ct:c.1.2.1=t:=g.t;simp only[e,ji,jl,hj,zh hci,zrR];by_cases h64:Sl.len c.2.xs[i].V_<=64
      rotate_left
      ·simp only[h64,jo,jj,jm,ji];exact .inr ⟨_,rfl,_,rfl,by simp⟩
      obtain⟨cc,rc,e1,_,_,_,_⟩:=zlB r.g (by omega);simp only[h64,jp,e1,ji];by_cases h5:Sl.len cc.L_<=512
      · simp only[h5,jr,jp,ji,jl,zw (show i < 1000000000 by omega),atS,cs,ct];refine .inl ⟨(_,_),rfl,fin',λk hk hki=>?_⟩;have st2:∀{j:Nat} {x:Nd},AllN (pN ((sg,t,0,(j:Int)),fs)) x->AllN (pN ((sg,t,0,(j:Int)),c.2)) x:=λh=>h.mono λn=>pN.grj g
        by_cases hlt:k < i
        ·exact st2 (hD k hk hlt)
        · obtain rfl:k=i:=by omega
          have q':∀s∈b.K_.xs,AllN (pN ((sg,t,0,(k:Int)),c.2)) s:=λs hs=>(q s hs).mono λn h=>h.at' cs ct hj
          refine .mk (by simp[pN,k6]) λz hz=>?_
          rw[hk'] at hz;rcases Uu.1 hz with hz | hz
          · obtain⟨h7,m,hm,hmg⟩:=hpp z hz;refine .mk (by simp[pN,h7]) λw hw=>?_
            rw[hm] at hw;obtain rfl:=Dl.1 hw;exact zio hmg
          rcases UO.1 hz with rfl | hz
          · rcases hrr with⟨_,h⟩ | h
            ·exact .mk (by simp[pN,hr8]) (by rw[h];simp[nilS])
            ·exact zio h
          ·obtain rfl:=Dl.1 hz;obtain⟨_,_,rfl,_⟩:=hb;exact .mk (by simp[pN]) q'
      · simp only[h5,jq,jo,jj,jm,ji]
        exact .inr ⟨_,rfl,_,rfl,by simp⟩)
    (λa ha=>by
      show q6t _ _ _ _ _ _ _ _=_;unfold q6t;simp only[jk,zn]
      rw[jv (by simp only[zo];omega)])
    (a:=(at0,fs0)) ⟨by simpa[zf] using h0,λk hk h=>by omega⟩ with⟨⟨a,fs⟩,e,h,hD⟩ | h
  ·rw[Df] at h;exact .inl ⟨a,fs,e,h.mono (by omega),λi hi=>hD i hi hi⟩
  ·exact .inr h
theorem zt6 (hg:UnitG n) (sg:Sl PSg) (t:Sl PT) (hs:sg.xs.length<=50000) (ht:t.xs.length<=100000) :
    ∃a e fs,q4r (n,sg,t)=u (a,e,fs)/\(e≠0/\fs.xs=[]\/e=0/\Yd 5000 t.xs n.K_.xs fs.xs/\∀(i:Nat) (hi:i < n.K_.xs.length),ziR sg t fs n.K_.xs[i] i):=by
  unfold q4r qdw;simp only[zn];rcases zzj hg sg t ht 0 with⟨a,fs,e,h⟩ | ⟨r,e,f,rfl,hf⟩
  · rw[e];simp only[ji,jl];rcases zzk hg sg t hs a h with⟨b,gs,e,h⟩ | ⟨r,e,f,rfl,hf⟩
    ·rw[e];exact⟨_,_,gs,rfl,.inr ⟨rfl,h⟩⟩
    ·rw[e];exact⟨_,_,_,rfl,.inl ⟨hf,rfl⟩⟩
  ·rw[e];exact⟨_,_,_,rfl,.inl ⟨hf,rfl⟩⟩
end Go.Px
