/- Part Lg: Px22RC Px22RD Px22RE Px22RF Px22RG Px22RH Px2 -/
import Derived.Test.YtpcipfnohfefhaaGreatDoorLf
set_option linter.unusedVariables false
set_option linter.unusedSimpArgs false
namespace Go.Px
variable{a:Int}{i k m:Nat}{ks:List Nd}{n:Nd}{p v:PP}{sg:Sl PSg}{t:List PT}{α β:Type}
abbrev PNf:=qb
abbrev KS:=(Sl PSg×Sl PT×Int)×Sl PNf
theorem goE {S R A:Type}{f:S->G3 (Step S R)}{n:Nat}{st:Nat->A->S}{fin:A->R}{J:Nat->A->Prop}{bad:R->Prop}
    (h:∀ i,i < n->∀ a,J i a->(∃ a',f (st i a)=some (.next (st (i+1) a'))/\J (i+1) a')\/∃ r,f (st i a)=some (.done r)/\bad r)
    (h0:∀ a,J n a->f (st n a)=some (.done (fin a))) {a:A} (ha:J 0 a) :
    (∃ a',lpO f (st 0 a)=some (fin a')/\J n a')\/∃ r,lpO f (st 0 a)=some r/\bad r:=by
  have:∀ (m i:Nat) (a:A),i+m=n->J i a->(∃ a',lpO f (st i a)=some (fin a')/\J n a')\/∃ r,lpO f (st i a)=some r/\bad r:=by
    intro m
    induction m with
    |zero=>
      intro i a hi ha;obtain rfl:i=n:=by omega
      exact .inl ⟨a,zx (h0 a ha),ha⟩
    |succ m ih=>
      intro i a hi ha;rcases h i (by omega) a ha with ⟨a',h1,h2⟩ | ⟨r,h1,h2⟩
      · rcases ih (i+1) a' (by omega) h2 with ⟨b,h3,h4⟩ | ⟨r,h3,h4⟩
        ·exact .inl ⟨b,by rw [zD h1,h3],h4⟩
        ·exact .inr ⟨r,by rw [zD h1,h3],h4⟩
      ·exact .inr ⟨r,zx h1,h2⟩
  exact this n 0 a (by omega) ha
def xZ (t:List PT) (k:Nd):PP:=if (zO k).T_=lit [111,119,110] then ⟨k.T_,2,idT (zO (zO k)).T_ t⟩ else ⟨k.T_,1,0⟩
theorem zvS (ok:Bool) (e:Int) (s:KS):q2t (ok,e,s)=some (if ok=true then .inr s else .inl ((s.1.2.2,e),s)):=by cases ok <;> rfl
theorem zey (n:Nd) (ok:Bool) (e:Int) (s:KS):q1v (n,ok,e,s)=some (if ok=true then .inr ((s.1.1,s.1.2.1,n.a_),s.2) else .inl ((n.a_,e),(s.1.1,s.1.2.1,n.a_),s.2)):=by cases ok <;> rfl
theorem zgB (f:PNf) (n:G0) (h:f.V_.xs.length<=1000000):q2d (f,n)=some (idP n f.V_.xs):=by
 have:=WY (f:=q4x q60) (xs:=f.V_.xs) (p:=fun x=>decide (x.N_=n)) (st:=fun i=>(f.V_,f.V_.len,(i:Int),n)) (yes:=fun i =>.inl ((i:Int),n)) (no :=.inr n)
  (fun i hi=>by
   unfold q4x;simp only [jh];rw [jr (by simp only [zu];omega),zr hi,jf];show ((some (decide (f.V_.xs[i].N_=n),n)).bind _)=_;simp only [jf,zL (show i < 1000000000 by omega)]
   grind)
  (by unfold q4x;simp only [jh];rw [js (by simp only [zu];omega)])
 show ((((lpO (q4x q60) (f.V_,Sl.len f.V_,((0:Nat):Int),n)).bind _)).bind _)=_;rw [this];unfold idP idx;cases f.V_.xs.findIdx? _ <;> rfl
def zm9 (t:List PT) (l:List Nd):Prop:=∀ k∈l,(xZ t k).M_=2->0<=(xZ t k).t_
def Wq (k:Nd):List Nd:=k.K_.xs.take (k.K_.xs.length - 2)
def OkP (t:List PT) (p:PP):Prop:=(p.M_=1/\p.t_=0)\/(2<=p.M_/\p.M_<=4/\0<=p.t_/\p.t_ < t.length)
structure VarsG (t:List PT) (l:List PP):Prop where
 k:∀ p∈l,OkP t p
 n:(l.map qf.N_).Nodup
theorem zuv {n:G0}{l:List PP}(h:idP n l < 0):∀ p∈l,p.N_≠n:=by
 intro p hp e;have:0<=idP n l:=xK.2.2.2 ⟨p,hp,by simpa using e⟩;omega
theorem VarsG.snoc {l:List PP}(h:VarsG t l) (hp:OkP t p) (hn:idP p.N_ l < 0):VarsG t (l++[p]):=by
 refine ⟨fun q hq=>?_,?_⟩
 ·rcases G5.1 hq with hq | hq
  ·exact h.k q hq
  ·rw [Uw] at hq;subst hq;exact hp
 ·rw [U5,List.nodup_append];refine ⟨h.n,by simp,fun a ha b hb=>?_⟩;obtain ⟨q,hq,rfl⟩:=U0.1 ha;rw [List.map_singleton,Uw] at hb;rw [hb];exact zuv hn q hq
def zvT (r:((Int×Int)×KS)⊕β):Prop:=∃ f s,r = .inl (f,s)/\f.2≠0
theorem zrJ {m:Nd}(h:WB m) (ho:m.T_=lit [111,119,110]):∃ x,m.K_=⟨[x],true⟩:=by
 rcases h.2 with ⟨h1,_⟩ | ⟨_,x,h2,_⟩
 ·rw [ho] at h1;simp (decide:=true) only [yb] at h1
 grind
theorem zvU {k:Nd}(h:FnG k) (hs:zn k<=40000) (sg:Sl PSg) (t:Sl PT) (ht:t.xs.length<=100000) (at_:Int) (fns:Sl PNf) :
    (∃ at' vars,q2u (k,(sg,t,at_),fns)=some (.inr ((k.T_,((Wq k).length:Int)),(sg,t,at'),fns,vars))/\(Wq k).length<=8/\vars.xs=(Wq k).map (xZ t.xs)/\zm9 t.xs (Wq k)/\VarsG t.xs vars.xs)\/
    ∃ r,q2u (k,(sg,t,at_),fns)=some r/\zvT r:=by
  obtain ⟨h6,ps,r,b,hk,hp,hr,hr8,hb⟩:=h;have hlen:k.K_.xs.length=ps.length+2:=by rw [hk];simp
  have hps:Wq k=ps:=by unfold Wq;grind
  have hkl:=@ZV k;rw [hps];have hc:G4 (k.K_.len - 2)=(ps.length:Int):=by rw [zu,hlen,zM (by omega) (by omega)];omega
  have hgs:Zv k.K_ 0 (ps.length:Int)=some ⟨ps,true⟩:=by
    rw [wd (by omega) (by omega) (by omega),hk];simp
  have hgr:zd k.K_ (ps.length:Int)=some r:=by rw [zr (by omega)];simp [hk]
  unfold q2u q7p;simp only [zj,zey,jf,hc,hgs,jh];by_cases h8:(ps.length:Int)<=8
  rotate_left
  ·simp only [h8,jk,jj];exact .inr ⟨_,rfl,_,_,rfl,by simp⟩
  simp only [h8,jl,ji]
  have key:=goE (f:=q3h q1v q2d q23 q2t) (n:=ps.length) (A:=Int×Sl PP)
    (st:=fun i a=>((ps.length:Int),⟨ps,true⟩,(⟨ps,true⟩:Sl Nd).len,(i:Int),(sg,t,a.1),fns,k,(lit [],0),(k.T_,(ps.length:Int)),a.2)) (fin:=fun a =>.inr ((ps.length:Int),(sg,t,a.1),fns,k,(lit [],0),(k.T_,(ps.length:Int)),a.2))
    (J:=fun i a=>a.2.xs=(ps.take i).map (xZ t.xs)/\zm9 t.xs (ps.take i)/\VarsG t.xs a.2.xs) (bad:=zvT)
    (fun i hi a ha=>by
      obtain ⟨a,vars⟩:=a;obtain ⟨hv,ho,hvg⟩:=ha;simp only at hv ho hvg;obtain ⟨_,m,hm,hmg⟩:=hp _ (jx hi);have vl:vars.xs.length<=40000:=by grind
      have k0:zO ps[i]=m:=by unfold zO;rw [hm];rfl
      have fin':∀ p:PP,xZ t.xs ps[i]=p->(p.M_=2->0<=p.t_)->OkP t.xs p->idP p.N_ vars.xs < 0->((⟨vars.xs++[p],true⟩:Sl PP).xs=(ps.take (i+1)).map (xZ t.xs)/\zm9 t.xs (ps.take (i+1))/\VarsG t.xs (vars.xs++[p])):=by
        intro p hp ht hok hne;rw [<- UA hi];refine ⟨by grind,fun x hx=>?_,hvg.snoc hok hne⟩;rcases G5.1 hx with hx | hx
        ·exact ho x hx
        grind
      unfold q3h;simp only [jh,zj];rw [jr (by simp only [zu];omega),zr (s:=⟨ps,true⟩) hi,jf];simp only;rw [hm,show zd (⟨[m],true⟩:Sl Nd) 0=some m from rfl,jf,zgB _ _ (by grind)];simp only [jf,zey,zvS,jh,Vj t _ (show t.xs.length<=1000000 by omega)];by_cases h1:idP ps[i].T_ vars.xs < 0
      rotate_left
      ·simp only [h1,jk,jf,jj];exact .inr ⟨_,rfl,_,_,rfl,by simp⟩
      simp only [h1,jl,ji];by_cases h2:m.T_=lit [105,110,116]
      · have hpo:xZ t.xs ps[i]=⟨ps[i].T_,1,0⟩:=by unfold xZ;rw [k0,h2,js (by simp (decide:=true) only [yb])]
        have hno:¬ m.T_=lit [111,119,110]:=by rw [h2];simp (decide:=true) only [yb]
        simp only [h2,jl,jf,ji,hno,jk];rw [<- h2];simp only [hno,jk,jf,ji];rw [yT (by omega) (by omega)];simp only [jf,ji,zL (show i < 1000000000 by omega)];exact .inl ⟨(_,_),rfl,fin' _ hpo (by simp) (.inl ⟨rfl,rfl⟩) h1⟩
      · simp only [h2,jk];by_cases h3:m.T_=lit [111,119,110]
        rotate_left
        ·simp only [h3,jk,jf,jj];exact .inr ⟨_,rfl,_,_,rfl,by simp⟩
        obtain ⟨x,hx⟩:=zrJ hmg h3;have hpo:xZ t.xs ps[i]=⟨ps[i].T_,2,idT x.T_ t.xs⟩:=by unfold xZ;rw [k0,jr h3];unfold zO;rw [hx];rfl
        simp only [h3,jl,jf,ji];rw [hx,show zd (⟨[x],true⟩:Sl Nd) 0=some x from rfl,jf];rw [Vj t _ (show t.xs.length<=1000000 by omega),jf];by_cases h4:0<=idT x.T_ t.xs
        rotate_left
        ·simp only [h4,jk,jf,jj];exact .inr ⟨_,rfl,_,_,rfl,by simp⟩
        simp only [h4,jl,jf,ji];rw [yT (by omega) (by omega)];simp only [jf,ji,zL (show i < 1000000000 by omega)]
        exact .inl ⟨(_,_),rfl,fin' _ hpo (fun _=>h4) (.inr ⟨by simp,by simp,h4,xK.2.1⟩) h1⟩)
    (fun a ha=>by
      unfold q3h;simp only [jh,zj]
      rw [js (by simp only [zu];omega)])
    (a:=(k.a_,Sl.mk [] false)) ⟨by simp,by intro x hx;simp at hx,by simp,by simp⟩
  rcases key with ⟨⟨a,vars⟩,e1,e2,e3⟩ | ⟨x,e1,f,s,rfl,hf⟩
  rotate_left
  ·have e1:lpO (q3h q1v q2d q23 q2t) ((ps.length:Int),⟨ps,true⟩,(⟨ps,true⟩:Sl Nd).len,0,(sg,t,k.a_),fns,k,(lit [],0),(k.T_,(ps.length:Int)),Sl.mk [] false)=_:=e1;rw [e1];exact .inr ⟨_,rfl,_,_,rfl,hf⟩
  have e1:lpO (q3h q1v q2d q23 q2t) ((ps.length:Int),⟨ps,true⟩,(⟨ps,true⟩:Sl Nd).len,0,(sg,t,k.a_),fns,k,(lit [],0),(k.T_,(ps.length:Int)),Sl.mk [] false)=_:=e1;rw [e1];simp only [jf,ji,hgr];by_cases h9:r.T_=lit []
  ·grind
  ·simp only [h9,jk,jj];exact .inr ⟨_,rfl,_,_,rfl,by simp⟩
abbrev CKt:=(Sl PSg×Sl PT×Int×Int)×Sl PNf
abbrev FTt:=(Int×Int)×CKt⊕CKt
structure Vd (st:CKt):Prop where
 j:∃ jn:Nat,st.1.2.2.2=(jn:Int)/\jn < st.2.xs.length
 v:∀ f∈st.2.xs,f.V_.xs.length<=60000/\0<=f.P_/\f.P_<=f.V_.xs.length
 s:st.1.1.xs.length<=50000
 f:st.2.xs.length<=50000
 k:∀ f∈st.2.xs,VarsG st.1.2.1.xs f.V_.xs
 g:∀ s∈st.1.1.xs,s.R_.M_=0\/OkP st.1.2.1.xs s.R_
def Cur (st:CKt) (f:PNf):Prop:=∃ j:Nat,st.1.2.2.2=(j:Int)/\st.2.xs[j]?=some f
def zbM (st:CKt) (n:G0) (v:PP):Prop:=∃ f,Cur st f/\∃ i:Nat,idP n f.V_.xs=(i:Int)/\f.V_.xs[i]?=some v
def zah (st:CKt) (n:Nd) (p:PP):Prop:=(n.T_=lit []/\p.M_=1)\/(n.T_≠lit []/\∃ v,zbM st n.T_ v/\(p.M_=1->v.M_=1)/\(p.M_=2->v.M_=2/\v.t_=p.t_))
theorem zbM.ok {st:CKt}(h:Vd st) {n:G0}(hv:zbM st n v):OkP st.1.2.1.xs v:=by
 obtain ⟨f,⟨j,_,hj⟩,i,_,hi⟩:=hv;exact (h.k f (GS hj)).k v (GS hi)
def Vl (r:G3 ((Int×Int)×CKt⊕β)):Prop:=∃ f s,r=some (.inl (f,s))/\f.2≠0
def LkQ (Q:Prop) (st:CKt) (r:G3 FTt):Prop:=(r=some (.inr st)/\Q)\/Vl r
def LkP (Q:PP->Prop) (st:CKt) (r:G3 ((Int×Int)×CKt⊕PP×CKt)):Prop:=(∃ p,r=some (.inr (p,st))/\Q p)\/Vl r
theorem vD (r:G3 (α⊕β)):(r.bind fun y=>Sum.elim (fun a=>some (Sum.inl a)) (fun b=>some (Sum.inr b)) y)=r:=by
 cases r with | none=>rfl | some x=>grind
theorem vE (ok:Bool) (e:Int) (s:CKt):q14 (ok,e,s)=some (if ok=true then .inr s else .inl ((s.1.2.2.1,e),s)):=by cases ok <;> rfl
theorem xl {Q:Prop}{ok:Bool}{e:Int}{s:CKt}(he:e≠0) (h:ok=true->Q):LkQ Q s (q14 (ok,e,s)):=by
 cases ok
 ·exact .inr ⟨_,_,rfl,he⟩
 ·exact .inl ⟨rfl,h rfl⟩
theorem WQ {Q:Prop}{c:Prop}[Decidable c] {s:CKt}{a b:G3 FTt}(ha:c->LkQ Q s a) (hb:¬c->LkQ Q s b):LkQ Q s (if c then a else b):=by
 by_cases h:c
 ·rw [jr h];exact ha h
 ·rw [js h];exact hb h
theorem zaJ {st:CKt}(h:Vd st) (n:G0):LkP (fun p=>∃ v,zbM st n v/\p.M_=v.M_/\p.t_=v.t_) st (q3i (n,st)):=by
 obtain ⟨⟨sg,t,a,j⟩,fns⟩:=st;obtain ⟨⟨jn,rfl,hj⟩,hv,hs,hf,_,_⟩:=h;simp only at hj hv;have hv:=(hv _ (jx hj)).1;unfold q3i q6n;simp only [zr hj,jf];rw [zgB _ _ (by grind)];simp only [jf,vE,jh];by_cases h1:0<=idP n fns.xs[jn].V_.xs
 ·have h2:idP n fns.xs[jn].V_.xs < fns.xs[jn].V_.xs.length:=xK.2.1;obtain ⟨i,hi⟩:∃ i:Nat,idP n fns.xs[jn].V_.xs=(i:Int):=⟨_,(U9 h1).symm⟩
  have hi':=hi;rw [hi] at h2 h1;simp only [hi,h1,jl,ji,zr hj,jf,zr (s:=fns.xs[jn].V_) (show i < _ by omega)];exact .inl ⟨_,rfl,_,⟨_,⟨jn,rfl,GI hj⟩,i,hi',GI (show i < _ by omega)⟩,rfl,rfl⟩
 ·simp only [h1,jk,jj];exact .inr ⟨_,_,rfl,by simp⟩
theorem zna {st:CKt}(h:Vd st) (n:Nd) (p:PP):LkQ (zah st n p) st (q1d (n,p,st)):=by
 unfold q1d q8g;simp only [vD,zj];refine WQ (fun c=>xl (by decide) fun q =>.inl ⟨by simpa using c,by simpa using q⟩) fun c=>?_
 rcases zaJ h n.T_ with ⟨k,e,v,hv,k1,k2⟩ | ⟨f,s,e,hf⟩
 ·have F:(p.M_=1->k.M_=1)->(p.M_=2->k.M_=2/\k.t_=p.t_)->zah st n p:=fun a b =>.inr ⟨by simpa using c,v,hv,by rw [<- k1];exact a,by rw [<- k1,<- k2];exact b⟩
  simp only [e,jf,ji];refine WQ (fun c1=>xl (by decide) fun q=>F (by grind) (by grind)) fun c1=>?_
  by_cases h3:p.M_=3
  ·have F':zah st n p:=F (by omega) (by omega);simp only [h3,jo,jl,jf];exact WQ (fun _=>WQ (fun _=>xl (by decide) fun _=>F') (fun _=>xl (by decide) fun _=>F')) (fun _=>WQ (fun _=>WQ (fun _=>xl (by decide) fun _=>F') (fun _=>xl (by decide) fun _=>F')) (fun _=>xl (by decide) fun _=>F'))
  ·simp (decide:=true) only [h3,jm,jk,jf];exact WQ (fun _=>WQ (fun _=>xl (by decide) fun q=>F (by grind) (by grind)) (fun _=>xl (by decide) fun q=>by grind)) (fun _=>xl (by decide) fun q=>by grind)
 ·simp only [e,jf,jj];exact .inr ⟨_,_,rfl,hf⟩
theorem zvV {st:CKt}(h:Vd st) (l:Sl Nd) (p:Sl PP) (hl:l.xs.length<=50000):LkQ True st (q4p (l,p,st)):=by
 unfold q4p q7q;simp only [vD,vE,jf,jh];by_cases hlen:Sl.len l=Sl.len p
 rotate_left
 ·simp only [hlen,jk,jj];exact .inr ⟨_,_,rfl,by simp⟩
 simp only [hlen,jl,ji];simp only [zu] at hlen
 rcases goE (f:=q5i q14 q1d) (n:=l.xs.length) (A:=CKt) (st:=fun i a=>(p,l,p.len,(i:Int),a)) (fin:=fun a =>.inr a) (J:=fun i a=>a=st) (bad:=fun r=>Vl (some r))
  (fun i hi a ha=>by
   subst ha;unfold q5i;simp only [jh,zj];rw [jr (by simp only [zu];omega),zr hi,jf,zr (s:=p) (show i < _ by omega),jf];rcases zna h l.xs[i] (p.xs[i]'(by omega)) with ⟨e,_⟩ | ⟨f,s,e,hf⟩
   ·rw [e,jf,ji,zL (by omega)];grind
   ·rw [e,jf,jj]
    exact .inr ⟨_,rfl,_,_,rfl,hf⟩)
  (fun a ha=>by
   unfold q5i;simp only [jh]
   rw [js (by simp only [zu];omega)])
  (a:=st) rfl with ⟨a,e,rfl⟩ | ⟨r,e,f,s,e2,hf⟩
 ·exact .inl ⟨e,trivial⟩
 ·cases e2;exact .inr ⟨_,_,e,hf⟩
theorem zvW (sg:Sl PSg) (n:Nd) (h:sg.xs.length<=50000):q6g (sg,n)=some (idx (fun x=>decide (x.N_=n.T_)) sg.xs,n):=by
 have:=WY (f:=q61 q3z) (xs:=sg.xs) (p:=fun x=>decide (x.N_=n.T_)) (st:=fun i=>(sg,sg.len,(i:Int),n)) (yes:=fun i =>.inl ((i:Int),n)) (no :=.inr n)
  (fun i hi=>by
   unfold q61;simp only [jh,zj];rw [jr (by simp only [zu];omega),zr hi,jf];show ((some (decide (sg.xs[i].N_=n.T_),q7.mk _ _ _ _ _)).bind _)=_;simp only [zj,jf,zL (show i < 1000000000 by omega)]
   grind)
  (by unfold q61;simp only [jh,zj];rw [js (by simp only [zu];omega)])
 unfold q6g qa4;simp only [zj];have this:lpO (q61 q3z) (sg,sg.len,0,n)=_:=this;rw [this];unfold idx;cases sg.xs.findIdx? _ <;> rfl
theorem zpL {p:α->Bool}{l:List α}{j:Nat}(h:idx p l=(j:Int)):∃ hj:j < l.length,p l[j]=true:=by
 unfold idx at h;cases e:l.findIdx? p with
 |none=>rw [e] at h;simp at h
 |some i=>
  obtain ⟨hi,hp,_⟩:=List.findIdx?_eq_some_iff_getElem.1 e;rw [e] at h;obtain rfl:i=j:=by have h:(i:Int)=j:=h;omega
  exact ⟨hi,hp⟩
theorem zpM {st:CKt}(h:Vd st) (n:Nd) (hn:n.K_.xs.length<=50000):LkP (fun p=>∃ s∈st.1.1.xs,s.N_=n.T_/\p=s.R_) st (q1s (n,st)):=by
 have e:=zvW st.1.1 n h.s;unfold q1s q7r;simp only [zj,e,jf,vE,jh];generalize hi:idx (fun x=>decide (x.N_=n.T_)) st.1.1.xs=i;by_cases h1:0<=i
 rotate_left
 ·simp only [h1,jk,jj];exact .inr ⟨_,_,rfl,by simp⟩
 obtain ⟨j,rfl⟩:∃ j:Nat,i=(j:Int):=⟨_,(U9 h1).symm⟩
 obtain ⟨hj,hq⟩:=zpL hi;simp only [h1,jl,ji,zr (s:=st.1.1) hj,jf];rcases zvV h n.K_ (st.1.1.xs[j]'(by omega)).P_ hn with ⟨e,_⟩ | ⟨f,s,e,hf⟩
 ·simp only [e,jf,ji,zr (s:=st.1.1) hj];exact .inl ⟨_,rfl,_,jx hj,by simpa using hq,rfl⟩
 ·simp only [e,jf,jj];exact .inr ⟨_,_,rfl,hf⟩
def LkE (Q:PP->Prop) (st:CKt) (r:G3 (PP×CKt⊕(Int×Int)×CKt)):Prop:=(∃ p,r=some (.inl (p,st))/\Q p)\/∃ f s,r=some (.inr (f,s))/\f.2≠0
def wP (st:CKt) (n:Nd):Prop:=n.k_≠23/\n.k_≠24/\n.k_≠25/\(n.k_=28->∃ s∈st.1.1.xs,s.N_=n.T_)
theorem zpN (h:OkP t v) (h1:p.M_=v.M_) (h2:p.t_=v.t_):OkP t p:=by
 unfold OkP at *;rw [h1,h2];exact h
theorem zvX {st:CKt}(h:Vd st) (g:ExprG n) (hn:n.K_.xs.length<=50000):LkE (fun p=>OkP st.1.2.1.xs p/\wP st n) st (q1z (n,st)):=by
 have fin5:LkE (fun p=>OkP st.1.2.1.xs p/\wP st n) st (some (Sum.inr ((st.1.2.2.1,50),st))) :=.inr ⟨_,_,rfl,by simp⟩;have num:OkP st.1.2.1.xs ⟨lit [],1,0⟩ :=.inl ⟨rfl,rfl⟩;unfold q1z q7s;simp only [zj,vE];cases g with
 |term h5 h0=>
  have S:wP st n:=by simp [wP,h5]
  simp only [h5,jo,jl];by_cases ht:n.T_=lit []
  ·simp only [ht,jo,jl,jf,jj];exact .inl ⟨_,rfl,num,S⟩
  simp only [ht,jm,jg,jk];rcases zaJ h n.T_ with ⟨k,e,v,hv,k1,k2⟩ | ⟨f,s,e,hf⟩
  rotate_left
  ·simp only [e,jf,jj,ji];exact .inr ⟨_,_,rfl,hf⟩
  have kk:=zpN (hv.ok h) k1 k2;simp only [e,jf,jj,ji,jh];by_cases hz:n.n_=0
  ·simp only [hz,jl,jf,jj,ji];exact .inl ⟨_,rfl,kk,S⟩
  simp only [hz,jk,jf];by_cases hm:k.M_=1
  ·simp only [hm,jl,jf,jj,ji];exact .inl ⟨_,rfl,kk,S⟩
  ·simp only [hm,jk,jf,jj,ji];exact .inr ⟨_,_,rfl,by simp⟩
 |leaf h5 h0=>
  rcases h5 with h5 | h5 | h5 | h5
  ·simp (decide:=true) only [h5,jm,jo,jl,jk,jg,jf,jj,ji];exact fin5
  ·simp (decide:=true) only [h5,jm,jo,jl,jk,jg,jf,jj,ji];exact fin5
  all_goals
   have S:wP st n:=by simp [wP,h5]
   rcases zaJ h n.T_ with ⟨k,e,v,hv,k1,k2⟩ | ⟨f,s,e,hf⟩
   ·have kk:=zpN (hv.ok h) k1 k2;simp (decide:=true) only [h5,jm,jo,jl,jk,jg,jf,jj,ji,e,jh];by_cases hm:k.M_=2
    ·simp only [hm,jl,jf,jj,ji];refine .inl ⟨_,rfl,.inr ?_,S⟩;rcases kk with kk | kk
     ·omega
     ·exact ⟨by simp,by simp,kk.2.2⟩
    ·simp only [hm,jk,jf,jj,ji];exact .inr ⟨_,_,rfl,by simp⟩
   ·simp (decide:=true) only [h5,jm,jo,jl,jk,jg,jf,jj,ji,e];exact .inr ⟨_,_,rfl,hf⟩
 |call h5=>
  rcases zpM h n hn with ⟨k,e,s,hs,hsn,hk⟩ | ⟨f,s,e,hf⟩
  ·have S:wP st n:=by rw [wP,h5.1];exact ⟨by simp,by simp,by simp,fun _=>⟨s,hs,hsn⟩⟩
   have ho:=h.g s hs;rw [<- hk] at ho;simp (decide:=true) only [h5.1,jm,jo,jl,jk,jg,jf,jj,ji,e,jh];by_cases hm:k.M_=0
   ·simp (decide:=true) only [hm,jl,jk,jf,jj,ji];exact .inr ⟨_,_,rfl,by simp⟩
   ·simp (decide:=true) only [hm,jk,jl,Ui,jq,jf,jj,ji];exact .inl ⟨_,rfl,ho.resolve_left hm,S⟩
  ·simp (decide:=true) only [h5.1,jm,jo,jl,jk,jg,jf,jj,ji,e];exact .inr ⟨_,_,rfl,hf⟩
 |load h5 _ _=>
  simp (decide:=true) only [h5,jm,jo,jl,jk,jg,jf,jj,ji];exact fin5
 | @two x y h5 h6 _ _=>
  have g0:zd n.K_ 0=some x:=by rw [h6];rfl
  have g1:zd n.K_ 1=some y:=by rw [h6];rfl
  have S:wP st n:=by rcases h5 with h5 | h5 <;> simp [wP,h5]
  rcases zaJ h x.T_ with ⟨k,e,_⟩ | ⟨f,s,e,hf⟩
  rotate_left
  ·rcases h5 with h5 | h5 <;>
   ·simp (decide:=true) only [h5,jm,jo,jl,jk,jg,jf,jj,ji,g0,g1,e];exact .inr ⟨_,_,rfl,hf⟩
  rcases zaJ h y.T_ with ⟨k2,e2,_⟩ | ⟨f,s,e2,hf⟩
  rotate_left
  ·rcases h5 with h5 | h5 <;>
   ·simp (decide:=true) only [h5,jm,jo,jl,jk,jg,jf,jj,ji,g0,g1,e,e2];exact .inr ⟨_,_,rfl,hf⟩
  by_cases hm:k.M_=1 <;> by_cases hm2:k2.M_=1 <;> rcases h5 with h5 | h5 <;>
   simp (decide:=true) only [h5,jm,jo,jl,jk,jg,jf,jj,ji,g0,g1,e,e2,hm,hm2] <;>
   first | exact .inl ⟨_,rfl,num,S⟩ | exact .inr ⟨_,_,rfl,by simp⟩
structure Gr (m:Nat) (a b:CKt):Prop where
 s:b.1.1=a.1.1
 t:b.1.2.1=a.1.2.1
 j:b.1.2.2.2=a.1.2.2.2
 l:b.2.xs.length=a.2.xs.length
 f:∀ i (h:i < a.2.xs.length) (h':i < b.2.xs.length),b.2.xs[i].N_=a.2.xs[i].N_/\b.2.xs[i].P_=a.2.xs[i].P_/\∃ ex,b.2.xs[i].V_.xs=a.2.xs[i].V_.xs++ex/\ex.length<=m
 k:(∀ f∈a.2.xs,VarsG a.1.2.1.xs f.V_.xs)->∀ f∈b.2.xs,VarsG b.1.2.1.xs f.V_.xs
 o:∀ i:Nat,(i:Int)≠a.1.2.2.2->b.2.xs[i]?=a.2.xs[i]?
theorem Gr.refl {a b:CKt}(h1:b.1.1=a.1.1) (h2:b.1.2.1=a.1.2.1) (h3:b.1.2.2.2=a.1.2.2.2) (h4:b.2=a.2):Gr 0 a b:=
 ⟨h1,h2,h3,by rw [h4],fun i h h'=>by simp only [h4];exact ⟨trivial,trivial,[],by simp⟩,by rw [h2,h4];exact id,fun i _=>by rw [h4]⟩
theorem Gr.trans {a b c:CKt}(h:Gr m a b) (g:Gr k b c):Gr (m+k) a c:=
 ⟨g.s.trans h.s,g.t.trans h.t,g.j.trans h.j,g.l.trans h.l,fun i h1 h2=>by
  have hb:i < b.2.xs.length:=by rw [h.l];exact h1
  obtain ⟨n1,p1,x1,v1,l1⟩:=h.f i h1 hb;obtain ⟨n2,p2,x2,v2,l2⟩:=g.f i hb h2
  exact ⟨n2.trans n1,p2.trans p1,x1++x2,by rw [v2,v1,Ub],by rw [jt];omega⟩,fun q=>g.k (h.k q),fun i hi=>(g.o i (by rw [h.j];exact hi)).trans (h.o i hi)⟩
theorem Gr.mono {a b:CKt}(h:Gr m a b) (hm:m<=k):Gr k a b:=
 ⟨h.s,h.t,h.j,h.l,fun i h1 h2=>by obtain ⟨n1,p1,x1,v1,l1⟩:=h.f i h1 h2;exact ⟨n1,p1,x1,v1,by omega⟩,h.k,h.o⟩
def Vc (k:Nat) (st:CKt):Prop:=Vd st/\∀ f∈st.2.xs,f.V_.xs.length+k<=60000
theorem Vc.gr {a b:CKt}(h:Vc (m+k) a) (g:Gr m a b):Vc k b:=by
 have key:∀ f∈b.2.xs,f.V_.xs.length+k<=60000/\0<=f.P_/\f.P_<=f.V_.xs.length:=by
  intro f hf;obtain ⟨i,hi,rfl⟩:=List.getElem_of_mem hf;have ha:i < a.2.xs.length:=by rw [<- g.l];exact hi
  obtain ⟨n1,p1,x1,v1,l1⟩:=g.f i ha hi;have h1:=h.2 _ (jx ha);have h2:=h.1.v _ (jx ha);have h3:=congrArg List.length v1;rw [jt] at h3;exact ⟨by omega,by rw [p1];omega,by rw [p1];omega⟩
 obtain ⟨jn,e,hj⟩:=h.1.j;exact ⟨⟨⟨jn,by rw [g.j,e],by rw [g.l];exact hj⟩,fun f hf=>⟨by have:=(key f hf).1;omega,(key f hf).2⟩,by rw [g.s];exact h.1.s,by rw [g.l];exact h.1.f,g.k h.1.k,by rw [g.s,g.t];exact h.1.g⟩,fun f hf=>(key f hf).1⟩
theorem Vc.mono {a:CKt}(h:Vc m a) (hk:k<=m):Vc k a:=⟨h.1,fun f hf=>by have:=h.2 f hf;omega⟩
def Sp (m:Nat) (a:CKt) (r:G3 FTt):Prop:=(∃ b,r=some (.inr b)/\Gr m a b)\/Vl r
theorem zxh {st:CKt}(h:Vc 1 st) (n:G0) (p:PP) (hp:OkP st.1.2.1.xs p):Sp 1 st (q2q (n,p,st)):=by
 obtain ⟨⟨sg,t,a,j⟩,fns⟩:=st;obtain ⟨⟨⟨jn,rfl,hj⟩,hv,hs,hf,_,_⟩,hb⟩:=h;simp only at hj hv hb hp;have hv:=(hv _ (jx hj)).1;have hb:=hb _ (jx hj);unfold q2q q8h;simp only [zr hj,jf,vD];rw [zgB _ _ (by simp only;omega)];simp only [jf,jh];by_cases h1:0<=idP n fns.xs[jn].V_.xs
 ·have h2:idP n fns.xs[jn].V_.xs < fns.xs[jn].V_.xs.length:=xK.2.1;obtain ⟨i,hi⟩:∃ i:Nat,idP n fns.xs[jn].V_.xs=(i:Int):=⟨_,(U9 h1).symm⟩
  rw [hi] at h2 h1;simp only [hi,h1,jl,zr (s:=fns.xs[jn].V_) (show i < _ by omega),jf];rcases xl (ok:=decide (fns.xs[jn].V_.xs[i].N_=n) && (decide (fns.xs[jn].V_.xs[i].M_=p.M_) && (decide (fns.xs[jn].V_.xs[i].t_=p.t_) && true))) (Q:=True) (e:=40) (s:=((sg,t,a,(jn:Int)),fns)) (by decide) (fun _=>trivial) with ⟨e,_⟩ | e
  ·exact .inl ⟨_,e,(Gr.refl rfl rfl rfl rfl).mono (by omega)⟩
  ·exact .inr e
 ·simp only [h1,jk,jo,Uv];rw [yT (by omega) (by omega),jf];refine .inl ⟨_,rfl,rfl,rfl,rfl,by simp [Sl.set],fun i h1 h2=>?_,fun q f hf=>?_,fun i hi=>?_⟩;simp only [Sl.set,Int.toNat_natCast,List.getElem_set];by_cases hij:jn=i
  ·subst hij;simp only [jl];exact ⟨trivial,trivial,[⟨n,p.M_,p.t_⟩],rfl,by simp⟩
  ·simp only [hij,jk];exact ⟨trivial,trivial,[],by simp⟩
  ·simp only [Sl.set,Int.toNat_natCast] at hf;rcases List.mem_or_eq_of_mem_set hf with hf | rfl
   ·exact q f hf
   ·exact (q _ (jx hj)).snoc (p:=⟨n,p.M_,p.t_⟩) hp (by show idP n _ < 0;omega)
  ·simp only [Sl.set,Int.toNat_natCast,GH];rw [js (by simp only at hi;omega)]
theorem zxi (fs:Sl PNf) (n:Nd) (h:fs.xs.length<=50000):q35 (fs,n)=some (idx (fun x=>decide (x.N_=n.T_)) fs.xs,fs,n):=by
 have:=WY (f:=q5j q3o) (xs:=fs.xs) (p:=fun x=>decide (x.N_=n.T_)) (st:=fun i=>(fs.len,(i:Int),fs,n)) (yes:=fun i =>.inl ((i:Int),fs,n)) (no :=.inr (fs,n))
  (fun i hi=>by
   unfold q5j;simp only [jh,zj];rw [jr (by simp only [zu];omega),zr hi,jf,jf,jf];show ((some (decide (fs.xs[i].N_=n.T_))).bind _)=_;simp only [jf,zL (show i < 1000000000 by omega)]
   grind)
  (by unfold q5j;simp only [jh,zj];rw [js (by simp only [zu];omega)])
 unfold q35 q9g;simp only [zj];have this:lpO (q5j q3o) (fs.len,0,fs,n)=_:=this;rw [this];unfold idx;cases fs.xs.findIdx? _ <;> rfl
inductive AllN (p:Nd->Prop):Nd->Prop
 |mk {n:Nd}:p n->(∀ k∈n.K_.xs,AllN p k)->AllN p n
theorem AllN.mono {p q:Nd->Prop}(h:∀ n,p n->q n) (a:AllN p n):AllN q n:=by
 induction a with
 |mk a b ih=>exact .mk (h _ a) ih
def zxj (st:CKt) (n:Nd):Prop:=∃ (k:Nat) (f:PNf),idx (fun x=>decide (x.N_=n.T_)) st.2.xs=(k:Int)/\st.2.xs[k]?=some f/\(n.K_.xs.length:Int)=f.P_/\∀ (i:Nat) (a:Nd),n.K_.xs[i]?=some a->∃ p,f.V_.xs[i]?=some p/\zah st a p
structure pN (st:CKt) (n:Nd):Prop where
 b:n.k_≠1/\n.k_≠11/\n.k_≠12/\n.k_≠13/\n.k_≠14/\n.k_≠23/\n.k_≠24/\n.k_≠25
 c:n.k_=28->∃ s∈st.1.1.xs,s.N_=n.T_
 f:n.k_=19->zxj st n
 r:n.k_=17->n.K_.xs=[]
theorem zlA {p:α->Bool}{l ex:List α}(h:idx p l=(i:Int)):idx p (l++ex)=(i:Int):=by
 unfold idx at h |-
 rw [List.findIdx?_append];cases e:l.findIdx? p with
 |none=>rw [e] at h;simp at h
 |some j=>rw [e] at h;simpa using h
theorem zbM.gr {a b:CKt}(g:Gr m a b) {n:G0}(h:zbM a n v):zbM b n v:=by
 obtain ⟨f,⟨j,hj,hf⟩,i,hi,hv⟩:=h;obtain ⟨hj',rfl⟩:=GC.1 hf;have hb:j < b.2.xs.length:=by rw [g.l];exact hj'
 obtain ⟨_,_,ex,v1,_⟩:=g.f j hj' hb;refine ⟨_,⟨j,g.j.trans hj,GI hb⟩,i,by rw [v1];exact zlA hi,?_⟩;rw [v1,Ud (by obtain ⟨h,_⟩:=GC.1 hv;exact h)];exact hv
theorem zah.gr {a b:CKt}(g:Gr m a b) (h:zah a n p):zah b n p:=by
 rcases h with h | ⟨h,v,hv,h1,h2⟩
 ·exact .inl h
 ·exact .inr ⟨h,v,hv.gr g,h1,h2⟩
theorem zke {a b:CKt}(g:Gr m a b) (y:G0):idx (fun x=>decide (x.N_=y)) b.2.xs=idx (fun x=>decide (x.N_=y)) a.2.xs:=by
 have e:b.2.xs.map qb.N_=a.2.xs.map qb.N_:=by
  refine List.ext_getElem (by simp [g.l]) fun i h1 h2=>?_
  simp only [List.getElem_map];exact (g.f i (by simpa using h2) (by simpa using h1)).1
 have h1:=zdk qb.N_ (fun x=>decide (x=y)) b.2.xs;have h2:=zdk qb.N_ (fun x=>decide (x=y)) a.2.xs;rw [e] at h1;exact h1.symm.trans h2
theorem pN.gr {a b:CKt}(g:Gr m a b) (h:pN a n):pN b n:=by
 refine ⟨h.b,fun c=>by rw [g.s];exact h.c c,fun c=>?_,h.r⟩;obtain ⟨k,f,h1,h2,h3,h4⟩:=h.f c;obtain ⟨hk,rfl⟩:=GC.1 h2;have hb:k < b.2.xs.length:=by rw [g.l];exact hk
 obtain ⟨_,g2,ex,v1,_⟩:=g.f k hk hb;refine ⟨k,_,(zke g _).trans h1,GI hb,by rw [g2];exact h3,fun i x hx=>?_⟩;obtain ⟨p,p1,p2⟩:=h4 i x hx;refine ⟨p,?_,p2.gr g⟩;rw [v1,Ud (by obtain ⟨h,_⟩:=GC.1 p1;exact h)];exact p1
theorem YH {st:CKt}{k:Nd}(h:ym k):AllN (pN st) k :=.mk ⟨by simp [h.2],by simp [h.2],by simp [h.2],by simp [h.2]⟩ (by rw [h.1];simp [nilS])
theorem zpO {st:CKt}(g:ExprG n) (s:wP st n):AllN (pN st) n:=by
 obtain ⟨s1,s2,s3,s4⟩:=s;cases g with
 |term h5 h0=>exact YH ⟨h0,h5⟩
 |leaf h5 h0=>
  refine .mk ⟨?_,s4,?_,?_⟩ (by rw [show n.K_=nilS from h0];simp [nilS])
  all_goals rcases h5 with h5 | h5 | h5 | h5 <;> simp_all
 |call h5=>exact .mk ⟨by simp [h5.1],s4,by simp [h5.1],by simp [h5.1]⟩ fun k hk=>YH (h5.2 k hk)
 |load h5 _ _=>exact absurd h5 s3
 | @two x y h5 h6 hx hy=>
  refine .mk ⟨?_,s4,?_,?_⟩ fun k hk=>?_
  ·rcases h5 with h5 | h5 <;> simp [h5]
  ·rcases h5 with h5 | h5 <;> simp [h5]
  ·rcases h5 with h5 | h5 <;> simp [h5]
  ·rw [h6] at hk;rcases Ua.1 hk with rfl | hk
   ·exact YH hx
   ·rw [Uw] at hk;subst hk;exact YH hy
theorem zuw {st:CKt}(h:Vd st) (l:Sl Nd) (hl:l.xs.length<=50000) (hk:k < st.2.xs.length):LkQ ((l.xs.length:Int)=st.2.xs[k].P_/\∀ (i:Nat) (a:Nd),l.xs[i]?=some a->∃ p,st.2.xs[k].V_.xs[i]?=some p/\zah st a p) st (q1p (l,((k:Int),0,st.2.xs[k].P_),st)):=by
 obtain ⟨v1,v2,v3⟩:=h.v _ (jx hk);have hgs:=wd (s:=st.2.xs[k].V_) (lo:=0) (hi:=st.2.xs[k].P_) (by omega) v2 v3;rw [show (0:Int).toNat=0 from rfl,Uq] at hgs;unfold q1p q67;simp only [vD,vE,jf,jh,zr hk,hgs];by_cases hlen:Sl.len l=st.2.xs[k].P_ - 0
 rotate_left
 ·simp only [hlen,jk,jj];exact .inr ⟨_,_,rfl,by simp⟩
 simp only [hlen,jl,ji];simp only [zu] at hlen
 rcases goE (f:=q4r q14 q1d) (n:=l.xs.length) (A:=CKt) (st:=fun i a=>(((k:Int),0,st.2.xs[k].P_),l,st.2.xs[k].P_ - 0,(i:Int),a)) (fin:=fun a =>.inr a) (J:=fun i a=>a=st/\∀ (j:Nat) (x:Nd),j < i->l.xs[j]?=some x->∃ p,st.2.xs[k].V_.xs[j]?=some p/\zah st x p) (bad:=fun r=>Vl (some r))
  (fun i hi a ha=>by
   obtain ⟨ha,hq⟩:=ha;subst ha;unfold q4r;simp only [jh,zj];have hi2:i < a.2.xs[k].V_.xs.length:=by omega
   rw [jr (by omega),zr hi,jf,zr hk,jf,hgs,jf];rw [zr (s:=⟨_,_⟩) (by grind)];simp only [jf,Int.zero_add];rw [zr hi2,jf];rcases zna h l.xs[i] (a.2.xs[k].V_.xs[i]) with ⟨e,q⟩ | ⟨f,s,e,hf⟩
   ·rw [e,jf,ji,zL (by omega)];refine .inl ⟨a,rfl,rfl,fun j x hj hx=>?_⟩;by_cases c:j < i
    ·exact hq j x c hx
    ·obtain rfl:j=i:=by omega
     rw [GI hi] at hx;cases hx;exact ⟨_,GI hi2,q⟩
   ·rw [e,jf,jj]
    exact .inr ⟨_,rfl,_,_,rfl,hf⟩)
  (fun a ha=>by
   unfold q4r
   grind)
  (a:=st) ⟨rfl,fun j x hj=>by omega⟩ with ⟨a,e,rfl,q⟩ | ⟨r,e,f,s,e2,hf⟩
 ·refine .inl ⟨e,by omega,fun i x hx=>q i x ?_ hx⟩;obtain ⟨h,_⟩:=GC.1 hx;exact h
 ·cases e2;exact .inr ⟨_,_,e,hf⟩
abbrev X7:PP:=⟨lit [],1,0⟩
noncomputable abbrev LF (F:Nat):=q1w q1z q2q q1s q35 q14 q1p q1d (q27 F)
def StP (s:Nd):Prop:=∀ F (st:CKt) (l:Sl Nd) (i:Nat) (hi:i < l.xs.length),l.xs[i]=s->l.xs.length<=50000->zn s<=F->Vc (zn s) st->
 (∃ b,LF F (l,l.len,(i:Int),st.1,st.2,X7)=some (.next (l,l.len,((i+1:Nat):Int),b.1,b.2,X7))/\Gr (zn s) st b/\AllN (pN b) s)\/∃ r,LF F (l,l.len,(i:Int),st.1,st.2,X7)=some (.done r)/\Vl (some r)
def BlP (n:Nat) (ks:Sl Nd):Prop:=∀ F (st:CKt),n<=F->Vc n st->(∃ b,q27 F (ks,st)=some (.inr b)/\Gr n st b/\∀ s∈ks.xs,AllN (pN b) s)\/Vl (q27 F (ks,st))
theorem zlB {ks:Sl Nd}(h:∀ s∈ks.xs,StP s) (hl:ze ks.xs<=40000):BlP (ze ks.xs+1) ks:=by
 intro F st hF hv;obtain ⟨F,rfl⟩:∃ k,F=k+1:=⟨F - 1,by omega⟩
 have hk:=vh ks.xs
 rcases goE (f:=LF F) (n:=ks.xs.length) (A:=CKt) (st:=fun i a=>(ks,ks.len,(i:Int),a.1,a.2,X7)) (fin:=fun a =>.inr a) (J:=fun i a=>Gr (ze (ks.xs.take i)) st a/\∀ s∈ks.xs.take i,AllN (pN a) s) (bad:=fun r=>Vl (some r))
  (fun i hi a ha=>by
   have hz:=wO hi;obtain ⟨ha,hq⟩:=ha;have ha2:Vc (zn ks.xs[i]) a:=Vc.gr (hv.mono (show ze (ks.xs.take i)+zn ks.xs[i]<=_ by omega)) ha;rcases h _ (jx hi) F a ks i hi rfl (by omega) (by omega) ha2 with ⟨b,e,g,q⟩ | hb
   ·refine .inl ⟨b,e,?_⟩;rw [<- UA hi,zX];refine ⟨(ha.trans g).mono (by simp [ze]),fun s hs=>?_⟩;rcases G5.1 hs with hs | hs
    ·exact (hq s hs).mono fun n=>pN.gr g
    ·rw [Uw] at hs;subst hs;exact q
   ·exact .inr hb)
  (fun a ha=>by
   show q1w _ _ _ _ _ _ _ _ _=_;unfold q1w;simp only [jh]
   rw [js (by simp only [zu];omega)])
  (a:=st) ⟨(Gr.refl rfl rfl rfl rfl).mono (by omega),by simp⟩ with ⟨a,e,g,q⟩ | ⟨r,e,f,s,e2,hf⟩
 ·rw [List.take_length] at g q;refine .inl ⟨a,?_,g.mono (by omega),q⟩;exact congrArg (fun o=>Option.bind o fun y=>Sum.elim (fun a=>some (Sum.inl a)) (fun b=>some (Sum.inr b)) y) e
 ·cases e2;exact .inr ⟨f,s,congrArg (fun o=>Option.bind o fun y=>Sum.elim (fun a=>some (Sum.inl a)) (fun b=>some (Sum.inr b)) y) e,hf⟩
abbrev XT:=(Int×Int)×CKt⊕Sl Nd×Int×Int×(Sl PSg×Sl PT×Int×Int)×Sl PNf×PP
def znb (R:CKt->Prop) (l:Sl Nd) (i:Nat) (X:G3 XT):Prop:=(∃ b,X=some (.inr (l,l.len,(i:Int),b.1,b.2,X7))/\R b)\/Vl X
theorem zsA {R:CKt->Prop}{l:Sl Nd}{X:G3 XT}(h:znb R l i X) (hi:i < 1000000000) :
    (∃ b:CKt,(X.bind fun y68=>Sum.elim (fun y69=>some (Step.done (Sum.inl y69:FTt))) (fun y70=>some (Step.next (y70.1,y70.2.1,G4 (y70.2.2.1+1),y70.2.2.2))) y68)=some (.next (l,l.len,((i+1:Nat):Int),b.1,b.2,X7))/\R b)\/
    ∃ r,(X.bind fun y68=>Sum.elim (fun y69=>some (Step.done (Sum.inl y69:FTt))) (fun y70=>some (Step.next (y70.1,y70.2.1,G4 (y70.2.2.1+1),y70.2.2.2))) y68)=some (.done r)/\Vl (some r):=by
  rcases h with ⟨b,rfl,g⟩ | ⟨f,s,rfl,hf⟩
  ·exact .inl ⟨b,by simp only [jf,ji,zL hi],g⟩
  ·exact .inr ⟨_,by simp only [jf,jj];rfl,_,_,rfl,hf⟩
def atS (st:CKt) (a:Int):CKt:=((st.1.1,st.1.2.1,a,st.1.2.2.2),st.2)
theorem Vd.at {st:CKt}(h:Vd st) (a:Int):Vd (atS st a):=⟨h.j,h.v,h.s,h.f,h.k,h.g⟩
theorem Vc.at {st:CKt}(h:Vc k st) (a:Int):Vc k (atS st a):=⟨h.1.at a,h.2⟩
theorem Gr.at {st b:CKt}(h:Gr m (atS st a) b):Gr m st b:=⟨h.s,h.t,h.j,h.l,h.f,h.k,h.o⟩
theorem g0 {st:CKt}:Gr m st (atS st a):=(Gr.refl (a:=st) (b:=atS st a) rfl rfl rfl rfl).mono (GL _)
theorem zlC {k:Nd}(h:n.K_=⟨[k],true⟩) (hn:zn n<=40000):k.K_.xs.length<=50000:=by
 have a:=@YQ n k (by rw [h];simp);have b:=@ZV k;omega
theorem vF {s:Nd}(g:StmtG s) (hz:zn s<=40000) (h15:s.k_≠15) (h16:s.k_≠16):StP s:=by
 intro F st l i hi hs hl hF hv;show (∃ b,q1w _ _ _ _ _ _ _ _ _=_/\_)\/∃ r,q1w _ _ _ _ _ _ _ _ _=_/\_
 unfold q1w;simp only [jh,zj,vD];rw [jr (by simp only [zu];omega),zr hi,hs,jf];refine zsA ?_ (by omega);have hv':=hv.1.at s.a_;have bad:∀ {e:Int},e≠0->znb (fun b=>Gr (zn s) st b/\AllN (pN b) s) l i (some (.inl ((s.a_,e),atS st s.a_))):=fun he =>.inr ⟨_,_,rfl,he⟩
 have ok:AllN (pN (atS st s.a_)) s->znb (fun b=>Gr (zn s) st b/\AllN (pN b) s) l i (some (.inr (l,l.len,(i:Int),(atS st s.a_).1,(atS st s.a_).2,X7))):=fun h =>.inl ⟨_,rfl,g0,h⟩
 have hm:∀ (b:Bool) (e:Int),q14 (b,e,(st.1.1,st.1.2.1,s.a_,st.1.2.2.2),st.2)=some (if b=true then .inr (atS st s.a_) else .inl ((s.a_,e),atS st s.a_)):=fun b e=>vE b e (atS st s.a_)
 cases g with
 | @leaf k t n a c=>
  rcases c with rfl | rfl | rfl | rfl | rfl
  ·simp (decide:=true) only [jo,jm,jl,jk,jg,jf,jj,ji,hm];grind
  ·simp (decide:=true) only [jo,jm,jl,jk,jg,jf,jj,ji,hm];grind
  ·simp (decide:=true) only [jo,jm,jl,jk,jg,jf,jj,ji,hm];grind
  ·simp (decide:=true) only [jo,jm,jl,jk,jg,jf,jj,ji,hm,show (nilS:Sl Nd).len=0 from rfl];exact ok (.mk ⟨by simp,by simp,by simp,fun _=>rfl⟩ (by simp [nilS]))
  ·simp (decide:=true) only [jo,jm,jl,jk,jg,jf,jj,ji,hm];exact ok (.mk ⟨by simp,by simp,by simp,by simp⟩ (by simp [nilS]))
 |ite=>grind
 |whl=>grind
 |ret c=>
  simp (decide:=true) only [jo,jm,jl,jk,jg,jf,jj,ji,hm,show ∀ x:Nd,Sl.len (⟨[x],true⟩:Sl Nd)=1 from fun _=>rfl];grind
 | @fork t n a ks c=>
  have hkl:=@ZV ⟨19,t,n,a,ks⟩;have e:=zxi st.2 ⟨19,t,n,a,ks⟩ hv.1.f;generalize hx:idx (fun x:PNf=>decide (x.N_=(q7.mk 19 t n a ks).T_)) st.2.xs=x at e;simp (decide:=true) only [jo,jm,jl,jk,jg,jf,hm,e];by_cases h1:0<=x
  rotate_left
  ·grind
  obtain ⟨k,rfl⟩:∃ k:Nat,x=(k:Int):=⟨_,(U9 h1).symm⟩
  obtain ⟨hk,hkn⟩:=zpL hx;obtain ⟨v1,v2,v3⟩:=hv.1.v _ (jx hk);simp only [h1,jo,jl,ji];rw [show (atS st a).2=st.2 from rfl];simp only [zr hk,jf,wd (s:=st.2.xs[k].V_) (lo:=0) (hi:=st.2.xs[k].P_) (by omega) v2 v3];rcases zuw (st:=atS st a) hv' ks (by grind) (k:=k) hk with ⟨e,q1,q2⟩ | ⟨f,s,e,hf⟩
  ·have e:q1p (ks,((k:Int),0,st.2.xs[k].P_),atS st a)=_:=e;simp only [e,jf,ji];exact ok (.mk ⟨by simp,by simp,fun _=>⟨k,_,hx,GI hk,q1,q2⟩,by simp⟩ fun k hk=>YH (c k hk))
  ·have e:q1p (ks,((k:Int),0,st.2.xs[k].P_),atS st a)=_:=e;simp only [e,jf,jj];exact .inr ⟨_,_,rfl,hf⟩
 | @call t n a x c=>
  rcases zpM (st:=atS st a) hv' x (zlC (n:=⟨20,t,n,a,⟨[x],true⟩⟩) rfl hz) with ⟨p,e,q,hq,hqn,_⟩ | ⟨f,s,e,hf⟩
  ·have e:q1s (x,(st.1.1,st.1.2.1,a,st.1.2.2.2),st.2)=_:=e;simp (decide:=true) only [jo,jm,jl,jk,jg,jf,show zd (⟨[x],true⟩:Sl Nd) 0=some x from rfl,e,ji];refine ok (.mk ⟨by simp,by simp,by simp,by simp⟩ fun k hk=>?_);obtain rfl:=Uw.1 hk;exact .mk ⟨by simp [c.1],fun _=>⟨q,hq,hqn⟩,by simp [c.1],by simp [c.1]⟩ fun k hk=>YH (c.2 k hk)
  ·have e:q1s (x,(st.1.1,st.1.2.1,a,st.1.2.2.2),st.2)=_:=e;simp (decide:=true) only [jo,jm,jl,jk,jg,jf,show zd (⟨[x],true⟩:Sl Nd) 0=some x from rfl,e,jj];exact .inr ⟨_,_,rfl,hf⟩
 |store c d=>
  simp (decide:=true) only [jo,jm,jl,jk,jg,jf,jj,ji,hm];grind
 | @set t n a x c=>
  rcases zvX (st:=atS st a) hv' c (zlC (n:=⟨10,t,n,a,⟨[x],true⟩⟩) rfl hz) with ⟨p,e,hp,hE⟩ | ⟨f,s,e,hf⟩
  ·have e:q1z (x,(st.1.1,st.1.2.1,a,st.1.2.2.2),st.2)=_:=e;simp (decide:=true) only [jo,jm,jl,jk,jg,jf,show zd (⟨[x],true⟩:Sl Nd) 0=some x from rfl,e,jj];rcases zxh (st:=atS st a) ((hv.mono (ZR _)).at a) t p hp with ⟨b,e,g⟩ | ⟨f,s,e,hf⟩
   ·simp only [e,jf,ji];refine .inl ⟨b,rfl,(g.mono (ZR _)).at,.mk ⟨by simp,by simp,by simp,by simp⟩ fun k hk=>?_⟩;obtain rfl:=Uw.1 hk;exact (zpO c hE).mono fun n=>pN.gr g
   ·simp only [e,jf,jj];exact .inr ⟨_,_,rfl,hf⟩
  ·have e:q1z (x,(st.1.1,st.1.2.1,a,st.1.2.2.2),st.2)=_:=e;simp (decide:=true) only [jo,jm,jl,jk,jg,jf,show zd (⟨[x],true⟩:Sl Nd) 0=some x from rfl,e,ji];exact .inr ⟨_,_,rfl,hf⟩
theorem zfA {k:Int}{op:G0}{n:Int}{x y:Nd}{bs:List Nd}(hk:k=15\/k=16) (hz:zn ⟨k,op,n,a,⟨x::y::bs,true⟩⟩<=40000) (hx:ym x) (hy:ym y) (hb:∀ b∈bs,b.k_=9/\BlP (zn b) b.K_):StP ⟨k,op,n,a,⟨x::y::bs,true⟩⟩:=by
 intro F st l i hi hs hl hF hv;have hsz:zn ⟨k,op,n,a,⟨x::y::bs,true⟩⟩=zn x+(zn y+ze bs)+1:=by rw [zk];simp [ze]
 have px:=ZR x;have py:=ZR y;show (∃ b,q1w _ _ _ _ _ _ _ _ _=_/\_)\/∃ r,q1w _ _ _ _ _ _ _ _ _=_/\_
 unfold q1w;simp only [jh,zj,vD];rw [jr (by simp only [zu];omega),zr hi,hs,jf];refine zsA ?_ (by omega);have hv':=hv.1.at a;have hgs:Zv (⟨x::y::bs,true⟩:Sl Nd) 2 (⟨x::y::bs,true⟩:Sl Nd).len=some ⟨bs,true⟩:=by
  rw [wd (by omega) (by simp only [zu,ju];omega) (by simp only [zu];omega)];simp only [zu,Int.toNat_natCast,List.take_length];rfl
 have hbl:=vh bs;have hf:∀ z:Nd,LkQ (zah (atS st a) z X7) (atS st a) (q1d (z,X7,(st.1.1,st.1.2.1,a,st.1.2.2.2),st.2)):=fun z=>zna hv' z X7
 have main:znb (fun c=>Gr (zn ⟨k,op,n,a,⟨x::y::bs,true⟩⟩) st c/\AllN (pN c) ⟨k,op,n,a,⟨x::y::bs,true⟩⟩) l i ((lpO (q40 q1z q2q q1s q35 q14 q1p q1d (q27 F)) (l,l.len,(i:Int),⟨bs,true⟩,(⟨bs,true⟩:Sl Nd).len,0,(atS st a).1,(atS st a).2,X7))):=by
  rcases goE (f:=q40 q1z q2q q1s q35 q14 q1p q1d (q27 F)) (n:=bs.length) (A:=CKt)
   (st:=fun j c=>(l,l.len,(i:Int),⟨bs,true⟩,(⟨bs,true⟩:Sl Nd).len,(j:Int),c.1,c.2,X7)) (fin:=fun c =>.inr (l,l.len,(i:Int),c.1,c.2,X7)) (J:=fun j c=>Gr (ze (bs.take j)) (atS st a) c/\∀ b∈bs.take j,AllN (pN c) b) (bad:=fun r=>Vl (some r))
   (fun j hj c hc=>by
    obtain ⟨hc,hq⟩:=hc;unfold q40;simp only [jh,zj];rw [jr (by simp only [zu];omega),zr (s:=⟨bs,true⟩) hj,jf];have hz:=wO hj;have hc2:Vc (zn bs[j]) c:=Vc.gr ((hv.at a).mono (show ze (bs.take j)+zn bs[j]<=_ by omega)) hc;obtain ⟨hb9,hb'⟩:=hb _ (jx hj);rcases hb' F c (by omega) hc2 with ⟨b,e,g,q⟩ | ⟨f,s,e,hf⟩
    ·refine .inl ⟨b,?_,?_⟩
     ·show ((q27 F (bs[j].K_,c)).bind _)=_;rw [e,jf,ji,zL (by omega)]
     ·rw [<- UA hj,zX];refine ⟨(hc.trans g).mono (by simp [ze]),fun s hs=>?_⟩;rcases G5.1 hs with hs | hs
      ·exact (hq s hs).mono fun n=>pN.gr g
      ·rw [Uw] at hs;subst hs;exact .mk ⟨by simp [hb9],by simp [hb9],by simp [hb9],by simp [hb9]⟩ q
    ·refine .inr ⟨.inl (f,s),?_,f,s,rfl,hf⟩
     grind)
   (fun c hc=>by
    unfold q40;simp only [jh]
    rw [js (by simp only [zu];omega)])
   (a:=atS st a) ⟨(Gr.refl rfl rfl rfl rfl).mono (by omega),by simp⟩ with ⟨c,e,g,q⟩ | ⟨r,e,f,s,e2,hf⟩
  ·rw [List.take_length] at g q;refine .inl ⟨c,e,(g.mono (by omega)).at,.mk ⟨?_,?_,?_,?_⟩ fun z hz=>?_⟩
   ·rcases hk with rfl | rfl <;> simp
   ·rcases hk with rfl | rfl <;> simp
   ·rcases hk with rfl | rfl <;> simp
   ·rcases hk with rfl | rfl <;> simp
   ·rcases Ua.1 hz with rfl | hz
    ·exact YH hx
    rcases Ua.1 hz with rfl | hz
    ·exact YH hy
    ·exact q z hz
  ·cases e2;exact .inr ⟨_,_,e,hf⟩
 rcases hk with rfl | rfl <;>
 ·simp (decide:=true) only [jo,jm,jl,jk,jg,jf,show zd (⟨x::y::bs,true⟩:Sl Nd) 0=some x from rfl,show zd (⟨x::y::bs,true⟩:Sl Nd) 1=some y from rfl];rcases hf x with ⟨e,_⟩ | ⟨f,s,e,hf'⟩
  rotate_left
  ·simp only [e,jf,jj];exact .inr ⟨_,_,rfl,hf'⟩
  have e2:=hf y;simp only [e,jf,ji];rcases e2 with ⟨e2,_⟩ | ⟨f,s,e2,hf'⟩
  rotate_left
  ·have e2:q1d (y,X7,atS st a)=_:=e2;simp only [e2,jf,jj];exact .inr ⟨_,_,rfl,hf'⟩
  have e2:q1d (y,X7,atS st a)=_:=e2;grind
theorem zvY {s:Nd}(h:StmtG s) (hs:zn s<=40000):StP s:=by
 have blk:∀ (a:Int) (b:List Nd),(∀ s∈b,zn s<=40000->StP s)->zn ⟨9,lit [],0,a,mkS b⟩<=40000->BlP (zn ⟨9,lit [],0,a,mkS b⟩) (q7.mk 9 (lit []) 0 a (mkS b)).K_:=fun a b ih hz=>by
  rw [zk] at hz |-
  exact zlB (fun s hs=>ih s hs (by have:=vg hs;omega)) (by omega)
 induction h with
 | @ite op n a x y b1 a1 b2 a2 hx hy h1 h2 i1 i2=>
  refine zfA (.inl rfl) hs hx hy fun b hb=>?_
  rw [zk] at hs;simp only [ze] at hs;rcases Ua.1 hb with rfl | hb
  all_goals grind
 | @whl op n a x y b1 a1 hx hy h1 i1=>
  refine zfA (.inr rfl) hs hx hy fun b hb=>?_
  rw [zk] at hs;simp only [ze] at hs;grind
 | @leaf k t n a c=>exact vF (.leaf c) hs (by grind) (by grind)
 |ret c=>exact vF (.ret c) hs (by simp) (by simp)
 |fork c=>exact vF (.fork c) hs (by simp) (by simp)
 |call c=>exact vF (.call c) hs (by simp) (by simp)
 |store c d=>exact vF (.store c d) hs (by simp) (by simp)
 |set c=>exact vF (.set c) hs (by simp) (by simp)
theorem zvZ {b:Nd}(h:zaH b) (hs:zn b<=40000):BlP (zn b) b.K_:=by
 obtain ⟨a,l,rfl,hl⟩:=h;rw [zk] at hs |-
 have hs:ze l+1<=40000:=hs;exact zlB (fun s hs'=>zvY (hl s hs') (by have:zn s<=ze l:=vg hs';omega)) (by grind)
structure FnR (m:Nat) (t:List PT) (k:Nd) (f:PNf):Prop where
 g:FnG k
 n:f.N_=k.T_
 p:f.P_=((Wq k).length:Int)
 l:(Wq k).length<=8
 o:zm9 t (Wq k)
 v:∃ ex,f.V_.xs=(Wq k).map (xZ t)++ex/\ex.length<=m
 k:VarsG t f.V_.xs
theorem FnR.gr {a b:PNf}(h:FnR m t n a) (hk:VarsG t b.V_.xs) (g:b.N_=a.N_/\b.P_=a.P_/\∃ ex,b.V_.xs=a.V_.xs++ex/\ex.length<=k):FnR (m+k) t n b:=by
 obtain ⟨g1,g2,ex,g3,g4⟩:=g;obtain ⟨e1,v1,l1⟩:=h.v;exact ⟨h.g,g1.trans h.n,g2.trans h.p,h.l,h.o,⟨e1++ex,by grind,by grind⟩,hk⟩
theorem FnR.mono {a:PNf}(h:FnR m t n a) (hm:m<=k):FnR k t n a:=⟨h.g,h.n,h.p,h.l,h.o,by obtain ⟨e1,v1,l1⟩:=h.v;grind,h.k⟩
def YS (m:Nat) (t:List PT) (ks:List Nd) (fs:List PNf):Prop:=∃ h:fs.length=ks.length,∀ i (hi:i < ks.length),FnR m t ks[i] (fs[i]'(by omega))
theorem YS.mono {fs:List PNf}(h:YS m t ks fs) (hm:m<=k):YS k t ks fs:=⟨h.1,fun i hi=>(h.2 i hi).mono hm⟩
theorem YS.snoc {fs:List PNf}{k:Nd}{f:PNf}(h:YS m t ks fs) (g:FnR m t k f):YS m t (ks++[k]) (fs++[f]):=by
 have hl:=h.1;refine ⟨by simp [hl],fun i hi=>?_⟩;rw [jt,jv] at hi;by_cases c:i < ks.length
 ·rw [List.getElem_append_left c,List.getElem_append_left (by omega)];exact h.2 i c
 ·obtain rfl:i=ks.length:=by omega
  rw [List.getElem_append_right (GJ _),List.getElem_append_right (by omega)];grind
theorem YS.vk {fs:List PNf}(h:YS m t ks fs):∀ f∈fs,VarsG t f.V_.xs:=by
 intro f hf;obtain ⟨j,hj,rfl⟩:=List.getElem_of_mem hf;exact (h.2 j (by rw [<- h.1];exact hj)).k
theorem YS.vc {t:Sl PT}{at_:Int}{fs:Sl PNf}(h:YS m t.xs ks fs.xs) (hsg:∀ s∈sg.xs,s.R_.M_=0\/OkP t.xs s.R_) (hs:sg.xs.length<=50000) (hk:ks.length<=50000) (hm:m+5000<=50000) (hi:i < ks.length):Vc 5000 ((sg,t,at_,(i:Int)),fs):=by
 have key:∀ f∈fs.xs,f.V_.xs.length<=m+8/\0<=f.P_/\f.P_<=f.V_.xs.length:=by
  intro f hf;obtain ⟨j,hj,rfl⟩:=List.getElem_of_mem hf;have r:=h.2 j (by rw [<- h.1];exact hj);obtain ⟨e1,v1,l1⟩:=r.v;have:=congrArg List.length v1;rw [jt,Uy] at this;have h8:=r.l;have hp:=r.p;grind
 exact ⟨⟨⟨i,rfl,by show i < fs.xs.length;rw [h.1];exact hi⟩,fun f hf=>⟨by grind,(key f hf).2⟩,hs,by show fs.xs.length<=_;rw [h.1];exact hk,h.vk,hsg⟩,fun f hf=>by grind⟩
theorem YS.gr {a b:CKt}(h:YS m t ks a.2.xs) (g:Gr k a b) (ht:a.1.2.1.xs=t):YS (m+k) t ks b.2.xs:=
 ⟨g.l.trans h.1,fun i hi=>(h.2 i hi).gr (by have:=g.k (by rw [ht];exact h.vk) _ (jx (show i < b.2.xs.length by rw [g.l,h.1];exact hi));rw [g.t,ht] at this;exact this) (g.f i (by rw [h.1];exact hi) (by rw [g.l,h.1];exact hi))⟩
theorem zpP (n:Nd) (ok:Bool) (e:Int) (s:CKt):q2x (n,ok,e,s)=some (if ok=true then .inr (atS s n.a_) else .inl ((n.a_,e),atS s n.a_)):=by cases ok <;> rfl
noncomputable abbrev LC0:=q5k q1v q2u q4y q33 q5u q2x q4a
noncomputable abbrev LC1:=q5l q1v q2u q4y q33 q5u q2x q4a
def znc (n:Nd) (r:((Int×Int)×Nd×Int×Int)⊕β):Prop:=∃ f,r = .inl (f,n,0,0)/\f.2≠0
theorem zv0 (hg:UnitG n) (sg:Sl PSg) (t:Sl PT) (ht:t.xs.length<=100000) (at0:Int) :
    (∃ a fs,lpO LC0 (n.K_,n.K_.len,0,n,0,0,(sg,t,at0),Sl.mk [] false)=some (.inr (n,0,0,(sg,t,a),fs))/\YS 0 t.xs n.K_.xs fs.xs)\/
    ∃ r,lpO LC0 (n.K_,n.K_.len,0,n,0,0,(sg,t,at0),Sl.mk [] false)=some r/\znc n r:=by
  have hkl:=@ZV n;have hsz:=hg.size
  rcases goE (f:=LC0) (n:=n.K_.xs.length) (A:=Int×Sl PNf) (st:=fun i a=>(n.K_,n.K_.len,(i:Int),n,0,0,(sg,t,a.1),a.2)) (fin:=fun a =>.inr (n,0,0,(sg,t,a.1),a.2)) (J:=fun i a=>YS 0 t.xs (n.K_.xs.take i) a.2.xs) (bad:=znc n)
    (fun i hi a ha=>by
      obtain ⟨a,fs⟩:=a;have hl:=ha.1;rw [Uk] at hl;simp only at hl;show (∃ a',q5k _ _ _ _ _ _ _ _=_/\_)\/∃ r,q5k _ _ _ _ _ _ _ _=_/\_
      unfold q5k;simp only [jh,zj,ZC];rw [jr (by simp only [zu];omega),zr hi,jf,zey,jf];by_cases h6:n.K_.xs[i].k_=6
      rotate_left
      ·simp only [h6,jm,jg,jk,jj,jf];exact .inr ⟨_,rfl,_,rfl,by simp⟩
      simp only [h6,jo,jl,ji];have hf:FnG n.K_.xs[i]:=by
        rcases hg.kid _ (jx hi) with h | h
        ·exact absurd h.1 (by grind)
        ·exact h
      rcases zvU hf (by have:=YQ (jx hi);omega) sg t ht n.K_.xs[i].a_ fs with ⟨a',vars,e,h8,hv,ho,hvg⟩ | ⟨r,e,f,s,rfl,hf⟩
      ·simp only [e,jf,ji];rw [yT (by omega) (by omega)];simp only [jf,ji,zL (show i < 1000000000 by omega)];refine .inl ⟨(a',_),rfl,?_⟩;rw [<- UA hi];exact ha.snoc ⟨hf,rfl,rfl,h8,ho,⟨[],by simp [hv],by simp⟩,hvg⟩
      · simp only [e,jf,jj]
        exact .inr ⟨_,rfl,_,rfl,hf⟩)
    (fun a ha=>by
      show q5k _ _ _ _ _ _ _ _=_;unfold q5k;simp only [jh,zj]
      rw [js (by simp only [zu];omega)])
    (a:=(at0,Sl.mk [] false)) ⟨by simp,fun i hi=>by simp at hi⟩ with ⟨⟨a,fs⟩,e,h⟩ | h
  all_goals grind
structure DoneF (sg:Sl PSg) (t:Sl PT) (fs:Sl PNf) (k:Nd) (i:Nat):Prop where
 l:∃ f,fs.xs[i]?=some f/\f.V_.xs.length<=64
 a:AllN (pN ((sg,t,0,(i:Int)),fs)) k
theorem pN.grj {t:Sl PT}{i j:Int}{fs:Sl PNf}{c:CKt}(g:Gr m ((sg,t,a,i),fs) c) (h:pN ((sg,t,0,j),fs) n):pN ((sg,t,0,j),c.2) n:=by
 refine ⟨h.b,h.c,fun k=>?_,h.r⟩;obtain ⟨k,f,h1,h2,h3,h4⟩:=h.f k;obtain ⟨hk,rfl⟩:=GC.1 h2;have hb:k < c.2.xs.length:=by rw [g.l];exact hk
 obtain ⟨_,p2,ex,v1,_⟩:=g.f k hk hb;refine ⟨k,_,(zke g _).trans h1,GI hb,by rw [p2];exact h3,fun i x hx=>?_⟩;obtain ⟨p,p1,p2⟩:=h4 i x hx;refine ⟨p,?_,?_⟩
 ·rw [v1,Ud (by obtain ⟨h,_⟩:=GC.1 p1;exact h)];exact p1
 rcases p2 with h | ⟨h,v,⟨f,⟨j',hj,hf⟩,i,hi,hv⟩,q1,q2⟩
 ·exact .inl h
 refine .inr ⟨h,v,?_,q1,q2⟩;obtain ⟨hj',rfl⟩:=GC.1 hf;have hb:j' < c.2.xs.length:=by rw [g.l];exact hj'
 obtain ⟨_,_,ex,v1,_⟩:=g.f j' hj' hb;refine ⟨_,⟨j',hj,GI hb⟩,i,by rw [v1];exact zlA hi,?_⟩;rw [v1,Ud (by obtain ⟨h,_⟩:=GC.1 hv;exact h)];exact hv
theorem pN.at' {t:Sl PT}{i:Int}{c:CKt}(h:pN c n) (cs:c.1.1=sg) (ct:c.1.2.1=t) (cj:c.1.2.2.2=i):pN ((sg,t,0,i),c.2) n:=by
 subst cs ct cj;exact ⟨h.b,h.c,h.f,h.r⟩
theorem zhk {st:CKt}{m:Nd}(h:WB m):AllN (pN st) m:=by
 refine .mk ⟨by simp [h.1],by simp [h.1],by simp [h.1],by simp [h.1]⟩ fun k hk=>?_
 rcases h.2 with ⟨_,h⟩ | ⟨_,x,h,hx⟩
 ·rw [h] at hk;simp [nilS] at hk
 ·rw [h] at hk;obtain rfl:=Uw.1 hk;exact YH hx
theorem zv1 (hg:UnitG n) (sg:Sl PSg) (t:Sl PT) (hsg:∀ s∈sg.xs,s.R_.M_=0\/OkP t.xs s.R_) (hs:sg.xs.length<=50000) (at0:Int) {fs0:Sl PNf}(h0:YS 0 t.xs n.K_.xs fs0.xs) :
    (∃ a fs,lpO LC1 (n.K_,n.K_.len,0,n,0,0,(sg,t,at0),fs0)=some (.inr (n,0,0,(sg,t,a),fs))/\YS 5000 t.xs n.K_.xs fs.xs/\∀ (i:Nat) (hi:i < n.K_.xs.length),DoneF sg t fs n.K_.xs[i] i)\/
    ∃ r,lpO LC1 (n.K_,n.K_.len,0,n,0,0,(sg,t,at0),fs0)=some r/\znc n r:=by
  have hkl:=@ZV n;have hsz:=hg.size;have hse:=zk n
  rcases goE (f:=LC1) (n:=n.K_.xs.length) (A:=Int×Sl PNf) (st:=fun i a=>(n.K_,n.K_.len,(i:Int),n,0,0,(sg,t,a.1),a.2)) (fin:=fun a =>.inr (n,0,0,(sg,t,a.1),a.2)) (J:=fun i a=>YS (ze (n.K_.xs.take i)) t.xs n.K_.xs a.2.xs/\∀ (k:Nat) (hk:k < n.K_.xs.length),k < i->DoneF sg t a.2 n.K_.xs[k] k) (bad:=znc n)
    (fun i hi a ha=>by
      obtain ⟨a,fs⟩:=a;obtain ⟨ha,hD⟩:=ha;have hl:=ha.1;have hst:=wO hi;simp only at hl hD;have r:=ha.2 i hi;obtain ⟨k6,ps,rr,b,hk,hpp,hrr,hr8,hb⟩:=r.g;have hk':=congrArg Sl.xs hk;simp only at hk';have hlen:n.K_.xs[i].K_.xs.length=ps.length+2:=by rw [hk];simp
      have hki:=@ZV n.K_.xs[i];have hbz:=YQ (n:=n.K_.xs[i]) (k:=b) (by rw [hk];simp);have hgl:zd n.K_.xs[i].K_ (G4 (n.K_.xs[i].K_.len - 1))=some b:=by
        rw [zu,hlen,zM (by omega) (by omega),show (((ps.length+2:Nat):Int) - 1)=((ps.length+1:Nat):Int) by omega,zr (by omega)];simp [hk]
      show (∃ a',q5l _ _ _ _ _ _ _ _=_/\_)\/∃ r,q5l _ _ _ _ _ _ _ _=_/\_
      unfold q5l;simp only [jh,zj];rw [jr (by simp only [zu];omega),zr hi,jf,zr (s:=fs) (by omega),jf,hgl,jf];have vc:Vc 5000 ((sg,t,a,(i:Int)),fs):=ha.vc hsg hs (by omega) (by omega) hi;have hbl:=zvZ hb (by omega) 100000 ((sg,t,a,(i:Int)),fs) (by omega) (vc.mono (by omega));rcases hbl with ⟨c,e,g,q⟩ | ⟨f,s,e,hf⟩
      rotate_left
      ·have e:q33 (b.K_,(sg,t,a,(i:Int)),fs)=_:=e;simp only [e,jf,jj];exact .inr ⟨_,rfl,_,rfl,hf⟩
      have e:q33 (b.K_,(sg,t,a,(i:Int)),fs)=_:=e;have hj:c.1.2.2.2=(i:Int):=g.j;have gl:c.2.xs.length=fs.xs.length:=g.l;have hci:i < c.2.xs.length:=by omega
      have fin':YS (ze (n.K_.xs.take (i+1))) t.xs n.K_.xs c.2.xs:=by
        rw [<- UA hi,zX];exact (YS.gr (a:=((sg,t,a,(i:Int)),fs)) ha g rfl).mono (by simp only [ze];omega)
      have cs:c.1.1=sg:=g.s;have ct:c.1.2.1=t:=g.t;simp only [e,jf,ji,hj,zr hci,zpP];by_cases h64:Sl.len c.2.xs[i].V_<=64
      rotate_left
      ·simp only [h64,jk,jg,jj,jf];exact .inr ⟨_,rfl,_,rfl,by simp⟩
      obtain ⟨cc,rc,e1,_,_,_⟩:=zvR r.g (by omega);simp only [h64,jl,e1,jf];by_cases h5:Sl.len cc.L_<=512
      · simp only [h5,jo,jl,jf,ji,zL (show i < 1000000000 by omega),atS,cs,ct];refine .inl ⟨(_,_),rfl,fin',fun k hk hki=>?_⟩;have st2:∀ {j:Nat} {x:Nd},AllN (pN ((sg,t,0,(j:Int)),fs)) x->AllN (pN ((sg,t,0,(j:Int)),c.2)) x:=fun h=>h.mono fun n=>pN.grj g
        by_cases hlt:k < i
        ·obtain ⟨⟨f,f1,f2⟩,f3⟩:=hD k hk hlt;exact ⟨⟨f,(g.o k (by show (k:Int)≠(i:Int);omega)).trans f1,f2⟩,st2 f3⟩
        · obtain rfl:k=i:=by omega
          refine ⟨⟨_,GI hci,by rw [zu] at h64;omega⟩,?_⟩;have q':∀ s∈b.K_.xs,AllN (pN ((sg,t,0,(k:Int)),c.2)) s:=fun s hs=>(q s hs).mono fun n h=>h.at' cs ct hj
          refine .mk ⟨by simp [k6],by simp [k6],by simp [k6],by simp [k6]⟩ fun z hz=>?_
          rw [hk'] at hz;rcases G5.1 hz with hz | hz
          · obtain ⟨h7,m,hm,hmg⟩:=hpp z hz;refine .mk ⟨by simp [h7],by simp [h7],by simp [h7],by simp [h7]⟩ fun w hw=>?_
            rw [hm] at hw;obtain rfl:=Uw.1 hw;exact zhk hmg
          rcases Ua.1 hz with rfl | hz
          · rcases hrr with ⟨_,h⟩ | h
            ·exact .mk ⟨by simp [hr8],by simp [hr8],by simp [hr8],by simp [hr8]⟩ (by rw [h];simp [nilS])
            ·exact zhk h
          ·obtain rfl:=Uw.1 hz;obtain ⟨_,_,rfl,_⟩:=hb;exact .mk ⟨by simp,by simp,by simp,by simp⟩ q'
      · simp only [h5,jm,jk,jg,jj,jf]
        exact .inr ⟨_,rfl,_,rfl,by simp⟩)
    (fun a ha=>by
      show q5l _ _ _ _ _ _ _ _=_;unfold q5l;simp only [jh,zj]
      rw [js (by simp only [zu];omega)])
    (a:=(at0,fs0)) ⟨by simpa [ze] using h0,fun k hk h=>by omega⟩ with ⟨⟨a,fs⟩,e,h,hD⟩ | h
  ·rw [List.take_length] at h;exact .inl ⟨a,fs,e,h.mono (by omega),fun i hi=>hD i hi hi⟩
  ·exact .inr h
theorem zrK (hg:UnitG n) (sg:Sl PSg) (t:Sl PT) (hsg:∀ s∈sg.xs,s.R_.M_=0\/OkP t.xs s.R_) (hs:sg.xs.length<=50000) (ht:t.xs.length<=100000) :
    ∃ a e fs,q2g (n,sg,t)=some (a,e,fs)/\(e≠0/\fs.xs=[]\/e=0/\YS 5000 t.xs n.K_.xs fs.xs/\∀ (i:Nat) (hi:i < n.K_.xs.length),DoneF sg t fs n.K_.xs[i] i):=by
  unfold q2g qby;simp only [zj];rcases zv0 hg sg t ht 0 with ⟨a,fs,e,h⟩ | ⟨r,e,f,rfl,hf⟩
  · rw [e];simp only [jf,ji];rcases zv1 hg sg t hsg hs a h with ⟨b,gs,e,h⟩ | ⟨r,e,f,rfl,hf⟩
    ·rw [e];exact ⟨_,_,gs,rfl,.inr ⟨rfl,h⟩⟩
    ·rw [e];exact ⟨_,_,_,rfl,.inl ⟨hf,rfl⟩⟩
  ·rw [e];exact ⟨_,_,_,rfl,.inl ⟨hf,rfl⟩⟩
end Go.Px
