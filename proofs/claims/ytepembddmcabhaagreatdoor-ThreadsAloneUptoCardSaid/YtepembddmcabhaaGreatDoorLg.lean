/- Part Lg. -/
import Derived.Test.YtepembddmcabhaaGreatDoorLf
set_option linter.unusedVariables false
set_option linter.unusedSimpArgs false
namespace Go.Px
variable{a:Int}{k m:Nat}{ks:List Nd}{n:Nd}{t:List PT}{β:Type}
abbrev PNf:=qc
abbrev KS:=(Sl PSg×Sl PT×Int)×Sl PNf
theorem goE {S R A:Type}{f:S->Uc (Step S R)}{n:Nat}{st:Nat->A->S}{fin:A->R}{J:Nat->A->Prop}{bad:R->Prop}
    (h:∀ i,i < n->∀ a,J i a->(∃ a',f (st i a)=some (.next (st (i+1) a'))/\J (i+1) a')\/∃ r,f (st i a)=some (.done r)/\bad r)
    (h0:∀ a,J n a->f (st n a)=some (.done (fin a))) {a:A} (ha:J 0 a) :
    (∃ a',lpO f (st 0 a)=some (fin a')/\J n a')\/∃ r,lpO f (st 0 a)=some r/\bad r:=by
  have:∀ (m i:Nat) (a:A),i+m=n->J i a->(∃ a',lpO f (st i a)=some (fin a')/\J n a')\/∃ r,lpO f (st i a)=some r/\bad r:=by
    intro m
    induction m with
    |zero=>
      intro i a hi ha;obtain rfl:i=n:=by omega
      exact .inl ⟨a,zw (h0 a ha),ha⟩
    |succ m ih=>
      intro i a hi ha;rcases h i (by omega) a ha with ⟨a',h1,h2⟩ | ⟨r,h1,h2⟩
      · rcases ih (i+1) a' (by omega) h2 with ⟨b,h3,h4⟩ | ⟨r,h3,h4⟩
        ·exact .inl ⟨b,by rw [zD h1,h3],h4⟩
        ·exact .inr ⟨r,by rw [zD h1,h3],h4⟩
      ·exact .inr ⟨r,zw h1,h2⟩
  exact this n 0 a (by omega) ha
def Zd (t:List PT) (k:Nd):PP:=if (zP k).T_=lit [111,119,110] then ⟨k.T_,2,idT (zP (zP k)).T_ t⟩ else ⟨k.T_,1,0⟩
theorem zxN (ok:Bool) (e:Int) (s:KS):q30 (ok,e,s)=some (if ok=true then .inr s else .inl ((s.1.2.2,e),s)):=by cases ok <;> rfl
theorem zeS (n:Nd) (ok:Bool) (e:Int) (s:KS):q1w (n,ok,e,s)=some (if ok=true then .inr ((s.1.1,s.1.2.1,n.a_),s.2) else .inl ((n.a_,e),(s.1.1,s.1.2.1,n.a_),s.2)):=by cases ok <;> rfl
theorem zgZ (f:PNf) (n:Ua) (h:f.V_.xs.length<=1000000):q48 (f,n)=some (idP n f.V_.xs):=by
 have:=x9 (f:=q5z q73) (xs:=f.V_.xs) (p:=fun x=>decide (x.n_=n)) (st:=fun i=>(f.V_,f.V_.len,(i:Int),n)) (yes:=fun i =>.inl ((i:Int),n)) (no :=.inr n)
  (fun i hi=>by
   unfold q5z;simp only [jh];rw [jr (by simp only [zo];omega),zi hi,jf];show ((some (decide (f.V_.xs[i].n_=n),n)).bind _)=_;simp only [jf,zx (show i < 1000000000 by omega)]
   grind)
  (by unfold q5z;simp only [jh];rw [js (by simp only [zo];omega)])
 show ((((lpO (q5z q73) (f.V_,Sl.len f.V_,((0:Nat):Int),n)).bind _)).bind _)=_;rw [this];unfold idP idx;cases f.V_.xs.findIdx? _ <;> rfl
def zkN (t:List PT) (l:List Nd):Prop:=∀ k∈l,(Zd t k).M_=2->0<=(Zd t k).t_
def yk (k:Nd):List Nd:=k.K_.xs.take (k.K_.xs.length - 2)
def zxO (r:((Int×Int)×KS)⊕β):Prop:=∃ f s,r = .inl (f,s)/\f.2≠0
theorem zkO {m:Nd}(h:vj m) (ho:m.T_=lit [111,119,110]):∃ x,m.K_=⟨[x],true⟩:=by
 rcases h.2 with ⟨h1,_⟩ | ⟨_,x,h2,_⟩
 ·rw [ho] at h1;simp (decide:=true) only [Zy] at h1
 grind
theorem zxP {k:Nd}(h:FnG k) (hs:zm k<=40000) (sg:Sl PSg) (t:Sl PT) (ht:t.xs.length<=100000) (at_:Int) (fns:Sl PNf) :
    (∃ at' vars,q31 (k,(sg,t,at_),fns)=some (.inr ((k.T_,((yk k).length:Int)),(sg,t,at'),fns,vars))/\(yk k).length<=8/\vars.xs=(yk k).map (Zd t.xs)/\zkN t.xs (yk k))\/
    ∃ r,q31 (k,(sg,t,at_),fns)=some r/\zxO r:=by
  obtain ⟨h6,ps,r,b,hk,hp,hr,hr8,hb⟩:=h;have hlen:k.K_.xs.length=ps.length+2:=by rw [hk];simp
  have hps:yk k=ps:=by unfold yk;grind
  have hkl:=@Zm k;rw [hps];have hc:Ud (k.K_.len - 2)=(ps.length:Int):=by rw [zo,hlen,zM (by omega) (by omega)];omega
  have hgs:Zg k.K_ 0 (ps.length:Int)=some ⟨ps,true⟩:=by
    rw [YJ (by omega) (by omega) (by omega),hk];simp
  have hgr:zb k.K_ (ps.length:Int)=some r:=by rw [zi (by omega)];simp [hk]
  unfold q31 q90;simp only [zn,zeS,jf,hc,hgs,jh];by_cases h8:(ps.length:Int)<=8
  rotate_left
  ·simp only [h8,jk,jj];exact .inr ⟨_,rfl,_,_,rfl,by simp⟩
  simp only [h8,jl,ji]
  have key:=goE (f:=q41 q1w q48 q24 q30) (n:=ps.length) (A:=Int×Sl PP)
    (st:=fun i a=>((ps.length:Int),⟨ps,true⟩,(⟨ps,true⟩:Sl Nd).len,(i:Int),(sg,t,a.1),fns,k,(lit [],0),(k.T_,(ps.length:Int)),a.2)) (fin:=fun a =>.inr ((ps.length:Int),(sg,t,a.1),fns,k,(lit [],0),(k.T_,(ps.length:Int)),a.2))
    (J:=fun i a=>a.2.xs=(ps.take i).map (Zd t.xs)/\zkN t.xs (ps.take i)) (bad:=zxO)
    (fun i hi a ha=>by
      obtain ⟨a,vars⟩:=a;obtain ⟨hv,ho⟩:=ha;simp only at hv ho;obtain ⟨_,m,hm,hmg⟩:=hp _ (jx hi);have vl:vars.xs.length<=40000:=by grind
      have k0:zP ps[i]=m:=by unfold zP;rw [hm];rfl
      have fin':∀ p:PP,Zd t.xs ps[i]=p->(p.M_=2->0<=p.t_)->((⟨vars.xs++[p],true⟩:Sl PP).xs=(ps.take (i+1)).map (Zd t.xs)/\zkN t.xs (ps.take (i+1))):=by
        intro p hp ht;rw [<- Dh hi];refine ⟨by grind,fun x hx=>?_⟩;rcases Ue.1 hx with hx | hx
        ·exact ho x hx
        grind
      unfold q41;simp only [jh,zn];rw [jr (by simp only [zo];omega),zi (s:=⟨ps,true⟩) hi,jf];simp only;rw [hm,show zb (⟨[m],true⟩:Sl Nd) 0=some m from rfl,jf,zgZ _ _ (by grind)];simp only [jf,zeS,zxN,jh,Vo t _ (show t.xs.length<=1000000 by omega)];by_cases h1:idP ps[i].T_ vars.xs < 0
      rotate_left
      ·simp only [h1,jk,jf,jj];exact .inr ⟨_,rfl,_,_,rfl,by simp⟩
      simp only [h1,jl,ji];by_cases h2:m.T_=lit [105,110,116]
      · have hpo:Zd t.xs ps[i]=⟨ps[i].T_,1,0⟩:=by unfold Zd;rw [k0,h2,js (by simp (decide:=true) only [Zy])]
        have hno:¬ m.T_=lit [111,119,110]:=by rw [h2];simp (decide:=true) only [Zy]
        simp only [h2,jl,jf,ji,hno,jk];rw [<- h2];simp only [hno,jk,jf,ji];rw [ZG (by omega) (by omega)];simp only [jf,ji,zx (show i < 1000000000 by omega)];exact .inl ⟨(_,_),rfl,fin' _ hpo (by simp)⟩
      · simp only [h2,jk];by_cases h3:m.T_=lit [111,119,110]
        rotate_left
        ·simp only [h3,jk,jf,jj];exact .inr ⟨_,rfl,_,_,rfl,by simp⟩
        obtain ⟨x,hx⟩:=zkO hmg h3;have hpo:Zd t.xs ps[i]=⟨ps[i].T_,2,idT x.T_ t.xs⟩:=by unfold Zd;rw [k0,jr h3];unfold zP;rw [hx];rfl
        simp only [h3,jl,jf,ji];rw [hx,show zb (⟨[x],true⟩:Sl Nd) 0=some x from rfl,jf];rw [Vo t _ (show t.xs.length<=1000000 by omega),jf];by_cases h4:0<=idT x.T_ t.xs
        rotate_left
        ·simp only [h4,jk,jf,jj];exact .inr ⟨_,rfl,_,_,rfl,by simp⟩
        simp only [h4,jl,jf,ji];rw [ZG (by omega) (by omega)];simp only [jf,ji,zx (show i < 1000000000 by omega)]
        exact .inl ⟨(_,_),rfl,fin' _ hpo (fun _=>h4)⟩)
    (fun a ha=>by
      unfold q41;simp only [jh,zn]
      rw [js (by simp only [zo];omega)])
    (a:=(k.a_,Sl.mk [] false)) ⟨by simp,by intro x hx;simp at hx⟩
  rcases key with ⟨⟨a,vars⟩,e1,e2,e3⟩ | ⟨x,e1,f,s,rfl,hf⟩
  rotate_left
  ·have e1:lpO (q41 q1w q48 q24 q30) ((ps.length:Int),⟨ps,true⟩,(⟨ps,true⟩:Sl Nd).len,0,(sg,t,k.a_),fns,k,(lit [],0),(k.T_,(ps.length:Int)),Sl.mk [] false)=_:=e1;rw [e1];exact .inr ⟨_,rfl,_,_,rfl,hf⟩
  have e1:lpO (q41 q1w q48 q24 q30) ((ps.length:Int),⟨ps,true⟩,(⟨ps,true⟩:Sl Nd).len,0,(sg,t,k.a_),fns,k,(lit [],0),(k.T_,(ps.length:Int)),Sl.mk [] false)=_:=e1;rw [e1];simp only [jf,ji,hgr];by_cases h9:r.T_=lit []
  ·grind
  ·simp only [h9,jk,jj];exact .inr ⟨_,rfl,_,_,rfl,by simp⟩
abbrev CKt:=(Sl PSg×Sl PT×Int×Int)×Sl PNf
abbrev FTt:=(Int×Int)×CKt⊕CKt
structure Vd (st:CKt):Prop where
 j:∃ jn:Nat,st.1.2.2.2=(jn:Int)/\jn < st.2.xs.length
 v:∀ f∈st.2.xs,f.V_.xs.length<=60000/\0<=f.P_/\f.P_<=f.V_.xs.length
 s:st.1.1.xs.length<=50000
 f:st.2.xs.length<=50000
def zan (r:Uc ((Int×Int)×CKt⊕β)):Prop:=∃ f s,r=some (.inl (f,s))/\f.2≠0
def Lk (st:CKt) (r:Uc FTt):Prop:=r=some (.inr st)\/zan r
def LkP (st:CKt) (r:Uc ((Int×Int)×CKt⊕PP×CKt)):Prop:=(∃ p,r=some (.inr (p,st)))\/zan r
theorem yP {α:Type}(r:Uc (α⊕β)):(r.bind fun y=>Sum.elim (fun a=>some (Sum.inl a)) (fun b=>some (Sum.inr b)) y)=r:=by
 cases r with | none=>rfl | some x=>grind
theorem vG (ok:Bool) (e:Int) (s:CKt):q13 (ok,e,s)=some (if ok=true then .inr s else .inl ((s.1.2.2.1,e),s)):=by cases ok <;> rfl
theorem xz {ok:Bool}{e:Int}{s:CKt}(he:e≠0):Lk s (q13 (ok,e,s)):=by
 cases ok
 ·exact .inr ⟨_,_,rfl,he⟩
 ·exact .inl rfl
theorem WW {c:Prop}[Decidable c] {s:CKt}{a b:Uc FTt}(ha:Lk s a) (hb:Lk s b):Lk s (if c then a else b):=by grind
theorem zaO {st:CKt}(h:Vd st) (n:Ua):LkP st (q42 (n,st)):=by
 obtain ⟨⟨sg,t,a,j⟩,fns⟩:=st;obtain ⟨⟨jn,rfl,hj⟩,hv,hs,hf⟩:=h;simp only at hj hv;have hv:=(hv _ (jx hj)).1;unfold q42 q81;simp only [zi hj,jf];rw [zgZ _ _ (by grind)];simp only [jf,vG,jh];by_cases h1:0<=idP n fns.xs[jn].V_.xs
 ·have h2:idP n fns.xs[jn].V_.xs < fns.xs[jn].V_.xs.length:=YO.2.1;obtain ⟨i,hi⟩:∃ i:Nat,idP n fns.xs[jn].V_.xs=(i:Int):=⟨_,(Dg h1).symm⟩
  rw [hi] at h2 h1;simp only [hi,h1,jl,ji,zi hj,jf,zi (s:=fns.xs[jn].V_) (show i < _ by omega)];exact .inl ⟨_,rfl⟩
 ·simp only [h1,jk,jj];exact .inr ⟨_,_,rfl,by simp⟩
theorem znV {st:CKt}(h:Vd st) (n:Nd) (p:PP):Lk st (q1e (n,p,st)):=by
 unfold q1e q9x;simp only [yP,zn];refine WW (xz (by decide)) ?_;rcases zaO h n.T_ with ⟨k,e⟩ | ⟨f,s,e,hf⟩
 ·simp only [e,jf,ji];refine WW (xz (by decide)) ?_;by_cases h3:p.M_=3
  ·simp only [h3,jo,jl,jf];exact WW (WW (xz (by decide)) (xz (by decide))) (WW (WW (xz (by decide)) (xz (by decide))) (xz (by decide)))
  ·simp (decide:=true) only [h3,jm,jk,jf];exact WW (WW (xz (by decide)) (xz (by decide))) (xz (by decide))
 ·simp only [e,jf,jj];exact .inr ⟨_,_,rfl,hf⟩
theorem zxQ {st:CKt}(h:Vd st) (l:Sl Nd) (p:Sl PP) (hl:l.xs.length<=50000):Lk st (q5o (l,p,st)):=by
 unfold q5o q91;simp only [yP,vG,jf,jh];by_cases hlen:Sl.len l=Sl.len p
 rotate_left
 ·simp only [hlen,jk,jj];exact .inr ⟨_,_,rfl,by simp⟩
 simp only [hlen,jl,ji];simp only [zo] at hlen
 rcases goE (f:=q6m q13 q1e) (n:=l.xs.length) (A:=CKt) (st:=fun i a=>(p,l,p.len,(i:Int),a)) (fin:=fun a =>.inr a) (J:=fun i a=>a=st) (bad:=fun r=>zan (some r))
  (fun i hi a ha=>by
   subst ha;unfold q6m;simp only [jh,zn];rw [jr (by simp only [zo];omega),zi hi,jf,zi (s:=p) (show i < _ by omega),jf];rcases znV h l.xs[i] (p.xs[i]'(by omega)) with e | ⟨f,s,e,hf⟩
   ·rw [e,jf,ji,zx (by omega)];grind
   ·rw [e,jf,jj]
    exact .inr ⟨_,rfl,_,_,rfl,hf⟩)
  (fun a ha=>by
   unfold q6m;simp only [jh]
   rw [js (by simp only [zo];omega)])
  (a:=st) rfl with ⟨a,e,rfl⟩ | ⟨r,e,f,s,e2,hf⟩
 ·exact .inl e
 ·cases e2;exact .inr ⟨_,_,e,hf⟩
theorem zxR (sg:Sl PSg) (n:Nd) (h:sg.xs.length<=50000):∃ i:Int,q7q (sg,n)=some (i,n)/\i < sg.xs.length:=by
 have:=x9 (f:=q74 q4q) (xs:=sg.xs) (p:=fun x=>decide (x.n_=n.T_)) (st:=fun i=>(sg,sg.len,(i:Int),n)) (yes:=fun i =>.inl ((i:Int),n)) (no :=.inr n)
  (fun i hi=>by
   unfold q74;simp only [jh,zn];rw [jr (by simp only [zo];omega),zi hi,jf];show ((some (decide (sg.xs[i].n_=n.T_),q8.mk _ _ _ _ _)).bind _)=_;simp only [zn,jf,zx (show i < 1000000000 by omega)]
   grind)
  (by unfold q74;simp only [jh,zn];rw [js (by simp only [zo];omega)])
 refine ⟨idx (fun x=>decide (x.n_=n.T_)) sg.xs,?_,YO.2.1⟩;unfold q7q qbh;simp only [zn];have this:lpO (q74 q4q) (sg,sg.len,0,n)=_:=this;rw [this];unfold idx;cases sg.xs.findIdx? _ <;> rfl
theorem zqM {st:CKt}(h:Vd st) (n:Nd) (hn:n.K_.xs.length<=50000):LkP st (q1t (n,st)):=by
 obtain ⟨i,e,hi⟩:=zxR st.1.1 n h.s;unfold q1t q92;simp only [zn,e,jf,vG,jh];by_cases h1:0<=i
 rotate_left
 ·simp only [h1,jk,jj];exact .inr ⟨_,_,rfl,by simp⟩
 obtain ⟨j,rfl⟩:∃ j:Nat,i=(j:Int):=⟨_,(Dg h1).symm⟩
 simp only [h1,jl,ji,zi (s:=st.1.1) (show j < _ by omega),jf];rcases zxQ h n.K_ (st.1.1.xs[j]'(by omega)).P_ hn with e | ⟨f,s,e,hf⟩
 ·simp only [e,jf,ji,zi (s:=st.1.1) (show j < _ by omega)];exact .inl ⟨_,rfl⟩
 ·simp only [e,jf,jj];exact .inr ⟨_,_,rfl,hf⟩
def LkE (st:CKt) (r:Uc (PP×CKt⊕(Int×Int)×CKt)):Prop:=(∃ p,r=some (.inl (p,st)))\/∃ f s,r=some (.inr (f,s))/\f.2≠0
theorem zxS {st:CKt}(h:Vd st) (g:ExprG n) (hn:n.K_.xs.length<=50000):LkE st (q20 (n,st)):=by
 have fin5:LkE st (some (Sum.inr ((st.1.2.2.1,50),st))) :=.inr ⟨_,_,rfl,by simp⟩;unfold q20 q93;simp only [zn,vG];cases g with
 |term h5 h0=>
  simp only [h5,jo,jl];by_cases ht:n.T_=lit []
  ·simp only [ht,jo,jl,jf,jj];exact .inl ⟨_,rfl⟩
  simp only [ht,jm,jg,jk];rcases zaO h n.T_ with ⟨k,e⟩ | ⟨f,s,e,hf⟩
  rotate_left
  ·simp only [e,jf,jj,ji];exact .inr ⟨_,_,rfl,hf⟩
  simp only [e,jf,jj,ji,jh];by_cases hz:n.N_=0
  ·simp only [hz,jl,jf,jj,ji];exact .inl ⟨_,rfl⟩
  simp only [hz,jk,jf];by_cases hm:k.M_=1
  ·simp only [hm,jl,jf,jj,ji];exact .inl ⟨_,rfl⟩
  ·simp only [hm,jk,jf,jj,ji];exact .inr ⟨_,_,rfl,by simp⟩
 |leaf h5 h0=>
  rcases h5 with h5 | h5 | h5 | h5
  ·simp (decide:=true) only [h5,jm,jo,jl,jk,jg,jf,jj,ji];exact fin5
  ·simp (decide:=true) only [h5,jm,jo,jl,jk,jg,jf,jj,ji];exact fin5
  all_goals
   rcases zaO h n.T_ with ⟨k,e⟩ | ⟨f,s,e,hf⟩
   ·simp (decide:=true) only [h5,jm,jo,jl,jk,jg,jf,jj,ji,e,jh];by_cases hm:k.M_=2
    ·simp only [hm,jl,jf,jj,ji];exact .inl ⟨_,rfl⟩
    ·simp only [hm,jk,jf,jj,ji];exact .inr ⟨_,_,rfl,by simp⟩
   ·simp (decide:=true) only [h5,jm,jo,jl,jk,jg,jf,jj,ji,e];exact .inr ⟨_,_,rfl,hf⟩
 |call h5=>
  rcases zqM h n hn with ⟨k,e⟩ | ⟨f,s,e,hf⟩
  ·simp (decide:=true) only [h5.1,jm,jo,jl,jk,jg,jf,jj,ji,e,jh];by_cases hm:k.M_=0
   ·simp (decide:=true) only [hm,jl,jk,jf,jj,ji];exact .inr ⟨_,_,rfl,by simp⟩
   ·simp (decide:=true) only [hm,jk,jl,UF,jq,jf,jj,ji];exact .inl ⟨_,rfl⟩
  ·simp (decide:=true) only [h5.1,jm,jo,jl,jk,jg,jf,jj,ji,e];exact .inr ⟨_,_,rfl,hf⟩
 |load h5 _ _=>
  simp (decide:=true) only [h5,jm,jo,jl,jk,jg,jf,jj,ji];exact fin5
 | @two x y h5 h6 _ _=>
  have g0:zb n.K_ 0=some x:=by rw [h6];rfl
  have g1:zb n.K_ 1=some y:=by rw [h6];rfl
  rcases zaO h x.T_ with ⟨k,e⟩ | ⟨f,s,e,hf⟩
  rotate_left
  ·rcases h5 with h5 | h5 <;>
   ·simp (decide:=true) only [h5,jm,jo,jl,jk,jg,jf,jj,ji,g0,g1,e];exact .inr ⟨_,_,rfl,hf⟩
  rcases zaO h y.T_ with ⟨k2,e2⟩ | ⟨f,s,e2,hf⟩
  rotate_left
  ·rcases h5 with h5 | h5 <;>
   ·simp (decide:=true) only [h5,jm,jo,jl,jk,jg,jf,jj,ji,g0,g1,e,e2];exact .inr ⟨_,_,rfl,hf⟩
  by_cases hm:k.M_=1 <;> by_cases hm2:k2.M_=1 <;> rcases h5 with h5 | h5 <;>
   simp (decide:=true) only [h5,jm,jo,jl,jk,jg,jf,jj,ji,g0,g1,e,e2,hm,hm2] <;>
   first | exact .inl ⟨_,rfl⟩ | exact .inr ⟨_,_,rfl,by simp⟩
structure Gr (m:Nat) (a b:CKt):Prop where
 s:b.1.1=a.1.1
 t:b.1.2.1=a.1.2.1
 j:b.1.2.2.2=a.1.2.2.2
 l:b.2.xs.length=a.2.xs.length
 f:∀ i (h:i < a.2.xs.length) (h':i < b.2.xs.length),b.2.xs[i].n_=a.2.xs[i].n_/\b.2.xs[i].P_=a.2.xs[i].P_/\∃ ex,b.2.xs[i].V_.xs=a.2.xs[i].V_.xs++ex/\ex.length<=m
theorem Gr.refl {a b:CKt}(h1:b.1.1=a.1.1) (h2:b.1.2.1=a.1.2.1) (h3:b.1.2.2.2=a.1.2.2.2) (h4:b.2=a.2):Gr 0 a b:=
 ⟨h1,h2,h3,by rw [h4],fun i h h'=>by simp only [h4];exact ⟨trivial,trivial,[],by simp⟩⟩
theorem Gr.trans {a b c:CKt}(h:Gr m a b) (g:Gr k b c):Gr (m+k) a c:=
 ⟨g.s.trans h.s,g.t.trans h.t,g.j.trans h.j,g.l.trans h.l,fun i h1 h2=>by
  have hb:i < b.2.xs.length:=by rw [h.l];exact h1
  obtain ⟨n1,p1,x1,v1,l1⟩:=h.f i h1 hb;obtain ⟨n2,p2,x2,v2,l2⟩:=g.f i hb h2
  exact ⟨n2.trans n1,p2.trans p1,x1++x2,by rw [v2,v1,U8],by rw [jt];omega⟩⟩
theorem Gr.mono {a b:CKt}(h:Gr m a b) (hm:m<=k):Gr k a b:=
 ⟨h.s,h.t,h.j,h.l,fun i h1 h2=>by obtain ⟨n1,p1,x1,v1,l1⟩:=h.f i h1 h2;exact ⟨n1,p1,x1,v1,by omega⟩⟩
def Vc (k:Nat) (st:CKt):Prop:=Vd st/\∀ f∈st.2.xs,f.V_.xs.length+k<=60000
theorem Vc.gr {a b:CKt}(h:Vc (m+k) a) (g:Gr m a b):Vc k b:=by
 have key:∀ f∈b.2.xs,f.V_.xs.length+k<=60000/\0<=f.P_/\f.P_<=f.V_.xs.length:=by
  intro f hf;obtain ⟨i,hi,rfl⟩:=List.getElem_of_mem hf;have ha:i < a.2.xs.length:=by rw [<- g.l];exact hi
  obtain ⟨n1,p1,x1,v1,l1⟩:=g.f i ha hi;have h1:=h.2 _ (jx ha);have h2:=h.1.v _ (jx ha);have h3:=congrArg List.length v1;rw [jt] at h3;exact ⟨by omega,by rw [p1];omega,by rw [p1];omega⟩
 obtain ⟨jn,e,hj⟩:=h.1.j;exact ⟨⟨⟨jn,by rw [g.j,e],by rw [g.l];exact hj⟩,fun f hf=>⟨by have:=(key f hf).1;omega,(key f hf).2⟩,by rw [g.s];exact h.1.s,by rw [g.l];exact h.1.f⟩,fun f hf=>(key f hf).1⟩
theorem Vc.mono {a:CKt}(h:Vc m a) (hk:k<=m):Vc k a:=⟨h.1,fun f hf=>by have:=h.2 f hf;omega⟩
def Sp (m:Nat) (a:CKt) (r:Uc FTt):Prop:=(∃ b,r=some (.inr b)/\Gr m a b)\/zan r
theorem zzk {st:CKt}(h:Vc 1 st) (n:Ua) (p:PP):Sp 1 st (q2w (n,p,st)):=by
 obtain ⟨⟨sg,t,a,j⟩,fns⟩:=st;obtain ⟨⟨⟨jn,rfl,hj⟩,hv,hs,hf⟩,hb⟩:=h;simp only at hj hv hb;have hv:=(hv _ (jx hj)).1;have hb:=hb _ (jx hj);unfold q2w q9y;simp only [zi hj,jf,yP];rw [zgZ _ _ (by simp only;omega)];simp only [jf,jh];by_cases h1:0<=idP n fns.xs[jn].V_.xs
 ·have h2:idP n fns.xs[jn].V_.xs < fns.xs[jn].V_.xs.length:=YO.2.1;obtain ⟨i,hi⟩:∃ i:Nat,idP n fns.xs[jn].V_.xs=(i:Int):=⟨_,(Dg h1).symm⟩
  rw [hi] at h2 h1;simp only [hi,h1,jl,zi (s:=fns.xs[jn].V_) (show i < _ by omega),jf];rcases xz (ok:=decide (fns.xs[jn].V_.xs[i].n_=n) && (decide (fns.xs[jn].V_.xs[i].M_=p.M_) && (decide (fns.xs[jn].V_.xs[i].t_=p.t_) && true))) (e:=40) (s:=((sg,t,a,(jn:Int)),fns)) (by decide) with e | e
  ·exact .inl ⟨_,e,(Gr.refl rfl rfl rfl rfl).mono (by omega)⟩
  ·exact .inr e
 ·simp only [h1,jk,jo,US];rw [ZG (by omega) (by omega),jf];refine .inl ⟨_,rfl,rfl,rfl,rfl,by simp [Sl.set],fun i h1 h2=>?_⟩;simp only [Sl.set,Int.toNat_natCast,List.getElem_set];by_cases hij:jn=i
  ·subst hij;simp only [jl];exact ⟨trivial,trivial,[⟨n,p.M_,p.t_⟩],rfl,by simp⟩
  ·simp only [hij,jk];exact ⟨trivial,trivial,[],by simp⟩
theorem zzl (fs:Sl PNf) (n:Nd) (h:fs.xs.length<=50000):∃ i:Int,q3k (fs,n)=some (i,fs,n)/\i < fs.xs.length:=by
 have:=x9 (f:=q6n q4c) (xs:=fs.xs) (p:=fun x=>decide (x.n_=n.T_)) (st:=fun i=>(fs.len,(i:Int),fs,n)) (yes:=fun i =>.inl ((i:Int),fs,n)) (no :=.inr (fs,n))
  (fun i hi=>by
   unfold q6n;simp only [jh,zn];rw [jr (by simp only [zo];omega),zi hi,jf,jf,jf];show ((some (decide (fs.xs[i].n_=n.T_))).bind _)=_;simp only [jf,zx (show i < 1000000000 by omega)]
   grind)
  (by unfold q6n;simp only [jh,zn];rw [js (by simp only [zo];omega)])
 refine ⟨idx (fun x=>decide (x.n_=n.T_)) fs.xs,?_,YO.2.1⟩;unfold q3k qat;simp only [zn];have this:lpO (q6n q4c) (fs.len,0,fs,n)=_:=this;rw [this];unfold idx;cases fs.xs.findIdx? _ <;> rfl
theorem zv5 {st:CKt}(h:Vd st) (l:Sl Nd) (hl:l.xs.length<=50000) (hk:k < st.2.xs.length):Lk st (q1s (l,((k:Int),0,st.2.xs[k].P_),st)):=by
 obtain ⟨v1,v2,v3⟩:=h.v _ (jx hk);have hgs:=YJ (s:=st.2.xs[k].V_) (lo:=0) (hi:=st.2.xs[k].P_) (by omega) v2 v3;rw [show (0:Int).toNat=0 from rfl,UN] at hgs;unfold q1s q7e;simp only [yP,vG,jf,jh,zi hk,hgs];by_cases hlen:Sl.len l=st.2.xs[k].P_ - 0
 rotate_left
 ·simp only [hlen,jk,jj];exact .inr ⟨_,_,rfl,by simp⟩
 simp only [hlen,jl,ji];simp only [zo] at hlen
 rcases goE (f:=q5r q13 q1e) (n:=l.xs.length) (A:=CKt) (st:=fun i a=>(((k:Int),0,st.2.xs[k].P_),l,st.2.xs[k].P_ - 0,(i:Int),a)) (fin:=fun a =>.inr a) (J:=fun i a=>a=st) (bad:=fun r=>zan (some r))
  (fun i hi a ha=>by
   subst ha;unfold q5r;simp only [jh,zn];have hi2:i < a.2.xs[k].V_.xs.length:=by omega
   rw [jr (by omega),zi hi,jf,zi hk,jf,hgs,jf];rw [zi (s:=⟨_,_⟩) (by grind)];simp only [jf,Int.zero_add];rw [zi hi2,jf];rcases znV h l.xs[i] (a.2.xs[k].V_.xs[i]) with e | ⟨f,s,e,hf⟩
   ·rw [e,jf,ji,zx (by omega)];grind
   ·rw [e,jf,jj]
    exact .inr ⟨_,rfl,_,_,rfl,hf⟩)
  (fun a ha=>by
   unfold q5r
   grind)
  (a:=st) rfl with ⟨a,e,rfl⟩ | ⟨r,e,f,s,e2,hf⟩
 ·exact .inl e
 ·cases e2;exact .inr ⟨_,_,e,hf⟩
abbrev wV:PP:=⟨lit [],1,0⟩
noncomputable abbrev LF (F:Nat):=q1x q20 q2w q1t q3k q13 q1s q1e (q2k F)
def StP (s:Nd):Prop:=∀ F (st:CKt) (l:Sl Nd) (i:Nat) (hi:i < l.xs.length),l.xs[i]=s->l.xs.length<=50000->zm s<=F->Vc (zm s) st->
 (∃ b,LF F (l,l.len,(i:Int),st.1,st.2,wV)=some (.next (l,l.len,((i+1:Nat):Int),b.1,b.2,wV))/\Gr (zm s) st b)\/∃ r,LF F (l,l.len,(i:Int),st.1,st.2,wV)=some (.done r)/\zan (some r)
def BlP (n:Nat) (ks:Sl Nd):Prop:=∀ F (st:CKt),n<=F->Vc n st->Sp n st (q2k F (ks,st))
theorem zma {ks:Sl Nd}(h:∀ s∈ks.xs,StP s) (hl:ze ks.xs<=40000):BlP (ze ks.xs+1) ks:=by
 intro F st hF hv;obtain ⟨F,rfl⟩:∃ k,F=k+1:=⟨F - 1,by omega⟩
 have hk:=wU ks.xs
 rcases goE (f:=LF F) (n:=ks.xs.length) (A:=CKt) (st:=fun i a=>(ks,ks.len,(i:Int),a.1,a.2,wV)) (fin:=fun a =>.inr a) (J:=fun i a=>Gr (ze (ks.xs.take i)) st a) (bad:=fun r=>zan (some r))
  (fun i hi a ha=>by
   have hz:=YS hi;have ha2:Vc (zm ks.xs[i]) a:=Vc.gr (hv.mono (show ze (ks.xs.take i)+zm ks.xs[i]<=_ by omega)) ha;rcases h _ (jx hi) F a ks i hi rfl (by omega) (by omega) ha2 with ⟨b,e,g⟩ | hb
   ·refine .inl ⟨b,e,?_⟩;rw [<- Dh hi,zQ];exact (ha.trans g).mono (by simp [ze])
   grind)
  (fun a ha=>by
   show q1x _ _ _ _ _ _ _ _ _=_;unfold q1x;simp only [jh]
   rw [js (by simp only [zo];omega)])
  (a:=st) ((Gr.refl rfl rfl rfl rfl).mono (by omega)) with ⟨a,e,g⟩ | ⟨r,e,f,s,e2,hf⟩
 ·refine .inl ⟨a,?_,g.mono (by grind)⟩;exact congrArg (fun o=>Option.bind o fun y=>Sum.elim (fun a=>some (Sum.inl a)) (fun b=>some (Sum.inr b)) y) e
 ·cases e2;exact .inr ⟨f,s,congrArg (fun o=>Option.bind o fun y=>Sum.elim (fun a=>some (Sum.inl a)) (fun b=>some (Sum.inr b)) y) e,hf⟩
abbrev XT:=(Int×Int)×CKt⊕Sl Nd×Int×Int×(Sl PSg×Sl PT×Int×Int)×Sl PNf×PP
def znW (st:CKt) (l:Sl Nd) (i m:Nat) (X:Uc XT):Prop:=(∃ b,X=some (.inr (l,l.len,(i:Int),b.1,b.2,wV))/\Gr m st b)\/zan X
theorem ztO {st:CKt}{l:Sl Nd}{i:Nat}{X:Uc XT}(h:znW st l i m X) (hi:i < 1000000000) :
    (∃ b:CKt,(X.bind fun y68=>Sum.elim (fun y69=>some (Step.done (Sum.inl y69:FTt))) (fun y70=>some (Step.next (y70.1,y70.2.1,Ud (y70.2.2.1+1),y70.2.2.2))) y68)=some (.next (l,l.len,((i+1:Nat):Int),b.1,b.2,wV))/\Gr m st b)\/
    ∃ r,(X.bind fun y68=>Sum.elim (fun y69=>some (Step.done (Sum.inl y69:FTt))) (fun y70=>some (Step.next (y70.1,y70.2.1,Ud (y70.2.2.1+1),y70.2.2.2))) y68)=some (.done r)/\zan (some r):=by
  rcases h with ⟨b,rfl,g⟩ | ⟨f,s,rfl,hf⟩
  ·exact .inl ⟨b,by simp only [jf,ji,zx hi],g⟩
  ·exact .inr ⟨_,by simp only [jf,jj];rfl,_,_,rfl,hf⟩
def atS (st:CKt) (a:Int):CKt:=((st.1.1,st.1.2.1,a,st.1.2.2.2),st.2)
theorem Vd.at {st:CKt}(h:Vd st) (a:Int):Vd (atS st a):=⟨h.j,h.v,h.s,h.f⟩
theorem Vc.at {st:CKt}(h:Vc k st) (a:Int):Vc k (atS st a):=⟨h.1.at a,h.2⟩
theorem Gr.at {st b:CKt}(h:Gr m (atS st a) b):Gr m st b:=⟨h.s,h.t,h.j,h.l,h.f⟩
theorem g0 {st:CKt}:Gr m st (atS st a):=(Gr.refl (a:=st) (b:=atS st a) rfl rfl rfl rfl).mono (Us _)
theorem zg0 {k:Nd}(h:n.K_=⟨[k],true⟩) (hn:zm n<=40000):k.K_.xs.length<=50000:=by
 have a:=@yD n k (by rw [h];simp);have b:=@Zm k;omega
theorem vH {s:Nd}(g:StmtG s) (hz:zm s<=40000) (h15:s.k_≠15) (h16:s.k_≠16):StP s:=by
 intro F st l i hi hs hl hF hv;show (∃ b,q1x _ _ _ _ _ _ _ _ _=_/\_)\/∃ r,q1x _ _ _ _ _ _ _ _ _=_/\_
 unfold q1x;simp only [jh,zn,yP];rw [jr (by simp only [zo];omega),zi hi,hs,jf];refine ztO ?_ (by omega);have hv':=hv.1.at s.a_;have bad:∀ {e:Int},e≠0->znW st l i (zm s) (some (.inl ((s.a_,e),atS st s.a_))):=fun he =>.inr ⟨_,_,rfl,he⟩
 have ok:znW st l i (zm s) (some (.inr (l,l.len,(i:Int),(atS st s.a_).1,(atS st s.a_).2,wV))) :=.inl ⟨_,rfl,g0⟩;have hm:∀ (b:Bool) (e:Int),q13 (b,e,(st.1.1,st.1.2.1,s.a_,st.1.2.2.2),st.2)=some (if b=true then .inr (atS st s.a_) else .inl ((s.a_,e),atS st s.a_)):=fun b e=>vG b e (atS st s.a_)
 cases g with
 | @leaf k t n a c=>
  rcases c with rfl | rfl | rfl | rfl | rfl
  ·simp (decide:=true) only [jo,jm,jl,jk,jg,jf,jj,ji,hm];grind
  ·simp (decide:=true) only [jo,jm,jl,jk,jg,jf,jj,ji,hm];grind
  ·simp (decide:=true) only [jo,jm,jl,jk,jg,jf,jj,ji,hm];grind
  ·simp (decide:=true) only [jo,jm,jl,jk,jg,jf,jj,ji,hm,show (nilS:Sl Nd).len=0 from rfl];exact ok
  ·simp (decide:=true) only [jo,jm,jl,jk,jg,jf,jj,ji,hm];exact ok
 |ite=>grind
 |whl=>grind
 |ret c=>
  simp (decide:=true) only [jo,jm,jl,jk,jg,jf,jj,ji,hm,show ∀ x:Nd,Sl.len (⟨[x],true⟩:Sl Nd)=1 from fun _=>rfl];grind
 | @fork t n a ks c=>
  have hkl:=@Zm ⟨19,t,n,a,ks⟩;obtain ⟨x,e,hx⟩:=zzl st.2 ⟨19,t,n,a,ks⟩ hv.1.f;simp (decide:=true) only [jo,jm,jl,jk,jg,jf,hm,e];by_cases h1:0<=x
  rotate_left
  ·grind
  obtain ⟨k,rfl⟩:∃ k:Nat,x=(k:Int):=⟨_,(Dg h1).symm⟩
  have hk:k < st.2.xs.length:=by omega
  obtain ⟨v1,v2,v3⟩:=hv.1.v _ (jx hk);simp only [h1,jo,jl,ji];rw [show (atS st a).2=st.2 from rfl];simp only [zi hk,jf,YJ (s:=st.2.xs[k].V_) (lo:=0) (hi:=st.2.xs[k].P_) (by omega) v2 v3];rcases zv5 (st:=atS st a) hv' ks (by grind) (k:=k) hk with e | ⟨f,s,e,hf⟩
  ·have e:q1s (ks,((k:Int),0,st.2.xs[k].P_),atS st a)=_:=e;grind
  ·have e:q1s (ks,((k:Int),0,st.2.xs[k].P_),atS st a)=_:=e;simp only [e,jf,jj];exact .inr ⟨_,_,rfl,hf⟩
 | @call t n a x c=>
  rcases zqM (st:=atS st a) hv' x (zg0 (n:=⟨20,t,n,a,⟨[x],true⟩⟩) rfl hz) with ⟨p,e⟩ | ⟨f,s,e,hf⟩
  ·have e:q1t (x,(st.1.1,st.1.2.1,a,st.1.2.2.2),st.2)=_:=e;simp (decide:=true) only [jo,jm,jl,jk,jg,jf,show zb (⟨[x],true⟩:Sl Nd) 0=some x from rfl,e,ji];exact ok
  ·have e:q1t (x,(st.1.1,st.1.2.1,a,st.1.2.2.2),st.2)=_:=e;simp (decide:=true) only [jo,jm,jl,jk,jg,jf,show zb (⟨[x],true⟩:Sl Nd) 0=some x from rfl,e,jj];exact .inr ⟨_,_,rfl,hf⟩
 |store c d=>
  simp (decide:=true) only [jo,jm,jl,jk,jg,jf,jj,ji,hm];grind
 | @set t n a x c=>
  rcases zxS (st:=atS st a) hv' c (zg0 (n:=⟨10,t,n,a,⟨[x],true⟩⟩) rfl hz) with ⟨p,e⟩ | ⟨f,s,e,hf⟩
  ·have e:q20 (x,(st.1.1,st.1.2.1,a,st.1.2.2.2),st.2)=_:=e;simp (decide:=true) only [jo,jm,jl,jk,jg,jf,show zb (⟨[x],true⟩:Sl Nd) 0=some x from rfl,e,jj];rcases zzk (st:=atS st a) ((hv.mono (Zi _)).at a) t p with ⟨b,e,g⟩ | ⟨f,s,e,hf⟩
   ·simp only [e,jf,ji];exact .inl ⟨b,rfl,(g.mono (Zi _)).at⟩
   ·simp only [e,jf,jj];exact .inr ⟨_,_,rfl,hf⟩
  ·have e:q20 (x,(st.1.1,st.1.2.1,a,st.1.2.2.2),st.2)=_:=e;simp (decide:=true) only [jo,jm,jl,jk,jg,jf,show zb (⟨[x],true⟩:Sl Nd) 0=some x from rfl,e,ji];exact .inr ⟨_,_,rfl,hf⟩
theorem zfV {k:Int}{op:Ua}{n:Int}{x y:Nd}{bs:List Nd}(hk:k=15\/k=16) (hz:zm ⟨k,op,n,a,⟨x::y::bs,true⟩⟩<=40000) (hb:∀ b∈bs,BlP (zm b) b.K_):StP ⟨k,op,n,a,⟨x::y::bs,true⟩⟩:=by
 intro F st l i hi hs hl hF hv;have hsz:zm ⟨k,op,n,a,⟨x::y::bs,true⟩⟩=zm x+(zm y+ze bs)+1:=by rw [zl];simp [ze]
 have px:=Zi x;have py:=Zi y;show (∃ b,q1x _ _ _ _ _ _ _ _ _=_/\_)\/∃ r,q1x _ _ _ _ _ _ _ _ _=_/\_
 unfold q1x;simp only [jh,zn,yP];rw [jr (by simp only [zo];omega),zi hi,hs,jf];refine ztO ?_ (by omega);have hv':=hv.1.at a;have hgs:Zg (⟨x::y::bs,true⟩:Sl Nd) 2 (⟨x::y::bs,true⟩:Sl Nd).len=some ⟨bs,true⟩:=by
  rw [YJ (by omega) (by simp only [zo,ju];omega) (by simp only [zo];omega)];simp only [zo,Int.toNat_natCast,List.take_length];rfl
 have hbl:=wU bs;have hf:∀ z:Nd,Lk (atS st a) (q1e (z,wV,(st.1.1,st.1.2.1,a,st.1.2.2.2),st.2)):=fun z=>znV hv' z wV
 have main:znW st l i (zm ⟨k,op,n,a,⟨x::y::bs,true⟩⟩) ((lpO (q4r q20 q2w q1t q3k q13 q1s q1e (q2k F)) (l,l.len,(i:Int),⟨bs,true⟩,(⟨bs,true⟩:Sl Nd).len,0,(atS st a).1,(atS st a).2,wV))):=by
  rcases goE (f:=q4r q20 q2w q1t q3k q13 q1s q1e (q2k F)) (n:=bs.length) (A:=CKt)
   (st:=fun j c=>(l,l.len,(i:Int),⟨bs,true⟩,(⟨bs,true⟩:Sl Nd).len,(j:Int),c.1,c.2,wV)) (fin:=fun c =>.inr (l,l.len,(i:Int),c.1,c.2,wV)) (J:=fun j c=>Gr (ze (bs.take j)) (atS st a) c) (bad:=fun r=>zan (some r))
   (fun j hj c hc=>by
    unfold q4r;simp only [jh,zn];rw [jr (by simp only [zo];omega),zi (s:=⟨bs,true⟩) hj,jf];have hz:=YS hj;have hc2:Vc (zm bs[j]) c:=Vc.gr ((hv.at a).mono (show ze (bs.take j)+zm bs[j]<=_ by omega)) hc;rcases hb _ (jx hj) F c (by omega) hc2 with ⟨b,e,g⟩ | ⟨f,s,e,hf⟩
    ·refine .inl ⟨b,?_,?_⟩
     ·show ((q2k F (bs[j].K_,c)).bind _)=_;rw [e,jf,ji,zx (by omega)]
     ·rw [<- Dh hj,zQ];exact (hc.trans g).mono (by simp [ze])
    ·refine .inr ⟨.inl (f,s),?_,f,s,rfl,hf⟩
     grind)
   (fun c hc=>by
    unfold q4r;simp only [jh]
    rw [js (by simp only [zo];omega)])
   (a:=atS st a) ((Gr.refl rfl rfl rfl rfl).mono (by omega)) with ⟨c,e,g⟩ | ⟨r,e,f,s,e2,hf⟩
  ·exact .inl ⟨c,e,(g.mono (by grind)).at⟩
  ·cases e2;exact .inr ⟨_,_,e,hf⟩
 rcases hk with rfl | rfl <;>
 ·simp (decide:=true) only [jo,jm,jl,jk,jg,jf,show zb (⟨x::y::bs,true⟩:Sl Nd) 0=some x from rfl,show zb (⟨x::y::bs,true⟩:Sl Nd) 1=some y from rfl];rcases hf x with e | ⟨f,s,e,hf'⟩
  rotate_left
  ·simp only [e,jf,jj];exact .inr ⟨_,_,rfl,hf'⟩
  have e2:=hf y;simp only [e,jf,ji];rcases e2 with e2 | ⟨f,s,e2,hf'⟩
  rotate_left
  ·have e2:q1e (y,wV,atS st a)=_:=e2;simp only [e2,jf,jj];exact .inr ⟨_,_,rfl,hf'⟩
  have e2:q1e (y,wV,atS st a)=_:=e2;grind
theorem zxT {s:Nd}(h:StmtG s) (hs:zm s<=40000):StP s:=by
 have blk:∀ (a:Int) (b:List Nd),(∀ s∈b,zm s<=40000->StP s)->zm ⟨9,lit [],0,a,mkS b⟩<=40000->BlP (zm ⟨9,lit [],0,a,mkS b⟩) (q8.mk 9 (lit []) 0 a (mkS b)).K_:=fun a b ih hz=>by
  rw [zl] at hz |-
  exact zma (fun s hs=>ih s hs (by have:=XL hs;omega)) (by omega)
 induction h with
 | @ite op n a x y b1 a1 b2 a2 hx hy h1 h2 i1 i2=>
  refine zfV (.inl rfl) hs fun b hb=>?_
  rw [zl] at hs;simp only [ze] at hs;rcases U7.1 hb with rfl | hb
  all_goals grind
 | @whl op n a x y b1 a1 hx hy h1 i1=>
  refine zfV (.inr rfl) hs fun b hb=>?_
  rw [zl] at hs;simp only [ze] at hs;grind
 | @leaf k t n a c=>exact vH (.leaf c) hs (by grind) (by grind)
 |ret c=>exact vH (.ret c) hs (by simp) (by simp)
 |fork c=>exact vH (.fork c) hs (by simp) (by simp)
 |call c=>exact vH (.call c) hs (by simp) (by simp)
 |store c d=>exact vH (.store c d) hs (by simp) (by simp)
 |set c=>exact vH (.set c) hs (by simp) (by simp)
theorem zxU {b:Nd}(h:Vq b) (hs:zm b<=40000):BlP (zm b) b.K_:=by
 obtain ⟨a,l,rfl,hl⟩:=h;rw [zl] at hs |-
 have hs:ze l+1<=40000:=hs;exact zma (fun s hs'=>zxT (hl s hs') (by have:zm s<=ze l:=XL hs';omega)) (by grind)
structure FnR (m:Nat) (t:List PT) (k:Nd) (f:PNf):Prop where
 g:FnG k
 n:f.n_=k.T_
 p:f.P_=((yk k).length:Int)
 l:(yk k).length<=8
 o:zkN t (yk k)
 v:∃ ex,f.V_.xs=(yk k).map (Zd t)++ex/\ex.length<=m
theorem FnR.gr {a b:PNf}(h:FnR m t n a) (g:b.n_=a.n_/\b.P_=a.P_/\∃ ex,b.V_.xs=a.V_.xs++ex/\ex.length<=k):FnR (m+k) t n b:=by
 obtain ⟨g1,g2,ex,g3,g4⟩:=g;obtain ⟨e1,v1,l1⟩:=h.v;exact ⟨h.g,g1.trans h.n,g2.trans h.p,h.l,h.o,e1++ex,by grind,by grind⟩
theorem FnR.mono {a:PNf}(h:FnR m t n a) (hm:m<=k):FnR k t n a:=⟨h.g,h.n,h.p,h.l,h.o,by obtain ⟨e1,v1,l1⟩:=h.v;grind⟩
def Ys (m:Nat) (t:List PT) (ks:List Nd) (fs:List PNf):Prop:=∃ h:fs.length=ks.length,∀ i (hi:i < ks.length),FnR m t ks[i] (fs[i]'(by omega))
theorem Ys.mono {fs:List PNf}(h:Ys m t ks fs) (hm:m<=k):Ys k t ks fs:=⟨h.1,fun i hi=>(h.2 i hi).mono hm⟩
theorem Ys.snoc {fs:List PNf}{k:Nd}{f:PNf}(h:Ys m t ks fs) (g:FnR m t k f):Ys m t (ks++[k]) (fs++[f]):=by
 have hl:=h.1;refine ⟨by simp [hl],fun i hi=>?_⟩;rw [jt,jv] at hi;by_cases c:i < ks.length
 ·rw [List.getElem_append_left c,List.getElem_append_left (by omega)];exact h.2 i c
 ·obtain rfl:i=ks.length:=by omega
  rw [List.getElem_append_right (Ur _),List.getElem_append_right (by omega)];grind
theorem Ys.vc {sg:Sl PSg}{t:Sl PT}{at_:Int}{fs:Sl PNf}(h:Ys m t.xs ks fs.xs) (hs:sg.xs.length<=50000) (hk:ks.length<=50000) (hm:m+5000<=50000) {i:Nat}(hi:i < ks.length):Vc 5000 ((sg,t,at_,(i:Int)),fs):=by
 have key:∀ f∈fs.xs,f.V_.xs.length<=m+8/\0<=f.P_/\f.P_<=f.V_.xs.length:=by
  intro f hf;obtain ⟨j,hj,rfl⟩:=List.getElem_of_mem hf;have r:=h.2 j (by rw [<- h.1];exact hj);obtain ⟨e1,v1,l1⟩:=r.v;have:=congrArg List.length v1;rw [jt,UV] at this;have h8:=r.l;have hp:=r.p;grind
 exact ⟨⟨⟨i,rfl,by show i < fs.xs.length;rw [h.1];exact hi⟩,fun f hf=>⟨by grind,(key f hf).2⟩,hs,by show fs.xs.length<=_;rw [h.1];exact hk⟩,fun f hf=>by grind⟩
theorem Ys.gr {a b:CKt}(h:Ys m t ks a.2.xs) (g:Gr k a b):Ys (m+k) t ks b.2.xs:=
 ⟨g.l.trans h.1,fun i hi=>(h.2 i hi).gr (g.f i (by rw [h.1];exact hi) (by rw [g.l,h.1];exact hi))⟩
theorem zqN (n:Nd) (ok:Bool) (e:Int) (s:CKt):q3b (n,ok,e,s)=some (if ok=true then .inr (atS s n.a_) else .inl ((n.a_,e),atS s n.a_)):=by cases ok <;> rfl
noncomputable abbrev LC0:=q6o q1w q31 q60 q3h q5c q3b q58
noncomputable abbrev LC1:=q6p q1w q31 q60 q3h q5c q3b q58
def znX (n:Nd) (r:((Int×Int)×Nd×Int×Int)⊕β):Prop:=∃ f,r = .inl (f,n,0,0)/\f.2≠0
theorem zxV (hg:UnitG n) (sg:Sl PSg) (t:Sl PT) (ht:t.xs.length<=100000) (at0:Int) :
    (∃ a fs,lpO LC0 (n.K_,n.K_.len,0,n,0,0,(sg,t,at0),Sl.mk [] false)=some (.inr (n,0,0,(sg,t,a),fs))/\Ys 0 t.xs n.K_.xs fs.xs)\/
    ∃ r,lpO LC0 (n.K_,n.K_.len,0,n,0,0,(sg,t,at0),Sl.mk [] false)=some r/\znX n r:=by
  have hkl:=@Zm n;have hsz:=hg.size
  rcases goE (f:=LC0) (n:=n.K_.xs.length) (A:=Int×Sl PNf) (st:=fun i a=>(n.K_,n.K_.len,(i:Int),n,0,0,(sg,t,a.1),a.2)) (fin:=fun a =>.inr (n,0,0,(sg,t,a.1),a.2)) (J:=fun i a=>Ys 0 t.xs (n.K_.xs.take i) a.2.xs) (bad:=znX n)
    (fun i hi a ha=>by
      obtain ⟨a,fs⟩:=a;have hl:=ha.1;rw [UH] at hl;simp only at hl;show (∃ a',q6o _ _ _ _ _ _ _ _=_/\_)\/∃ r,q6o _ _ _ _ _ _ _ _=_/\_
      unfold q6o;simp only [jh,zn,ZJ];rw [jr (by simp only [zo];omega),zi hi,jf,zeS,jf];by_cases h6:n.K_.xs[i].k_=6
      rotate_left
      ·simp only [h6,jm,jg,jk,jj,jf];exact .inr ⟨_,rfl,_,rfl,by simp⟩
      simp only [h6,jo,jl,ji];have hf:FnG n.K_.xs[i]:=by
        rcases hg.kid _ (jx hi) with h | h
        ·exact absurd h.1 (by grind)
        ·exact h
      rcases zxP hf (by have:=yD (jx hi);omega) sg t ht n.K_.xs[i].a_ fs with ⟨a',vars,e,h8,hv,ho⟩ | ⟨r,e,f,s,rfl,hf⟩
      ·simp only [e,jf,ji];rw [ZG (by omega) (by omega)];simp only [jf,ji,zx (show i < 1000000000 by omega)];refine .inl ⟨(a',_),rfl,?_⟩;rw [<- Dh hi];exact ha.snoc ⟨hf,rfl,rfl,h8,ho,[],by simp [hv],by simp⟩
      · simp only [e,jf,jj]
        exact .inr ⟨_,rfl,_,rfl,hf⟩)
    (fun a ha=>by
      show q6o _ _ _ _ _ _ _ _=_;unfold q6o;simp only [jh,zn]
      rw [js (by simp only [zo];omega)])
    (a:=(at0,Sl.mk [] false)) ⟨by simp,fun i hi=>by simp at hi⟩ with ⟨⟨a,fs⟩,e,h⟩ | h
  all_goals grind
theorem zxW (hg:UnitG n) (sg:Sl PSg) (t:Sl PT) (hs:sg.xs.length<=50000) (at0:Int) {fs0:Sl PNf}(h0:Ys 0 t.xs n.K_.xs fs0.xs) :
    (∃ a fs,lpO LC1 (n.K_,n.K_.len,0,n,0,0,(sg,t,at0),fs0)=some (.inr (n,0,0,(sg,t,a),fs))/\Ys 5000 t.xs n.K_.xs fs.xs)\/
    ∃ r,lpO LC1 (n.K_,n.K_.len,0,n,0,0,(sg,t,at0),fs0)=some r/\znX n r:=by
  have hkl:=@Zm n;have hsz:=hg.size;have hse:=zl n
  rcases goE (f:=LC1) (n:=n.K_.xs.length) (A:=Int×Sl PNf) (st:=fun i a=>(n.K_,n.K_.len,(i:Int),n,0,0,(sg,t,a.1),a.2)) (fin:=fun a =>.inr (n,0,0,(sg,t,a.1),a.2)) (J:=fun i a=>Ys (ze (n.K_.xs.take i)) t.xs n.K_.xs a.2.xs) (bad:=znX n)
    (fun i hi a ha=>by
      obtain ⟨a,fs⟩:=a;have hl:=ha.1;have hst:=YS hi;simp only at hl;have r:=ha.2 i hi;obtain ⟨_,ps,rr,b,hk,_,_,_,hb⟩:=r.g;have hlen:n.K_.xs[i].K_.xs.length=ps.length+2:=by rw [hk];simp
      have hki:=@Zm n.K_.xs[i];have hbz:=yD (n:=n.K_.xs[i]) (k:=b) (by rw [hk];simp);have hgl:zb n.K_.xs[i].K_ (Ud (n.K_.xs[i].K_.len - 1))=some b:=by
        rw [zo,hlen,zM (by omega) (by omega),show (((ps.length+2:Nat):Int) - 1)=((ps.length+1:Nat):Int) by omega,zi (by omega)];simp [hk]
      show (∃ a',q6p _ _ _ _ _ _ _ _=_/\_)\/∃ r,q6p _ _ _ _ _ _ _ _=_/\_
      unfold q6p;simp only [jh,zn];rw [jr (by simp only [zo];omega),zi hi,jf,zi (s:=fs) (by omega),jf,hgl,jf];have vc:Vc 5000 ((sg,t,a,(i:Int)),fs):=ha.vc hs (by omega) (by omega) hi;have hbl:=zxU hb (by omega) 100000 ((sg,t,a,(i:Int)),fs) (by omega) (vc.mono (by omega));rcases hbl with ⟨c,e,g⟩ | ⟨f,s,e,hf⟩
      rotate_left
      ·have e:q3h (b.K_,(sg,t,a,(i:Int)),fs)=_:=e;simp only [e,jf,jj];exact .inr ⟨_,rfl,_,rfl,hf⟩
      have e:q3h (b.K_,(sg,t,a,(i:Int)),fs)=_:=e;have hj:c.1.2.2.2=(i:Int):=g.j;have gl:c.2.xs.length=fs.xs.length:=g.l;have hci:i < c.2.xs.length:=by omega
      have fin':Ys (ze (n.K_.xs.take (i+1))) t.xs n.K_.xs c.2.xs:=by
        rw [<- Dh hi,zQ];exact (Ys.gr (a:=((sg,t,a,(i:Int)),fs)) ha g).mono (by simp only [ze];omega)
      have cs:c.1.1=sg:=g.s;have ct:c.1.2.1=t:=g.t;simp only [e,jf,ji,hj,zi hci,zqN];by_cases h64:Sl.len c.2.xs[i].V_<=64
      rotate_left
      ·simp only [h64,jk,jg,jj,jf];exact .inr ⟨_,rfl,_,rfl,by simp⟩
      obtain ⟨cc,rc,e1,_,_,_⟩:=zkM r.g (by omega);simp only [h64,jl,e1,jf];by_cases h5:Sl.len cc.L_<=512
      ·simp only [h5,jo,jl,jf,ji,zx (show i < 1000000000 by omega),atS,cs,ct];exact .inl ⟨(_,_),rfl,fin'⟩
      · simp only [h5,jm,jk,jg,jj,jf]
        exact .inr ⟨_,rfl,_,rfl,by simp⟩)
    (fun a ha=>by
      show q6p _ _ _ _ _ _ _ _=_;unfold q6p;simp only [jh,zn]
      rw [js (by simp only [zo];omega)])
    (a:=(at0,fs0)) (by simpa [ze] using h0) with ⟨⟨a,fs⟩,e,h⟩ | h
  ·rw [List.take_length] at h;exact .inl ⟨a,fs,e,h.mono (by omega)⟩
  grind
theorem zsU (hg:UnitG n) (sg:Sl PSg) (t:Sl PT) (hs:sg.xs.length<=50000) (ht:t.xs.length<=100000) :
    ∃ a e fs,q77 (n,sg,t)=some (a,e,fs)/\(e≠0/\fs.xs=[]\/e=0/\Ys 5000 t.xs n.K_.xs fs.xs):=by
  unfold q77 qd9;simp only [zn];rcases zxV hg sg t ht 0 with ⟨a,fs,e,h⟩ | ⟨r,e,f,rfl,hf⟩
  · rw [e];simp only [jf,ji];rcases zxW hg sg t hs a h with ⟨b,gs,e,h⟩ | ⟨r,e,f,rfl,hf⟩
    ·rw [e];exact ⟨_,_,gs,rfl,.inr ⟨rfl,h⟩⟩
    ·rw [e];exact ⟨_,_,_,rfl,.inl ⟨hf,rfl⟩⟩
  ·rw [e];exact ⟨_,_,_,rfl,.inl ⟨hf,rfl⟩⟩
end Go.Px
