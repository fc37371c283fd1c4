/- Part Le. -/
import Derived.Test.YtepembddmcabhaaGreatDoorLd
set_option linter.unusedVariables false
set_option linter.unusedSimpArgs false
namespace Go.Px
def ztM (n:Nd):Prop:=n.k_=28/\∀ k∈n.K_.xs,yv k
inductive ExprG:Nd->Prop
 |term {n}:n.k_=5->yv n->ExprG n
 |leaf {n}:(n.k_=23\/n.k_=24\/n.k_=26\/n.k_=27)->yv n->ExprG n
 |call {n}:ztM n->ExprG n
 |load {n x}:n.k_=25->n.K_=⟨[x],true⟩->yv x->ExprG n
 |two {n x y}:(n.k_=21\/n.k_=22)->n.K_=⟨[x,y],true⟩->yv x->yv y->ExprG n
inductive StmtG:Nd->Prop
 |leaf {k:Int} {t n a}:(k=12\/k=13\/k=14\/k=17\/k=18)->StmtG ⟨k,t,n,a,nilS⟩
 |ite {op n a x y b1 a1 b2 a2}:yv x->yv y->(∀ s∈b1,StmtG s)->(∀ s∈b2,StmtG s)->StmtG ⟨15,op,n,a,⟨[x,y,⟨9,lit [],0,a1,mkS b1⟩,⟨9,lit [],0,a2,mkS b2⟩],true⟩⟩
 |whl {op n a x y b1 a1}:yv x->yv y->(∀ s∈b1,StmtG s)->StmtG ⟨16,op,n,a,⟨[x,y,⟨9,lit [],0,a1,mkS b1⟩],true⟩⟩
 |ret {t n a x}:yv x->StmtG ⟨17,t,n,a,⟨[x],true⟩⟩
 |fork {t n a ks}:(∀ k∈ks.xs,yv k)->StmtG ⟨19,t,n,a,ks⟩
 |call {t n a c}:ztM c->StmtG ⟨20,t,n,a,⟨[c],true⟩⟩
 |store {t n a x y}:yv x->yv y->StmtG ⟨11,t,n,a,⟨[x,y],true⟩⟩
 |set {t n a e}:ExprG e->StmtG ⟨10,t,n,a,⟨[e],true⟩⟩
def Vq (n:Nd):Prop:=∃ a l,n=⟨9,lit [],0,a,mkS l⟩/\∀ s∈l,StmtG s
def vj (n:Nd):Prop:=n.k_=8/\(n.T_=lit [105,110,116]/\n.K_=nilS\/(n.T_=lit [111,119,110]\/n.T_=lit [38]\/n.T_=lit [38,109,117,116])/\∃ k,n.K_=⟨[k],true⟩/\yv k)
def zeO (n:Nd):Prop:=n.T_=lit []/\n.K_=nilS\/vj n
def zc3 (n:Nd):Prop:=n.k_=7/\∃ m,n.K_=⟨[m],true⟩/\vj m
def FnG (n:Nd):Prop:=n.k_=6/\∃ ps r b,n.K_=⟨ps++[r,b],true⟩/\(∀ p∈ps,zc3 p)/\zeO r/\r.k_=8/\Vq b
theorem zgU {ts t:List Tk}{ks:Sl Nd}(h:VK ts = .ok (ks,t)):∀ k∈ks.xs,yv k:=by
 obtain ⟨u,t1,_,h⟩:=bd_ok h;split at h
 ·cases h;simp
 ·obtain ⟨l,t2,e,h⟩:=bd_ok h;obtain ⟨u,t3,_,h⟩:=bd_ok h;cases h;exact zdu (fun _ _ _=>yF) e
theorem znS {ts t:List Tk}{n:Nd}(h:Z6 ts = .ok (n,t)):n.k_=5:=by
 have hm:∀ (m:Nd) ts,m.k_=5->xK m ts = .ok (n,t)->n.k_=5:=by
  intro m ts hm h;unfold xK at h;split at h
  ·obtain ⟨v,t1,_,h⟩:=bd_ok h;cases h;exact hm
  split at h
  ·obtain ⟨v,t1,_,h⟩:=bd_ok h;cases h;exact hm
  grind
 unfold Z6 at h;split at h
 ·obtain ⟨v,t1,_,h⟩:=bd_ok h;cases h;rfl
 split at h
 ·obtain ⟨v,t1,_,h⟩:=bd_ok h;cases h;rfl
 ·obtain ⟨m,t1,em,h⟩:=bd_ok h;obtain ⟨_,t2,_,e⟩:=bd_ok em;grind
theorem zvV {ts t:List Tk}{n:Nd}(h:vf ts = .ok (n,t)):ExprG n:=by
 unfold vf at h;split at h
 ·obtain ⟨v,t1,_,h⟩:=bd_ok h;cases h;exact .leaf (.inl rfl) rfl
 split at h
 ·obtain ⟨v,t1,_,h⟩:=bd_ok h;cases h;exact .leaf (.inr (.inl rfl)) rfl
 split at h
 ·split at h
  ·obtain ⟨v,t1,_,h⟩:=bd_ok h;cases h;exact .leaf (.inr (.inr (.inr rfl))) rfl
  ·obtain ⟨v,t1,_,h⟩:=bd_ok h;cases h;exact .leaf (.inr (.inr (.inl rfl))) rfl
 split at h
 ·exact .term (znS h) (yF h)
 obtain ⟨m,t1,em,h⟩:=bd_ok h;have hm:=zH em;obtain ⟨_,t0,_,e⟩:=bd_ok em;cases e;split at h
 ·obtain ⟨ks,t2,e,h⟩:=bd_ok h;cases h;exact .call ⟨rfl,zgU e⟩
 split at h
 ·obtain ⟨x,t2,e,h⟩:=bd_ok h;obtain ⟨u,t3,_,h⟩:=bd_ok h;cases h;exact .load rfl rfl (yF e)
 split at h
 ·obtain ⟨x,t2,e,h⟩:=bd_ok h;cases h;exact .two (.inl rfl) rfl hm (zH e)
 split at h
 ·obtain ⟨x,t2,e,h⟩:=bd_ok h;cases h;exact .two (.inr rfl) rfl hm (zH e)
 ·have hk:=zfF hm h;unfold xK at h;split at h
  ·obtain ⟨v,t1,_,h⟩:=bd_ok h;cases h;exact .term rfl hk
  split at h
  ·obtain ⟨v,t1,_,h⟩:=bd_ok h;cases h;exact .term rfl hk
  ·cases h;exact .term rfl hk
theorem wy {n m:Nd}{ts t:List Tk}(h:Wt n ts = .ok (m,t)):m=n:=by
 obtain ⟨u,t1,_,h⟩:=bd_ok h;cases h;rfl
theorem zvW {blk:List Tk->PR Nd}(hb:∀ ts n t,blk ts = .ok (n,t)->Vq n) {ts t:List Tk}{n:Nd}(h:YN blk ts = .ok (n,t)):StmtG n:=by
 have br:∀ k a ts n t,wu blk k a ts = .ok (n,t)->∃ op x y b,yv x/\yv y/\Vq b/\n=⟨k,op,0,a,⟨[x,y,b],true⟩⟩:=by
  intro k a ts n t h;obtain ⟨m,t1,em,h⟩:=bd_ok h;obtain ⟨b,t2,eb,h⟩:=bd_ok h;obtain ⟨⟨_,_,x,y,hk,hx,hy⟩,h0⟩:=zl6 em;grind
 have at':∀ k ts n t,atP k ts = .ok (n,t)->n.k_=k:=by
  intro k ts n t h;obtain ⟨m,t1,em,h⟩:=bd_ok h;obtain ⟨u,t2,_,h⟩:=bd_ok h;obtain ⟨v,t3,_,h⟩:=bd_ok h;obtain ⟨u,t4,_,h⟩:=bd_ok h;cases h;rfl
 unfold YN at h;split at h
 ·obtain ⟨m,t1,_,h⟩:=bd_ok h;rw [wy h];exact .leaf (.inl rfl)
 split at h
 ·obtain ⟨m,t1,e,h⟩:=bd_ok h;rw [wy h];exact .leaf (.inr (.inl (at' _ _ _ _ e)))
 split at h
 ·obtain ⟨m,t1,e,h⟩:=bd_ok h;rw [wy h];exact .leaf (.inr (.inr (.inl (at' _ _ _ _ e))))
 split at h
 ·obtain ⟨m,t1,e,h⟩:=bd_ok h;obtain ⟨op,x,y,b,hx,hy,⟨a1,l1,rfl,h1⟩,rfl⟩:=br _ _ _ _ _ e;split at h
  ·obtain ⟨b2,t2,e2,h⟩:=bd_ok h;obtain ⟨a2,l2,rfl,h2⟩:=hb _ _ _ e2;cases h;exact .ite hx hy h1 h2
  ·cases h;exact .ite (b2:=[]) hx hy h1 (by simp)
 split at h
 ·obtain ⟨op,x,y,b,hx,hy,⟨a1,l1,rfl,h1⟩,rfl⟩:=br _ _ _ _ _ h;exact .whl hx hy h1
 split at h
 ·split at h
  ·rw [wy h];exact .leaf (.inr (.inr (.inr (.inl rfl))))
  ·obtain ⟨x,t1,e,h⟩:=bd_ok h;rw [wy h];exact .ret (yF e)
 split at h
 ·rw [wy h];exact .leaf (.inr (.inr (.inr (.inr rfl))))
 split at h
 ·obtain ⟨m,t1,_,h⟩:=bd_ok h;obtain ⟨ks,t2,e,h⟩:=bd_ok h;rw [wy h];exact .fork (zgU e)
 obtain ⟨m,t1,_,h⟩:=bd_ok h;obtain ⟨q,t2,e,h⟩:=bd_ok h;rw [wy h];unfold WT at e;split at e
 ·obtain ⟨ks,t3,e1,e⟩:=bd_ok e;cases e;exact .call ⟨rfl,zgU e1⟩
 split at e
 ·obtain ⟨x,t3,e1,e⟩:=bd_ok e;obtain ⟨u,t4,_,e⟩:=bd_ok e;obtain ⟨u,t5,_,e⟩:=bd_ok e;obtain ⟨y,t6,e2,e⟩:=bd_ok e;cases e;exact .store (yF e1) (yF e2)
 ·obtain ⟨u,t3,_,e⟩:=bd_ok e;obtain ⟨x,t4,e1,e⟩:=bd_ok e;cases e;exact .set (zvV e1)
theorem zkF {one:List Tk->PR Nd}(hg:∀ ts n t,one ts = .ok (n,t)->StmtG n):∀ (j:Nat) (acc:List Nd) (ts:List Tk) (l:List Nd) (t:List Tk),(∀ x∈acc,StmtG x)->xw one j acc ts = .ok (l,t)->∀ x∈l,StmtG x
 |0,acc,ts,l,t,h,e=>by cases e
 |j+1,acc,ts,l,t,h,e=>by
  unfold xw at e;split at e
  ·grind
  ·obtain ⟨a,t1,e1,e⟩:=bd_ok e;refine zkF hg j _ _ l t (fun x hx=>?_) e;grind
theorem zkG:∀ (r:Nat) (ts:List Tk) (n:Nd) (t:List Tk),yd r ts = .ok (n,t)->Vq n
 |0,ts,n,t,h=>by unfold yd at h;split at h <;> cases h
 |r+1,ts,n,t,h=>by
  unfold yd at h;obtain ⟨u,t1,_,h⟩:=bd_ok h;obtain ⟨l,t2,e,h⟩:=bd_ok h;cases h;exact ⟨_,l,rfl,zkF (fun ts n t=>zvW (zkG r)) _ _ _ _ _ (by simp) e⟩
theorem zgV {ts t:List Tk}{n:Nd}(h:wR ts = .ok (n,t)):vj n:=by
 unfold wR at h;split at h
 ·rename_i c;cases h;exact ⟨rfl,.inl ⟨Xx c,rfl⟩⟩
 split at h
 ·rename_i c;obtain ⟨k,t1,e,h⟩:=bd_ok h;cases h;exact ⟨rfl,.inr ⟨.inl (Xx c),k,rfl,zH e⟩⟩
 obtain ⟨u,t1,em,h⟩:=bd_ok h;split at h
 ·obtain ⟨k,t2,e,h⟩:=bd_ok h;cases h;exact ⟨rfl,.inr ⟨.inr (.inr rfl),k,rfl,zH e⟩⟩
 ·obtain ⟨k,t2,e,h⟩:=bd_ok h;cases h;refine ⟨rfl,.inr ⟨.inr (.inl ?_),k,rfl,zH e⟩⟩;unfold zX at em;split at em
  ·rename_i c;exact Xx c
  ·cases em
theorem zsN {ts t:List Tk}{n:Nd}(h:xv ts = .ok (n,t)):zc3 n:=by
 obtain ⟨m,t1,_,h⟩:=bd_ok h;obtain ⟨u,t2,_,h⟩:=bd_ok h;obtain ⟨k,t3,e,h⟩:=bd_ok h;cases h;exact ⟨rfl,k,rfl,zgV e⟩
theorem zzf {ts t:List Tk}{n:Nd}{a:Int}(h:fnP a ts = .ok (n,t)):FnG n:=by
 rw [zqz] at h;obtain ⟨m,t1,_,h⟩:=bd_ok h;obtain ⟨u,t2,_,h⟩:=bd_ok h;obtain ⟨ps,t3,e3,h⟩:=bd_ok h;obtain ⟨r,t4,e4,h⟩:=bd_ok h;obtain ⟨b,t5,e5,h⟩:=bd_ok h;cases h;obtain ⟨p2,t6,e6,e3⟩:=bd_ok e3;obtain ⟨u,t7,_,e3⟩:=bd_ok e3;cases e3;refine ⟨rfl,ps,r,b,rfl,?_,?_,?_,zkG _ _ _ _ e5⟩
 ·split at e6
  ·cases e6;simp
  ·exact zdu (fun _ _ _=>zsN) e6
 ·unfold zkx at e4;split at e4
  ·split at e4
   ·cases e4
   ·exact .inr (zgV e4)
  ·cases e4;exact .inl ⟨rfl,rfl⟩
 ·unfold zkx at e4;split at e4
  ·split at e4
   ·cases e4
   ·exact (zgV e4).1
  grind
theorem zeP:∀ (j:Nat) (acc:List Nd) (ts:List Tk) (l:List Nd) (t:List Tk),(∀ x∈acc,X6 x\/FnG x)->Yr j acc ts = .ok (l,t)->∀ x∈l,X6 x\/FnG x
 |0,acc,ts,l,t,h,e=>by cases e
 |j+1,acc,ts,l,t,h,e=>by
  have app:∀ a,(X6 a\/FnG a)->∀ x∈acc++[a],X6 x\/FnG x:=fun a ha x hx=>by
   grind
  unfold Yr at e;split at e
  ·grind
  split at e
  ·obtain ⟨a,t1,e1,e⟩:=bd_ok e;exact zeP j _ _ l t (app a (.inr (zzf e1))) e
  ·obtain ⟨u,t0,_,e⟩:=bd_ok e;obtain ⟨a,t1,e1,e⟩:=bd_ok e;exact zeP j _ _ l t (app a (.inl (zxE e1))) e
structure UnitG (n:Nd):Prop where
 eq:∃ l,n=⟨0,lit [],0,0,mkS l⟩
 kid:∀ k∈n.K_.xs,X6 k\/FnG k
 size:zm n<=4096
theorem zkH {s:Ua}(h:(xU s).2.2=0):UnitG (xU s).1:=by
 unfold xU at h |-
 split at h
 ·grind
 rename_i hc;rw [js hc];have hne:∀ e,Yr (ZY s).2.2.xs.length [] (ZY s).2.2.xs = .error e->e.2≠0:=by
  intro e he h2;have hz:(ZY s).2.1=0:=by
   grind
  obtain ⟨g,hn⟩:=zcW hz;have gk:GK ⟨(ZY s).2.2.xs.map toR,true⟩ 0 (ZY s).2.2.xs:=⟨rfl,g,by have:=g.len;omega,zkz s⟩;have:=zfR (z1:=(0,lit [],0,0)) (z2:=(0,lit [],0,0)) _ _ 0 [] gk (by have:=g.len;omega) (Ur _) (by have:=g.len;simp;omega);grind
 cases e:Yr (ZY s).2.2.xs.length [] (ZY s).2.2.xs with
 |error er=>grind
 |ok p=>
  obtain ⟨l,t⟩:=p;rw [e] at h;simp only at h |-
  split at h
  ·simp at h
  ·rename_i hs;rw [js hs];exact ⟨⟨l,rfl⟩,zeP _ _ _ l t (by simp) e,by rw [zl];show ze l+1<=4096;omega⟩
theorem XL:∀ {l:List Nd}{x:Nd},x∈l->zm x<=ze l
 |y::l,x,h=>by
  rcases U7.1 h with rfl | h
  ·simp [ze]
  ·have:=XL h;simp only [ze];omega
theorem wU:∀ l:List Nd,l.length<=ze l
 |[]=>by simp
 |x::l=>by have:=Zi x;have:=wU l;simp only [ze,ju];omega
theorem Zm {n:Nd}:n.K_.xs.length+1<=zm n:=by rw [zl];have:=wU n.K_.xs;omega
theorem yD {n k:Nd}(h:k∈n.K_.xs):zm k+1<=zm n:=by rw [zl n];have:=XL h;omega
abbrev PP:=qg
abbrev PSg:=qd
theorem zsO (l:List Ua) (s:Ua) (hl:l.length<=1000):q2g (⟨l,true⟩,s)=some (idx (fun w=>decide (s=w)) l):=by
 have:=x9 (f:=q1i) (xs:=l) (p:=fun w=>decide (s=w)) (st:=fun i=>(⟨l,true⟩,s,Sl.len (⟨l,true⟩:Sl Ua),(i:Int))) (yes:=fun i =>.inl (i:Int)) (no :=.inr ())
  (fun i hi=>by
   unfold q1i;simp only [jh];simp only [zo,zi (s:=⟨l,true⟩) hi,jf];rw [jr (by omega),zx (by omega)]
   split <;> rfl)
  (by unfold q1i;simp only [jh];rw [js (by show ¬ ((l.length:Int) < (l.length:Int));omega)])
 show ((lpO q1i (⟨l,true⟩,s,Sl.len (⟨l,true⟩:Sl Ua),((0:Nat):Int))).bind _)=_;rw [this];unfold idx;cases l.findIdx? _ <;> rfl
def znT:List Ua:=[lit [],lit [105,110,116],lit [111,119,110],lit [38],lit [38,109,117,116]]
def mI (s:Ua):Int:=idx (fun w=>decide (s=w)) znT
def p0:PP:=⟨lit [],0,0⟩
def X7 (t:List PT) (n:Nd):Uc PP:=
 if n.K_.xs=[] then some ⟨lit [],mI n.T_,0⟩ else if idT (zP n).T_ t < 0 then none else some ⟨lit [],mI n.T_,idT (zP n).T_ t⟩
def idP (n:Ua) (l:List PP):Int:=idx (fun x=>decide (x.n_=n)) l
def idM (ty:Int) (l:List PP):Int:=idx (fun x=>decide (1 < x.M_) && decide (x.t_=ty)) l
def YR (t:List PT) (i:Int):Int:=(t[i.toNat]?).elim 0 qa.S_
def yq (t:List PT) (acc:List PP) (k:Nd):Except Er (List PP):=
 if 0<=idP k.T_ acc then .error (k.a_,30) else match X7 t (zP k) with
  |none =>.error ((zP k).a_,31)
  |some p=>if (1 < p.M_/\YR t p.t_≠0)/\0<=idM p.t_ acc then .error ((zP k).a_,34) else .ok (acc++[⟨k.T_,p.M_,p.t_⟩])
def zgW (n:Nd) (i:Nat):Nd:=n.K_.xs.getD i Xe
def Xa (t:List PT) (n:Nd):Except Er PSg:=
 let c:=n.K_.xs.length - 2
 if 8 < c then .error (n.a_,22) else ((n.K_.xs.take c).foldlM (yq t) []).bind fun ps=>match X7 t (zgW n c) with
  |none =>.error ((zgW n c).a_,31)
  |some r =>.ok ⟨n.T_,mkS ps,r⟩
def zdv (t:List PT) (l:List Nd):Except Er (List PSg):=l.foldlM (fun s k=>if k.k_=6 then (Xa t k).bind fun x =>.ok (s++[x]) else .ok s) []
theorem zfU {n:Nd}(h:vj n\/zeO n):n.K_=nilS\/∃ k,n.K_=⟨[k],true⟩:=by
 rcases h with ⟨_,⟨_,h⟩ | ⟨_,k,h,_⟩⟩ | ⟨_,h⟩ | ⟨_,⟨_,h⟩ | ⟨_,k,h,_⟩⟩
 ·exact .inl h
 all_goals grind
theorem zkI {t:Sl PT}{n:Nd}(h:vj n\/zeO n) (ht:t.xs.length<=100000):qa3 (n,t)=some (match X7 t.xs n with | some p=>(p,0) | none=>(p0,31)):=by
 unfold qa3 qet X7;rw [show (Sl.mk [lit [],lit [105,110,116],lit [111,119,110],lit [38],lit [38,109,117,116]] true:Sl Ua)=⟨znT,true⟩ from rfl,zsO znT _ (by decide)];simp only [jf];rcases zfU h with hk | ⟨k,hk⟩
 ·simp (decide:=true) only [hk,show (nilS:Sl Nd).len=0 from rfl,jk,jl,jf,ji];rfl
 ·have e0:zP n=k:=by unfold zP;rw [hk];rfl
  rw [e0];simp (decide:=true) only [hk,show Sl.len (⟨[k],true⟩:Sl Nd)=1 from rfl,show zb (⟨[k],true⟩:Sl Nd) 0=some k from rfl,jk,jl,jf,Vo t _ (show t.xs.length<=1000000 by omega),jh];by_cases h2:idT k.T_ t.xs < 0
  ·simp only [h2,jl,jf,jj];rfl
  ·simp only [h2,jk,jf,ji];rfl
theorem zqI {α γ:Type}{f:α×γ->Uc (Bool×γ)}{p:α->Bool}{c:γ}(hf:∀ x,f (x,c)=some (p x,c)) (s:Sl α) (hs:s.xs.length<=1000000) {body:Int×Int×Sl α×γ->Uc (Step (Int×Int×Sl α×γ) (Int×Sl α×γ⊕Sl α×γ))}
    (hb:∀ y0,body y0=if decide (y0.2.1 < y0.1)=true then (zb y0.2.2.1 y0.2.1).bind fun y1=>(zb y0.2.2.1 y0.2.1).bind fun y2=>(f (y2,y0.2.2.2)).bind fun y3=>if y3.1=true then some (.done (.inl (y0.2.1,y0.2.2.1,y3.2))) else some (.next (y0.1,Ud (y0.2.1+1),y0.2.2.1,y3.2)) else some (.done (.inr y0.2.2))) :
    ((lpO body (s.len,0,s,c)).bind fun y4=>Sum.elim (fun y5=>some y5) (fun y6=>some (-1,y6)) y4)=some (idx p s.xs,s,c):=by
  have:=x9 (f:=body) (xs:=s.xs) (p:=p) (st:=fun i=>(s.len,(i:Int),s,c)) (yes:=fun i =>.inl ((i:Int),s,c)) (no :=.inr (s,c))
    (fun i hi=>by
      rw [hb];simp only [jh];simp only [zo,zi hi,jf,hf];rw [jr (by omega),zx (by omega)]
      split <;> rfl)
    (by rw [hb];simp only [jh];rw [js (by rw [zo];omega)])
  rw [show ((0:Int))=((0:Nat):Int) from rfl,this];unfold idx;cases s.xs.findIdx? p <;> rfl
theorem zl8 (l:Sl PP) (q:PP) (hl:l.xs.length<=1000000):q50 (l,q)=some (decide (0<=idP q.n_ l.xs),l,q):=by
 show (((lpO (qaq qa5) (l.len,0,l,q)).bind _).bind _)=_;rw [zqI (body:=qaq qa5) (f:=qa5) (p:=fun x:PP=>decide (x.n_=q.n_)) (fun x=>rfl) l hl (fun y=>rfl)];rfl
theorem zvX (l:Sl PP) (q:PP) (hl:l.xs.length<=1000000):q51 (l,q)=some (decide (0<=idM q.t_ l.xs),l,q):=by
 show (((lpO (qar q8j) (l.len,0,l,q)).bind _).bind _)=_;rw [zqI (body:=qar q8j) (f:=q8j) (p:=fun x:PP=>decide (1 < x.M_) && decide (x.t_=q.t_)) (fun x=>?_) l hl (fun y=>rfl)];rfl;unfold q8j qdz;grind
theorem zqJ {t:Sl PT}{p:PP}(h:0<=p.t_/\p.t_ < t.xs.length\/p.M_<=1):q76 (p,t)=some (decide (1 < p.M_/\YR t.xs p.t_≠0)):=by
 unfold q76 qd8;by_cases h1:1 < p.M_
 ·obtain ⟨h2,h3⟩ | h:=h
  ·obtain ⟨j,hj⟩:∃ j:Nat,p.t_=j:=⟨_,(Dg h2).symm⟩
   have hlt:j < t.xs.length:=by omega
   simp only [h1,jo,jl,hj,zi hlt,jf,YR,Int.toNat_natCast,Uq hlt,Option.elim_some,Uo]
  ·omega
 ·simp [h1]
theorem zzg (n:Nd) (h:n.K_=nilS) (hg:vj n\/zeO n):mI n.T_<=1:=by
 have a0:mI (lit [])=0:=by decide +kernel
 have a1:mI (lit [105,110,116])=1:=by decide +kernel
 rcases hg with ⟨_,⟨h1,_⟩ | ⟨_,k,h2,_⟩⟩ | ⟨h1,_⟩ | ⟨_,⟨h1,_⟩ | ⟨_,k,h2,_⟩⟩
 ·grind
 all_goals grind
theorem zeg {t:List PT}{n:Nd}{p:PP}(hg:vj n\/zeO n) (h:X7 t n=some p):0<=p.t_/\p.t_ < t.length\/p.M_<=1:=by
 unfold X7 at h;split at h
 ·rename_i hk;cases h;refine .inr (zzg n ?_ hg);rcases zfU hg with h | ⟨k,h⟩
  all_goals grind
 split at h
 ·cases h
 ·cases h;have:idT (zP n).T_ t < t.length:=YO.2.1;grind
abbrev SgH:=Ua×Ua×Int×Int
noncomputable abbrev znU:=qco qa3 q50 q76 q51
theorem zsP {t:Sl PT}(ht:t.xs.length<=20000) {ks:Sl Nd}(hk:ks.xs.length<=20000) (hg:∀ p∈ks.xs,zc3 p) (last:Int) (n:Nd) (z h:SgH) :
    lpO znU (t,last,ks,ks.len,0,n,z,h,mkS [])=some (match ks.xs.foldlM (yq t.xs) [] with | .error e =>.inl (e.1,e.2,lit [],lit [],0,0) | .ok l =>.inr (t,last,n,z,h,mkS l)):=by
  have:=zkA (f:=znU) (xs:=ks.xs) (step:=yq t.xs) (st:=fun i a=>(t,last,ks,ks.len,(i:Int),n,z,h,mkS a)) (fin:=fun a =>.inr (t,last,n,z,h,mkS a)) (er:=fun e =>.inl (e.1,e.2,lit [],lit [],0,0)) (I:=fun i a=>a.length=i)
    (fun i hi a ha=>by
      unfold znU qco;have hw:=zx (k:=i) (by omega);obtain ⟨_,m,hm,hmg⟩:=hg _ (jx hi);have e0:zP ks.xs[i]=m:=by unfold zP;rw [hm];rfl
      simp only [jh,zn];rw [jr (by rw [zo];omega),zi hi];have g0:zb ks.xs[i].K_ 0=some m:=by rw [hm];rfl
      simp only [jf,g0,zn,zkI (.inl hmg) (show t.xs.length<=100000 by omega),yq,e0];cases hX:X7 t.xs m with
      |none=>
        simp only [zl8 (mkS a) _ (show a.length<=1000000 by omega),jf,show (mkS a).xs=a from rfl,jh];by_cases h1:0<=idP ks.xs[i].T_ a
        ·grind
        grind
      |some p=>
        simp only [zl8 (mkS a) _ (show a.length<=1000000 by omega),jf,show (mkS a).xs=a from rfl,jh];by_cases h1:0<=idP ks.xs[i].T_ a
        ·grind
        simp (decide:=true) only [h1,jk,UF];rw [zqJ (p:=⟨ks.xs[i].T_,p.M_,p.t_⟩) (show 0<=p.t_/\p.t_ < t.xs.length\/p.M_<=1 from zeg (.inl hmg) hX)];simp only [jf,jh];by_cases h2:1 < p.M_/\YR t.xs p.t_≠0
        · simp only [eq_true h2,jl,Uo,zvX (mkS a) _ (show a.length<=1000000 by omega),jf,show (mkS a).xs=a from rfl,jh];by_cases h3:0<=idM p.t_ a
          ·grind
          ·simp only [h3,jk,jf,ji];rw [xN (by omega) (by simp;omega)];grind
        · simp only [eq_false h2,jk,false_and,jf,jg,ji];rw [xN (by omega) (by simp;omega)]
          grind)
    (fun i hi a a' ha e=>by
      unfold yq at e
      grind)
    (fun a _=>by
      unfold znU qco;simp only [jh,zn]
      rw [js (by rw [zo];omega)])
    (a:=[]) rfl
  grind
theorem zl9 {n:Nd}(h:FnG n):∃ ps r b,n.K_=⟨ps++[r,b],true⟩/\n.K_.xs.length - 2=ps.length/\n.K_.xs.take (n.K_.xs.length - 2)=ps/\zgW n (n.K_.xs.length - 2)=r/\(∀ p∈ps,zc3 p)/\zeO r/\Vq b:=by
 obtain ⟨_,ps,r,b,hk,hp,hr,_,hb⟩:=h;have hl:n.K_.xs.length - 2=ps.length:=by rw [hk];simp
 refine ⟨ps,r,b,hk,hl,?_,?_,hp,hr,hb⟩
 ·grind
 ·unfold zgW;grind
theorem zxH {t:Sl PT}{n:Nd}(hg:FnG n) (ht:t.xs.length<=20000) (hn:n.K_.xs.length<=20000) :
    qas (n,t)=some (match Xa t.xs n with | .error e=>(⟨lit [],Sl.mk [] false,p0⟩,e.1,e.2) | .ok s=>(s,0,0)):=by
  obtain ⟨ps,r,b,hk,hl,htk,hr,hp,hrg,_⟩:=zl9 hg;unfold qas qfm Xa;have hw:Ud (n.K_.len - 2)=(ps.length:Int):=by
    have:n.K_.len=(ps.length:Int)+2:=by rw [hk];simp [Sl.len]
    rw [this,zM (by grind) (by grind)];omega
  have hpl:ps.length<=20000:=by grind
  simp only [hw,jh,htk,hl];rw [show n.K_.xs.take ps.length=ps by grind];have hr':zgW n ps.length=r:=by grind
  by_cases h8:8 < ps.length
  ·simp only [h8,show (8:Int) < (ps.length:Int) by omega,jl];rfl
  simp only [h8,show ¬ ((8:Int) < (ps.length:Int)) by omega,jk];rw [YJ (by omega) (by omega) (by grind)];simp only [jf,zn,Int.toNat_zero,UN,Int.toNat_natCast];rw [show n.K_.xs.take ps.length=ps by grind];have:=zsP ht (ks:=⟨ps,n.K_.nn⟩) hpl hp (ps.length:Int) n (lit [],lit [],0,0) (n.T_,lit [],0,0);rw [show (Sl.mk [] false:Sl PP)=mkS [] from rfl,show lpO (qco qa3 q50 q76 q51) _=_ from this];simp only [jf];cases ps.foldlM (yq t.xs) [] with
  |error e=>rfl
  |ok l=>
    simp only [ji,Except.bind];have hg2:zb n.K_ (ps.length:Int)=some r:=by rw [hk];rw [ww];simp
    simp only [hg2,jf,zn,zkI (.inr hrg) (show t.xs.length<=100000 by omega),hr'];cases X7 t.xs r with
    |none=>rfl
    |some p=>rfl
theorem zvY {t:Sl PT}{n:Nd}(hg:∀ k∈n.K_.xs,k.k_=6->FnG k/\k.K_.xs.length<=20000) (ht:t.xs.length<=20000) (hn:n.K_.xs.length<=20000) :
    q6u (n,t)=some (match zdv t.xs n.K_.xs with | .error e=>(e.1,e.2,Sl.mk [] false) | .ok s=>(0,0,mkS s)):=by
  have hne:∀ k e,Xa t.xs k = .error e->e.2≠0:=by
    intro k e h;unfold Xa at h;simp only at h;split at h
    ·cases h;simp
    generalize k.K_.xs.take (k.K_.xs.length - 2)=ps at h;have hf:∀ (ps:List Nd) a e,ps.foldlM (yq t.xs) a = .error e->e.2≠0:=by
      intro ps
      induction ps with
      |nil=>intro a e h;cases h
      |cons x l ih=>
        intro a e h;rw [List.foldlM_cons] at h;cases hx:yq t.xs a x with
        |ok b=>rw [hx] at h;exact ih b e h
        |error er=>
          rw [hx] at h;cases h;unfold yq at hx;split at hx
          ·cases hx;simp
          grind
    cases e1:ps.foldlM (yq t.xs) [] with
    |error er=>rw [e1] at h;cases h;grind
    |ok l=>
      rw [e1] at h;simp only [Except.bind] at h;grind
  have:=VP (f:=qbq qas) (xs:=n.K_.xs) (step:=fun s k=>if k.k_=6 then (Xa t.xs k).bind fun x =>.ok (s++[x]) else .ok s) (st:=fun i a=>(t,n.K_,n.K_.len,(i:Int),mkS a)) (fin:=fun a =>.inr (mkS a)) (er:=fun _ e =>.inl e) (I:=fun i a=>a.length<=i)
    (fun i hi a ha=>by
      unfold qbq;have hw:=zx (k:=i) (by omega);simp only [jh,zn];rw [jr (by rw [zo];omega),zi hi];simp only [jf,zn];by_cases h1:n.K_.xs[i].k_=6
      · obtain ⟨g1,g2⟩:=hg _ (jx hi) h1;simp only [h1,UF,jp,jk,jl,zxH g1 ht g2,jf];cases e:Xa t.xs n.K_.xs[i] with
        |error e2=>have:=hne _ _ e;simp only [this,jq,jl,jf,ji,Except.bind]
        |ok x=>
          simp only [jp,jk,Except.bind];rw [xN (by omega) (by simp;omega)];grind
      grind)
    (fun i hi a a' ha e=>by
      split at e
      · cases e1:Xa t.xs n.K_.xs[i] with
        |error er=>rw [e1] at e;cases e
        |ok x=>rw [e1] at e;cases e;simp;omega
      grind)
    (fun a _=>by
      unfold qbq;simp only [jh]
      rw [js (by rw [zo];omega)])
    (a:=[]) (by simp)
  unfold q6u qeu;show ((lpO (qbq qas) (t,n.K_,n.K_.len,((0:Nat):Int),mkS [])).bind _)=_;unfold zdv;cases e:n.K_.xs.foldlM (m:=Except Er) (fun s k=>if k.k_=6 then (Xa t.xs k).bind fun x =>.ok (s++[x]) else .ok s) [] with
  |error er=>
    grind
  |ok s=>
    grind
abbrev RP:=qf
abbrev RSg:=qh
def rP (x:PP):RP:=⟨x.n_,x.M_,x.t_⟩
def rG (x:PSg):RSg:=⟨x.n_,slm rP x.P_,rP x.R_⟩
theorem zkJ {t:List PT}{n:Nd}(h:vj n\/zeO n) (ht:t.length<=100000):q1z (rN n,mkS (t.map rT))=some (match X7 t n with | some p=>(rP p,true) | none=>(rP p0,false)):=by
 have m0:mI (lit [])=0:=by decide +kernel
 have m1:mI (lit [105,110,116])=1:=by decide +kernel
 have m2:mI (lit [111,119,110])=2:=by decide +kernel
 have m3:mI (lit [38])=3:=by decide +kernel
 have m4:mI (lit [38,109,117,116])=4:=by decide +kernel
 obtain ⟨kd,tx,nu,a,ks⟩:=n;have hc:(tx=lit []\/tx=lit [105,110,116])/\ks=nilS\/(tx=lit [111,119,110]\/tx=lit [38]\/tx=lit [38,109,117,116])/\∃ k,ks=⟨[k],true⟩:=by
  rcases h with ⟨_,⟨h1,h2⟩ | ⟨h1,k,h2,_⟩⟩ | ⟨h1,h2⟩ | ⟨_,⟨h1,h2⟩ | ⟨h1,k,h2,_⟩⟩
  ·grind
  ·grind
  all_goals grind
 unfold q1z q8y X7;have g0:∀ (k:Nd),zb (rN ⟨kd,tx,nu,a,⟨[k],true⟩⟩).K_ 0=some (rN k):=fun k=>by rw [zF];rfl
 obtain ⟨rfl | rfl,rfl⟩ | ⟨rfl | rfl | rfl,k,rfl⟩:=hc
 ·simp (decide:=true) only [z6,Zy,zk,jl,jk,jf,ji,m0];rfl
 ·simp (decide:=true) only [z6,Zy,zk,jl,jk,jf,ji,m1];rfl
 all_goals
  simp (decide:=true) only [z6,Zy,zk,jl,jk,jf,ji,m2,m3,m4,g0,VQ t _ (show t.length<=1000000 by omega),zP,UM,jh];by_cases h2:idT k.T_ t < 0
  ·simp only [h2,jl,jf,jj];rfl
  ·simp only [h2,jk,jf,ji];rfl
noncomputable abbrev og0:=q5l q1z
noncomputable abbrev og1:=q5m q1z
noncomputable abbrev og2:=q5n q1z
theorem zqK {acc:List PP}{ks:List Nd}(h:acc.map qg.n_=ks.map q8.T_) (n:Ua):idP n acc=idN n ks:=by
 have h1:=zl5 qg.n_ (fun x=>decide (x=n)) acc;have h2:=zl5 q8.T_ (fun x=>decide (x=n)) ks;unfold idP idN;grind
theorem zxI {n:Nd}{i:Nat}(hi:i<=n.K_.xs.length) (hn:n.K_.xs.length<=20000) (T:Sl RTy) (c:Int) (z h:SgH) (k:Nd) (s:Sl RP) :
    lpO og0 (T,c,(i:Int),0,rN n,z,h,rN k,s)=some (if 0<=idN k.T_ (n.K_.xs.take i) then .inl (k.a_,30,lit [],lit [],0,0) else .inr (T,c,(i:Int),rN n,z,h,rN k,s)):=by
  have hl:(n.K_.xs.take i).length=i:=by simp;omega
  have:=x9 (f:=og0) (xs:=n.K_.xs.take i) (p:=fun x=>decide (x.T_=k.T_)) (st:=fun j=>(T,c,(i:Int),(j:Int),rN n,z,h,rN k,s)) (yes:=fun _ =>.inl (k.a_,30,lit [],lit [],0,0)) (no :=.inr (T,c,(i:Int),rN n,z,h,rN k,s))
    (fun j hj=>by
      rw [hl] at hj;unfold og0 q5l;have hg:zb (rN n).K_ (j:Int)=some (rN n.K_.xs[j]):=by rw [zF,zi (by simp;omega)];simp
      simp only [jh,zk];rw [jr (by omega),hg];simp only [jf,z6,YQ,List.getElem_take];rw [zx (by omega)]
      grind)
    (by unfold og0 q5l;simp only [jh,zk,hl];grind)
  rw [show (0:Int)=((0:Nat):Int) from rfl,this];unfold idN idx;cases (n.K_.xs.take i).findIdx? _ with
  |none=>simp
  |some j=>simp
theorem zxJ {t:List PT}{acc:List PP}(ha:acc.length<=20000) {m:Nd}{p:PP}(hv:0<=p.t_/\p.t_ < t.length\/p.M_<=1) (c:Int) (n:RNd) (z h:SgH) {k:RNd}(hk:zb k.K_ 0=some (rN m)) :
    lpO og1 (mkS (t.map rT),c,(acc.length:Int),0,n,z,h,k,rP p,mkS (acc.map rP))=some (if (1 < p.M_/\YR t p.t_≠0)/\0<=idM p.t_ acc then .inl (m.a_,34,lit [],lit [],0,0) else .inr (mkS (t.map rT),c,(acc.length:Int),n,z,h,k,rP p,mkS (acc.map rP))):=by
  have:=x9 (f:=og1) (xs:=acc) (p:=fun x=>decide (1 < p.M_) && (decide (1 < x.M_) && (decide (p.t_=x.t_) && decide (YR t p.t_≠0)))) (st:=fun j=>(mkS (t.map rT),c,(acc.length:Int),(j:Int),n,z,h,k,rP p,mkS (acc.map rP))) (yes:=fun _ =>.inl (m.a_,34,lit [],lit [],0,0)) (no :=.inr (mkS (t.map rT),c,(acc.length:Int),n,z,h,k,rP p,mkS (acc.map rP)))
    (fun j hj=>by
      unfold og1 q5m;simp only [jh,zk];rw [jr (by omega),xy hj];have hw:=zx (k:=j) (by omega);simp only [jf,rP];by_cases h1:1 < p.M_
      case neg=>grind
      by_cases h2:1 < acc[j].M_
      case neg=>grind
      by_cases h3:p.t_=acc[j].t_
      case neg=>simp only [h1,h2,h3,jk,jl,jm,Bool.and_false,Bool.false_and,jg,jf,hw,rP]
      obtain ⟨h4,h5⟩ | h4:=hv
      case inr=>omega
      obtain ⟨q,hq⟩:∃ q:Nat,p.t_=q:=⟨_,(Dg h4).symm⟩
      have hlt:q < t.length:=by omega
      have hs:YR t p.t_=t[q].S_:=by unfold YR;grind
      simp only [h1,h2,eq_true h3,jl,jo,Bool.true_and];rw [hs,show zb (mkS (t.map rT)) p.t_=some (rT t[q]) by rw [hq];exact xy hlt];simp only [jf,rT,jh,hw];by_cases h6:t[q].S_=0
      ·grind
      ·simp only [h6,UF,jq,jl,jo,hk,jf,YQ])
    (by unfold og1 q5m;simp only [jh,zk];grind)
  rw [show (0:Int)=((0:Nat):Int) from rfl,this];by_cases hc:1 < p.M_/\YR t p.t_≠0
  · simp only [eq_true hc.1,eq_true hc.2,and_self,Uo];unfold idM idx
    rw [show (fun x:PP=>decide True && (decide (1 < x.M_) && (decide (p.t_=x.t_) && decide True)))=(fun x:PP=>decide (1 < x.M_) && decide (x.t_=p.t_)) from by
      grind]
    cases acc.findIdx? _ with
    |none=>simp
    |some j=>simp [hc.2]
  · have:acc.findIdx? (fun x=>decide (1 < p.M_) && (decide (1 < x.M_) && (decide (p.t_=x.t_) && decide (YR t p.t_≠0))))=none:=by
      rw [List.findIdx?_eq_none_iff];intro x _;simp only [Bool.and_eq_false_iff,decide_eq_false_iff_not];grind
    grind
theorem zzh {acc:List PP}{x:PP}(h:acc.length<=50000):zp 32 (mkS (acc.map rP)) [rP x]=some (mkS ((acc++[x]).map rP)):=by
 rw [xN (by omega) (by simp;omega)];simp
theorem zxK {t:List PT}(ht:t.length<=20000) {n:Nd}{ps:List Nd}{c:Nat}(hc:c<=n.K_.xs.length) (hps:n.K_.xs.take c=ps) (hn:n.K_.xs.length<=20000) (hg:∀ p∈ps,zc3 p) (z h:SgH) :
    lpO og2 (mkS (t.map rT),(c:Int),0,rN n,z,h,mkS [])=some (match ps.foldlM (yq t) [] with | .error e =>.inl (e.1,e.2,lit [],lit [],0,0) | .ok l =>.inr (mkS (t.map rT),(c:Int),rN n,z,h,mkS (l.map rP))):=by
  have hl:ps.length=c:=by grind
  have:=zkA (f:=og2) (xs:=ps) (step:=yq t) (st:=fun i a=>(mkS (t.map rT),(c:Int),(i:Int),rN n,z,h,mkS (a.map rP))) (fin:=fun a =>.inr (mkS (t.map rT),(c:Int),rN n,z,h,mkS (a.map rP))) (er:=fun e =>.inl (e.1,e.2,lit [],lit [],0,0)) (I:=fun i a=>a.map qg.n_=(n.K_.xs.take i).map q8.T_)
    (fun i hi a ha=>by
      unfold og2 q5n;have hw:=zx (k:=i) (by omega);have hal:a.length=i:=by have:=congrArg List.length ha;grind
      have hpi:ps[i]=n.K_.xs[i]:=by grind
      obtain ⟨_,m,hm,hmg⟩:=hg _ (jx hi);have e0:zP ps[i]=m:=by unfold zP;rw [hm];rfl
      have hg0:zb (rN n).K_ (i:Int)=some (rN ps[i]):=by rw [zF,zi (by simp;omega)];simp [hpi]
      have g0:zb (rN ps[i]).K_ 0=some (rN m):=by rw [zF,hm];rfl
      simp only [jh,zk];rw [jr (by omega),hg0];simp only [jf];rw [show lpO (q5l q1z) _=_ from zxI (n:=n) (i:=i) (by omega) hn (mkS (t.map rT)) (c:Int) z h ps[i] (mkS (a.map rP)),<- zqK ha];simp only [jf,yq,e0];by_cases h1:0<=idP ps[i].T_ a
      ·grind
      simp only [h1,jk,ji,g0,jf,zkJ (.inl hmg) (show t.length<=100000 by omega)];cases hX:X7 t m with
      |none=>simp only [UY,jl,jf,jj,YQ]
      |some p=>
        simp only [UJ,jg,jk];have h1':=zxJ (t:=t) (acc:=a) (by omega) (zeg (.inl hmg) hX) (c:Int) (rN n) z h g0;rw [hal] at h1';rw [show lpO (q5m q1z) _=_ from h1'];simp only [jf];by_cases h2:(1 < p.M_/\YR t p.t_≠0)/\0<=idM p.t_ a
        ·grind
        · simp only [eq_false h2,jk,ji,jf,z6,rP];rw [show (⟨ps[i].T_,p.M_,p.t_⟩:RP)=rP ⟨ps[i].T_,p.M_,p.t_⟩ from rfl,zzh (by omega)]
          grind)
    (fun i hi a a' ha e=>by
      have hpi:ps[i]=n.K_.xs[i]:=by grind
      unfold yq at e;split at e
      ·cases e
      split at e
      ·cases e
      split at e
      ·cases e
      · cases e
        rw [List.take_succ_eq_append_getElem (show i < n.K_.xs.length by omega),Dc,Dc,ha,<- hpi];rfl)
    (fun a _=>by
      unfold og2 q5n;simp only [jh,zk,hl]
      grind)
    (a:=[]) (by simp)
  rw [show (0:Int)=((0:Nat):Int) from rfl,show (mkS []:Sl RP)=mkS (([]:List PP).map rP) from rfl,this];grind
theorem zvZ {t:List PT}{n:Nd}(hg:FnG n) (ht:t.length<=20000) (hn:n.K_.xs.length<=20000) :
    q3y (rN n,mkS (t.map rT))=some (match Xa t n with | .error e=>(⟨lit [],Sl.mk [] false,⟨lit [],0,0⟩⟩,e.1,e.2) | .ok s=>(rG s,0,0)):=by
  obtain ⟨ps,r,b,hk,hl,htk,hr,hp,hrg,_⟩:=zl9 hg;unfold q3y q9v Xa;have hw:Ud ((rN n).K_.len - 2)=(ps.length:Int):=by
    have:(rN n).K_.len=(ps.length:Int)+2:=by rw [zF,hk];simp [Sl.len]
    rw [this,zM (by grind) (by grind)];omega
  have hpl:ps.length<=20000:=by grind
  have htk':n.K_.xs.take ps.length=ps:=by grind
  simp only [hw,jh,hl,zk,htk'];have hr':zgW n ps.length=r:=by grind
  by_cases h8:8 < ps.length
  ·simp only [h8,show (8:Int) < (ps.length:Int) by omega,jl,YQ]
  simp only [h8,show ¬ ((8:Int) < (ps.length:Int)) by omega,jk];rw [show (Sl.mk [] false:Sl RP)=mkS [] from rfl,show lpO (q5n q1z) _=_ from zxK ht (n:=n) (ps:=ps) (c:=ps.length) (by rw [hk];simp) htk' hn hp (lit [],lit [],0,0) ((rN n).T_,lit [],0,0)];simp only [jf,Except.bind];cases ps.foldlM (yq t) [] with
  |error e=>rfl
  |ok l=>
    simp only [ji];have hg2:zb (rN n).K_ (ps.length:Int)=some (rN r):=by rw [zF,hk];rw [ww];simp
    simp only [hg2,jf,zkJ (.inr hrg) (show t.length<=100000 by omega),hr'];cases X7 t r with
    |none=>simp only [UY,jl,YQ]
    |some p=>simp only [UJ,jg,jk,rG,zqF,z6]
theorem zv0 {t:List PT}{k:Nd}{e:Er}(h:Xa t k = .error e):e.2≠0:=by
 unfold Xa at h;simp only at h;split at h
 ·cases h;simp
 generalize k.K_.xs.take (k.K_.xs.length - 2)=ps at h;have hf:∀ (ps:List Nd) a e,ps.foldlM (yq t) a = .error e->e.2≠0:=by
  intro ps
  induction ps with
  |nil=>intro a e h;cases h
  |cons x l ih=>
   intro a e h;rw [List.foldlM_cons] at h;cases hx:yq t a x with
   |ok b=>rw [hx] at h;exact ih b e h
   |error er=>
    rw [hx] at h;cases h;unfold yq at hx;split at hx
    all_goals grind
 cases e1:ps.foldlM (yq t) [] with
 |error er=>rw [e1] at h;cases h;grind
 |ok l=>
  rw [e1] at h;simp only [Except.bind] at h;grind
theorem zsQ {t:List PT}{n:Nd}(hg:∀ k∈n.K_.xs,k.k_=6->FnG k/\k.K_.xs.length<=20000) (ht:t.length<=20000) (hn:n.K_.xs.length<=20000) :
    q2j (rN n,mkS (t.map rT))=some (match zdv t n.K_.xs with | .error e=>(e.1,e.2,Sl.mk [] false) | .ok s=>(0,0,mkS (s.map rG))):=by
  have:=VP (f:=q56 q3y) (xs:=n.K_.xs) (step:=fun s k=>if k.k_=6 then (Xa t k).bind fun x =>.ok (s++[x]) else .ok s) (st:=fun i a=>(mkS (t.map rT),(i:Int),rN n,mkS (a.map rG))) (fin:=fun a =>.inr (mkS (a.map rG))) (er:=fun _ e =>.inl e) (I:=fun i a=>a.length<=i)
    (fun i hi a ha=>by
      unfold q56;have hw:=zx (k:=i) (by omega);have hg0:zb (rN n).K_ (i:Int)=some (rN n.K_.xs[i]):=by rw [zF,zi (by simpa using hi)];simp
      simp only [jh,zk];rw [jr (by rw [zF];simp [Sl.len];omega),hg0];simp only [jf,ZT];by_cases h1:n.K_.xs[i].k_=6
      · obtain ⟨g1,g2⟩:=hg _ (jx hi) h1;simp only [h1,UF,jp,jk,jl,zvZ g1 ht g2,jf];cases e:Xa t n.K_.xs[i] with
        |error e2=>have:=zv0 e;simp only [this,jq,jl,jf,ji,Except.bind]
        |ok x=>
          simp only [jp,jk,Except.bind];rw [xN (by omega) (by simp;omega)];grind
      grind)
    (fun i hi a a' ha e=>by
      split at e
      · cases e1:Xa t n.K_.xs[i] with
        |error er=>rw [e1] at e;cases e
        |ok x=>rw [e1] at e;cases e;simp;omega
      grind)
    (fun a _=>by
      unfold q56;simp only [jh]
      rw [js (by rw [zF];simp [Sl.len])])
    (a:=[]) (by simp)
  unfold q2j q8z;simp only [zk];show ((lpO (q56 q3y) (mkS (t.map rT),((0:Nat):Int),rN n,mkS (([]:List PSg).map rG))).bind _)=_;unfold zdv;cases e:n.K_.xs.foldlM (m:=Except Er) (fun s k=>if k.k_=6 then (Xa t k).bind fun x =>.ok (s++[x]) else .ok s) [] with
  |error er=>
    grind
  |ok s=>
    grind
end Go.Px
