/- Part Le: Px22PU Px22PV Px22PW. -/
import Derived.Test.YtpcipfnohfefhaaGreatDoorLd
set_option linter.unusedVariables false
set_option linter.unusedSimpArgs false
namespace Go.Px
def yl (n:Nd):Prop:=n.K_=nilS/\n.k_=5
def zsM (n:Nd):Prop:=n.k_=28/\∀ k∈n.K_.xs,yl k
inductive ExprG:Nd->Prop
 |term {n}:n.k_=5->zdp n->ExprG n
 |leaf {n}:(n.k_=23\/n.k_=24\/n.k_=26\/n.k_=27)->zdp n->ExprG n
 |call {n}:zsM n->ExprG n
 |load {n x}:n.k_=25->n.K_=⟨[x],true⟩->yl x->ExprG n
 |two {n x y}:(n.k_=21\/n.k_=22)->n.K_=⟨[x,y],true⟩->yl x->yl y->ExprG n
inductive StmtG:Nd->Prop
 |leaf {k:Int} {t n a}:(k=12\/k=13\/k=14\/k=17\/k=18)->StmtG ⟨k,t,n,a,nilS⟩
 |ite {op n a x y b1 a1 b2 a2}:yl x->yl y->(∀ s∈b1,StmtG s)->(∀ s∈b2,StmtG s)->StmtG ⟨15,op,n,a,⟨[x,y,⟨9,lit [],0,a1,mkS b1⟩,⟨9,lit [],0,a2,mkS b2⟩],true⟩⟩
 |whl {op n a x y b1 a1}:yl x->yl y->(∀ s∈b1,StmtG s)->StmtG ⟨16,op,n,a,⟨[x,y,⟨9,lit [],0,a1,mkS b1⟩],true⟩⟩
 |ret {t n a x}:yl x->StmtG ⟨17,t,n,a,⟨[x],true⟩⟩
 |fork {t n a ks}:(∀ k∈ks.xs,yl k)->StmtG ⟨19,t,n,a,ks⟩
 |call {t n a c}:zsM c->StmtG ⟨20,t,n,a,⟨[c],true⟩⟩
 |store {t n a x y}:yl x->yl y->StmtG ⟨11,t,n,a,⟨[x,y],true⟩⟩
 |set {t n a e}:ExprG e->StmtG ⟨10,t,n,a,⟨[e],true⟩⟩
def zaM (n:Nd):Prop:=∃ a l,n=⟨9,lit [],0,a,mkS l⟩/\∀ s∈l,StmtG s
def WE (n:Nd):Prop:=n.k_=8/\(n.T_=lit [105,110,116]/\n.K_=nilS\/(n.T_=lit [111,119,110]\/n.T_=lit [38]\/n.T_=lit [38,109,117,116])/\∃ k,n.K_=⟨[k],true⟩/\yl k)
def zcZ (n:Nd):Prop:=n.T_=lit []/\n.K_=nilS\/WE n
def zc0 (n:Nd):Prop:=n.k_=7/\∃ m,n.K_=⟨[m],true⟩/\WE m
def FnG (n:Nd):Prop:=n.k_=6/\∃ ps r b,n.K_=⟨ps++[r,b],true⟩/\(∀ p∈ps,zc0 p)/\zcZ r/\r.k_=8/\zaM b
theorem zfE {ts t:List Tk}{n:Nd}(h:ZX ts = .ok (n,t)):n.k_=5:=by
 have hm:∀ (m:Nd) ts,m.k_=5->xy m ts = .ok (n,t)->n.k_=5:=by
  intro m ts hm h;unfold xy at h;split at h
  ·obtain ⟨v,t1,_,h⟩:=bd_ok h;cases h;exact hm
  split at h
  ·obtain ⟨v,t1,_,h⟩:=bd_ok h;cases h;exact hm
  grind
 unfold ZX at h;split at h
 ·obtain ⟨v,t1,_,h⟩:=bd_ok h;cases h;rfl
 split at h
 ·obtain ⟨v,t1,_,h⟩:=bd_ok h;cases h;rfl
 ·obtain ⟨m,t1,em,h⟩:=bd_ok h;obtain ⟨_,t2,_,e⟩:=bd_ok em;grind
theorem znk {ts t:List Tk}{n:Nd}(h:z6 ts = .ok (n,t)):n.k_=5:=by
 obtain ⟨v,t1,_,h⟩:=bd_ok h;cases h;rfl
theorem Wt {ts t:List Tk}{n:Nd}(h:ZX ts = .ok (n,t)):yl n:=⟨Xw h,zfE h⟩
theorem vE {ts t:List Tk}{n:Nd}(h:z6 ts = .ok (n,t)):yl n:=⟨zK h,znk h⟩
theorem zuy {ts t:List Tk}{n:Nd}(h:Ym ts = .ok (n,t)):∃ a b,n.K_=⟨[a,b],true⟩/\yl a/\yl b:=by
 obtain ⟨a,t1,ea,h⟩:=bd_ok h;obtain ⟨op,t2,eo,h⟩:=bd_ok h;obtain ⟨b,t3,eb,h⟩:=bd_ok h;cases h;exact ⟨a,b,rfl,Wt ea,Wt eb⟩
theorem zgD {ts t:List Tk}{ks:Sl Nd}(h:VK ts = .ok (ks,t)):∀ k∈ks.xs,yl k:=by
 obtain ⟨u,t1,_,h⟩:=bd_ok h;split at h
 ·cases h;simp
 ·obtain ⟨l,t2,e,h⟩:=bd_ok h;obtain ⟨u,t3,_,h⟩:=bd_ok h;cases h;exact zdr (fun _ _ _=>Wt) e
theorem zuz {ts t:List Tk}{n:Nd}(h:ve ts = .ok (n,t)):ExprG n:=by
 unfold ve at h;split at h
 ·obtain ⟨v,t1,_,h⟩:=bd_ok h;cases h;exact .leaf (.inl rfl) rfl
 split at h
 ·obtain ⟨v,t1,_,h⟩:=bd_ok h;cases h;exact .leaf (.inr (.inl rfl)) rfl
 split at h
 ·split at h
  ·obtain ⟨v,t1,_,h⟩:=bd_ok h;cases h;exact .leaf (.inr (.inr (.inr rfl))) rfl
  ·obtain ⟨v,t1,_,h⟩:=bd_ok h;cases h;exact .leaf (.inr (.inr (.inl rfl))) rfl
 split at h
 ·exact .term (zfE h) (Xw h)
 obtain ⟨m,t1,em,h⟩:=bd_ok h;have hm:=zK em;have hm':=vE em;obtain ⟨_,t0,_,e⟩:=bd_ok em;cases e;split at h
 ·obtain ⟨ks,t2,e,h⟩:=bd_ok h;cases h;exact .call ⟨rfl,zgD e⟩
 split at h
 ·obtain ⟨x,t2,e,h⟩:=bd_ok h;obtain ⟨u,t3,_,h⟩:=bd_ok h;cases h;exact .load rfl rfl (Wt e)
 split at h
 ·obtain ⟨x,t2,e,h⟩:=bd_ok h;cases h;exact .two (.inl rfl) rfl hm' (vE e)
 split at h
 ·obtain ⟨x,t2,e,h⟩:=bd_ok h;cases h;exact .two (.inr rfl) rfl hm' (vE e)
 ·have hk:=zfp hm h;unfold xy at h;split at h
  ·obtain ⟨v,t1,_,h⟩:=bd_ok h;cases h;exact .term rfl hk
  split at h
  ·obtain ⟨v,t1,_,h⟩:=bd_ok h;cases h;exact .term rfl hk
  ·cases h;exact .term rfl hk
theorem wo {n m:Nd}{ts t:List Tk}(h:Wp n ts = .ok (m,t)):m=n:=by
 obtain ⟨u,t1,_,h⟩:=bd_ok h;cases h;rfl
theorem zuA {blk:List Tk->PR Nd}(hb:∀ ts n t,blk ts = .ok (n,t)->zaM n) {ts t:List Tk}{n:Nd}(h:YE blk ts = .ok (n,t)):StmtG n:=by
 have br:∀ k a ts n t,wh blk k a ts = .ok (n,t)->∃ op x y b,yl x/\yl y/\zaM b/\n=⟨k,op,0,a,⟨[x,y,b],true⟩⟩:=by
  intro k a ts n t h;obtain ⟨m,t1,em,h⟩:=bd_ok h;obtain ⟨b,t2,eb,h⟩:=bd_ok h;obtain ⟨_,h0⟩:=zlJ em;obtain ⟨x,y,hk,hx,hy⟩:=zuy em;grind
 have at':∀ k ts n t,atP k ts = .ok (n,t)->n.k_=k:=by
  intro k ts n t h;obtain ⟨m,t1,em,h⟩:=bd_ok h;obtain ⟨u,t2,_,h⟩:=bd_ok h;obtain ⟨v,t3,_,h⟩:=bd_ok h;obtain ⟨u,t4,_,h⟩:=bd_ok h;cases h;rfl
 unfold YE at h;split at h
 ·obtain ⟨m,t1,_,h⟩:=bd_ok h;rw [wo h];exact .leaf (.inl rfl)
 split at h
 ·obtain ⟨m,t1,e,h⟩:=bd_ok h;rw [wo h];exact .leaf (.inr (.inl (at' _ _ _ _ e)))
 split at h
 ·obtain ⟨m,t1,e,h⟩:=bd_ok h;rw [wo h];exact .leaf (.inr (.inr (.inl (at' _ _ _ _ e))))
 split at h
 ·obtain ⟨m,t1,e,h⟩:=bd_ok h;obtain ⟨op,x,y,b,hx,hy,⟨a1,l1,rfl,h1⟩,rfl⟩:=br _ _ _ _ _ e;split at h
  ·obtain ⟨b2,t2,e2,h⟩:=bd_ok h;obtain ⟨a2,l2,rfl,h2⟩:=hb _ _ _ e2;cases h;exact .ite hx hy h1 h2
  ·cases h;exact .ite (b2:=[]) hx hy h1 (by simp)
 split at h
 ·obtain ⟨op,x,y,b,hx,hy,⟨a1,l1,rfl,h1⟩,rfl⟩:=br _ _ _ _ _ h;exact .whl hx hy h1
 split at h
 ·split at h
  ·rw [wo h];exact .leaf (.inr (.inr (.inr (.inl rfl))))
  ·obtain ⟨x,t1,e,h⟩:=bd_ok h;rw [wo h];exact .ret (Wt e)
 split at h
 ·rw [wo h];exact .leaf (.inr (.inr (.inr (.inr rfl))))
 split at h
 ·obtain ⟨m,t1,_,h⟩:=bd_ok h;obtain ⟨ks,t2,e,h⟩:=bd_ok h;rw [wo h];exact .fork (zgD e)
 obtain ⟨m,t1,_,h⟩:=bd_ok h;obtain ⟨q,t2,e,h⟩:=bd_ok h;rw [wo h];unfold WQ at e;split at e
 ·obtain ⟨ks,t3,e1,e⟩:=bd_ok e;cases e;exact .call ⟨rfl,zgD e1⟩
 split at e
 ·obtain ⟨x,t3,e1,e⟩:=bd_ok e;obtain ⟨u,t4,_,e⟩:=bd_ok e;obtain ⟨u,t5,_,e⟩:=bd_ok e;obtain ⟨y,t6,e2,e⟩:=bd_ok e;cases e;exact .store (Wt e1) (Wt e2)
 ·obtain ⟨u,t3,_,e⟩:=bd_ok e;obtain ⟨x,t4,e1,e⟩:=bd_ok e;cases e;exact .set (zuz e1)
theorem zki {one:List Tk->PR Nd}(hg:∀ ts n t,one ts = .ok (n,t)->StmtG n):∀ (j:Nat) (acc:List Nd) (ts:List Tk) (l:List Nd) (t:List Tk),(∀ x∈acc,StmtG x)->xi one j acc ts = .ok (l,t)->∀ x∈l,StmtG x
 |0,acc,ts,l,t,h,e=>by cases e
 |j+1,acc,ts,l,t,h,e=>by
  unfold xi at e;split at e
  ·grind
  ·obtain ⟨a,t1,e1,e⟩:=bd_ok e;refine zki hg j _ _ l t (fun x hx=>?_) e;grind
theorem zkj:∀ (r:Nat) (ts:List Tk) (n:Nd) (t:List Tk),Z7 r ts = .ok (n,t)->zaM n
 |0,ts,n,t,h=>by unfold Z7 at h;split at h <;> cases h
 |r+1,ts,n,t,h=>by
  unfold Z7 at h;obtain ⟨u,t1,_,h⟩:=bd_ok h;obtain ⟨l,t2,e,h⟩:=bd_ok h;cases h;exact ⟨_,l,rfl,zki (fun ts n t=>zuA (zkj r)) _ _ _ _ _ (by simp) e⟩
theorem zgE {ts t:List Tk}{n:Nd}(h:wN ts = .ok (n,t)):WE n:=by
 unfold wN at h;split at h
 ·rename_i c;cases h;exact ⟨rfl,.inl ⟨Xl c,rfl⟩⟩
 split at h
 ·rename_i c;obtain ⟨k,t1,e,h⟩:=bd_ok h;cases h;exact ⟨rfl,.inr ⟨.inl (Xl c),k,rfl,vE e⟩⟩
 obtain ⟨u,t1,em,h⟩:=bd_ok h;split at h
 ·obtain ⟨k,t2,e,h⟩:=bd_ok h;cases h;exact ⟨rfl,.inr ⟨.inr (.inr rfl),k,rfl,vE e⟩⟩
 ·obtain ⟨k,t2,e,h⟩:=bd_ok h;cases h;refine ⟨rfl,.inr ⟨.inr (.inl ?_),k,rfl,vE e⟩⟩;unfold zT at em;split at em
  ·rename_i c;exact Xl c
  ·cases em
theorem zrO {ts t:List Tk}{n:Nd}(h:xh ts = .ok (n,t)):zc0 n:=by
 obtain ⟨m,t1,_,h⟩:=bd_ok h;obtain ⟨u,t2,_,h⟩:=bd_ok h;obtain ⟨k,t3,e,h⟩:=bd_ok h;cases h;exact ⟨rfl,k,rfl,zgE e⟩
theorem zxx {ts t:List Tk}{n:Nd}{a:Int}(h:fnP a ts = .ok (n,t)):FnG n:=by
 rw [zpM] at h;obtain ⟨m,t1,_,h⟩:=bd_ok h;obtain ⟨u,t2,_,h⟩:=bd_ok h;obtain ⟨ps,t3,e3,h⟩:=bd_ok h;obtain ⟨r,t4,e4,h⟩:=bd_ok h;obtain ⟨b,t5,e5,h⟩:=bd_ok h;cases h;obtain ⟨p2,t6,e6,e3⟩:=bd_ok e3;obtain ⟨u,t7,_,e3⟩:=bd_ok e3;cases e3;refine ⟨rfl,ps,r,b,rfl,?_,?_,?_,zkj _ _ _ _ e5⟩
 ·split at e6
  ·cases e6;simp
  ·exact zdr (fun _ _ _=>zrO) e6
 ·unfold zka at e4;split at e4
  ·split at e4
   ·cases e4
   ·exact .inr (zgE e4)
  ·cases e4;exact .inl ⟨rfl,rfl⟩
 ·unfold zka at e4;split at e4
  ·split at e4
   ·cases e4
   ·exact (zgE e4).1
  grind
theorem zez:∀ (j:Nat) (acc:List Nd) (ts:List Tk) (l:List Nd) (t:List Tk),(∀ x∈acc,XV x\/FnG x)->Yh j acc ts = .ok (l,t)->∀ x∈l,XV x\/FnG x
 |0,acc,ts,l,t,h,e=>by cases e
 |j+1,acc,ts,l,t,h,e=>by
  have app:∀ a,(XV a\/FnG a)->∀ x∈acc++[a],XV x\/FnG x:=fun a ha x hx=>by
   grind
  unfold Yh at e;split at e
  ·grind
  split at e
  ·obtain ⟨a,t1,e1,e⟩:=bd_ok e;exact zez j _ _ l t (app a (.inr (zxx e1))) e
  ·obtain ⟨u,t0,_,e⟩:=bd_ok e;obtain ⟨a,t1,e1,e⟩:=bd_ok e;exact zez j _ _ l t (app a (.inl (zvZ e1))) e
structure UnitG (n:Nd):Prop where
 eq:∃ l,n=⟨0,lit [],0,0,mkS l⟩
 kid:∀ k∈n.K_.xs,XV k\/FnG k
 size:zm n<=4096
theorem zkk {s:G1}(h:(xI s).2.2=0):UnitG (xI s).1:=by
 unfold xI at h |-
 split at h
 ·grind
 rename_i hc;rw [js hc];have hne:∀ e,Yh (ZU s).2.2.xs.length [] (ZU s).2.2.xs = .error e->e.2≠0:=by
  intro e he h2;have hz:(ZU s).2.1=0:=by
   grind
  obtain ⟨g,hn⟩:=zcS hz;have gk:GK ⟨(ZU s).2.2.xs.map toR,true⟩ 0 (ZU s).2.2.xs:=⟨rfl,g,by have:=g.len;omega,zkc s⟩;have:=zfB (z1:=(0,lit [],0,0)) (z2:=(0,lit [],0,0)) _ _ 0 [] gk (by have:=g.len;omega) (GL _) (by have:=g.len;simp;omega);grind
 cases e:Yh (ZU s).2.2.xs.length [] (ZU s).2.2.xs with
 |error er=>grind
 |ok p=>
  obtain ⟨l,t⟩:=p;rw [e] at h;simp only at h |-
  split at h
  ·simp at h
  ·rename_i hs;rw [js hs];exact ⟨⟨l,rfl⟩,zez _ _ _ l t (by simp) e,by rw [zk];show ze l+1<=4096;omega⟩
theorem vi:∀ {l:List Nd}{x:Nd},x∈l->zm x<=ze l
 |y::l,x,h=>by
  rcases Ub.1 h with rfl | h
  ·simp [ze]
  ·have:=vi h;simp only [ze];omega
theorem vj:∀ l:List Nd,l.length<=ze l
 |[]=>by simp
 |x::l=>by have:=ZF x;have:=vj l;simp only [ze,ju];omega
theorem ZQ {n:Nd}:n.K_.xs.length+1<=zm n:=by rw [zk];have:=vj n.K_.xs;omega
theorem Yi {n k:Nd}(h:k∈n.K_.xs):zm k+1<=zm n:=by rw [zk n];have:=vi h;omega
abbrev PP:=qf
abbrev PSg:=qd
theorem zrP (l:List G1) (s:G1) (hl:l.length<=1000):q2e (⟨l,true⟩,s)=some (idx (fun w=>decide (s=w)) l):=by
 have:=W3 (f:=q1g) (xs:=l) (p:=fun w=>decide (s=w)) (st:=fun i=>(⟨l,true⟩,s,Sl.len (⟨l,true⟩:Sl G1),(i:Int))) (yes:=fun i =>.inl (i:Int)) (no :=.inr ())
  (fun i hi=>by
   unfold q1g;simp only [jh];simp only [zu,zt (s:=⟨l,true⟩) hi,jf];rw [jr (by omega),zL (by omega)]
   split <;> rfl)
  (by unfold q1g;simp only [jh];rw [js (by show ¬ ((l.length:Int) < (l.length:Int));omega)])
 show ((lpO q1g (⟨l,true⟩,s,Sl.len (⟨l,true⟩:Sl G1),((0:Nat):Int))).bind _)=_;rw [this];unfold idx;cases l.findIdx? _ <;> rfl
def znl:List G1:=[lit [],lit [105,110,116],lit [111,119,110],lit [38],lit [38,109,117,116]]
def mI (s:G1):Int:=idx (fun w=>decide (s=w)) znl
def p0:PP:=⟨lit [],0,0⟩
def xY (t:List PT) (n:Nd):G4 PP:=
 if n.K_.xs=[] then some ⟨lit [],mI n.T_,0⟩ else if idT (zO n).T_ t < 0 then none else some ⟨lit [],mI n.T_,idT (zO n).T_ t⟩
def idP (n:G1) (l:List PP):Int:=idx (fun x=>decide (x.n_=n)) l
def idM (ty:Int) (l:List PP):Int:=idx (fun x=>decide (1 < x.M_) && decide (x.t_=ty)) l
def Xm (t:List PT) (i:Int):Int:=(t[i.toNat]?).elim 0 qa.s_
def yb (t:List PT) (acc:List PP) (k:Nd):Except Er (List PP):=
 if 0<=idP k.T_ acc then .error (k.a_,30) else match xY t (zO k) with
  |none =>.error ((zO k).a_,31)
  |some p=>if (1 < p.M_/\Xm t p.t_≠0)/\0<=idM p.t_ acc then .error ((zO k).a_,34) else .ok (acc++[⟨k.T_,p.M_,p.t_⟩])
def zc1 (n:Nd) (i:Nat):Nd:=n.K_.xs.getD i VM
def YQ (t:List PT) (n:Nd):Except Er PSg:=
 let c:=n.K_.xs.length - 2
 if 8 < c then .error (n.a_,22) else ((n.K_.xs.take c).foldlM (yb t) []).bind fun ps=>match xY t (zc1 n c) with
  |none =>.error ((zc1 n c).a_,31)
  |some r =>.ok ⟨n.T_,mkS ps,r⟩
def zbQ (t:List PT) (l:List Nd):Except Er (List PSg):=l.foldlM (fun s k=>if k.k_=6 then (YQ t k).bind fun x =>.ok (s++[x]) else .ok s) []
theorem zfF {n:Nd}(h:WE n\/zcZ n):n.K_=nilS\/∃ k,n.K_=⟨[k],true⟩:=by
 rcases h with ⟨_,⟨_,h⟩ | ⟨_,k,h,_⟩⟩ | ⟨_,h⟩ | ⟨_,⟨_,h⟩ | ⟨_,k,h,_⟩⟩
 ·exact .inl h
 all_goals grind
theorem zkl {t:Sl PT}{n:Nd}(h:WE n\/zcZ n) (ht:t.xs.length<=100000):q8n (n,t)=some (match xY t.xs n with | some p=>(p,0) | none=>(p0,31)):=by
 unfold q8n qeb xY;rw [show (Sl.mk [lit [],lit [105,110,116],lit [111,119,110],lit [38],lit [38,109,117,116]] true:Sl G1)=⟨znl,true⟩ from rfl,zrP znl _ (by decide)];simp only [jf];rcases zfF h with hk | ⟨k,hk⟩
 ·simp (decide:=true) only [hk,show (nilS:Sl Nd).len=0 from rfl,jk,jl,jf,ji];rfl
 ·have e0:zO n=k:=by unfold zO;rw [hk];rfl
  rw [e0];simp (decide:=true) only [hk,show Sl.len (⟨[k],true⟩:Sl Nd)=1 from rfl,show zd (⟨[k],true⟩:Sl Nd) 0=some k from rfl,jk,jl,jf,Vo t _ (show t.xs.length<=1000000 by omega),jh];by_cases h2:idT k.T_ t.xs < 0
  ·simp only [h2,jl,jf,jj];rfl
  ·simp only [h2,jk,jf,ji];rfl
theorem zpV {α γ:Type}{f:α×γ->G4 (Bool×γ)}{p:α->Bool}{c:γ}(hf:∀ x,f (x,c)=some (p x,c)) (s:Sl α) (hs:s.xs.length<=1000000) {body:Int×Int×Sl α×γ->G4 (Step (Int×Int×Sl α×γ) (Int×Sl α×γ⊕Sl α×γ))}
    (hb:∀ y0,body y0=if decide (y0.2.1 < y0.1)=true then (zd y0.2.2.1 y0.2.1).bind fun y1=>(zd y0.2.2.1 y0.2.1).bind fun y2=>(f (y2,y0.2.2.2)).bind fun y3=>if y3.1=true then some (.done (.inl (y0.2.1,y0.2.2.1,y3.2))) else some (.next (y0.1,G5 (y0.2.1+1),y0.2.2.1,y3.2)) else some (.done (.inr y0.2.2))) :
    ((lpO body (s.len,0,s,c)).bind fun y4=>Sum.elim (fun y5=>some y5) (fun y6=>some (-1,y6)) y4)=some (idx p s.xs,s,c):=by
  have:=W3 (f:=body) (xs:=s.xs) (p:=p) (st:=fun i=>(s.len,(i:Int),s,c)) (yes:=fun i =>.inl ((i:Int),s,c)) (no :=.inr (s,c))
    (fun i hi=>by
      rw [hb];simp only [jh];simp only [zu,zt hi,jf,hf];rw [jr (by omega),zL (by omega)]
      split <;> rfl)
    (by rw [hb];simp only [jh];rw [js (by rw [zu];omega)])
  rw [show ((0:Int))=((0:Nat):Int) from rfl,this];unfold idx;cases s.xs.findIdx? p <;> rfl
theorem zlL (l:Sl PP) (q:PP) (hl:l.xs.length<=1000000):q43 (l,q)=some (decide (0<=idP q.n_ l.xs),l,q):=by
 show (((lpO (q9d q8q) (l.len,0,l,q)).bind _).bind _)=_;rw [zpV (body:=q9d q8q) (f:=q8q) (p:=fun x:PP=>decide (x.n_=q.n_)) (fun x=>rfl) l hl (fun y=>rfl)];rfl
theorem zuB (l:Sl PP) (q:PP) (hl:l.xs.length<=1000000):q44 (l,q)=some (decide (0<=idM q.t_ l.xs),l,q):=by
 show (((lpO (q9e q76) (l.len,0,l,q)).bind _).bind _)=_;rw [zpV (body:=q9e q76) (f:=q76) (p:=fun x:PP=>decide (1 < x.M_) && decide (x.t_=q.t_)) (fun x=>?_) l hl (fun y=>rfl)];rfl;unfold q76 qcz;grind
theorem zpW {t:Sl PT}{p:PP}(h:0<=p.t_/\p.t_ < t.xs.length\/p.M_<=1):q62 (p,t)=some (decide (1 < p.M_/\Xm t.xs p.t_≠0)):=by
 unfold q62 qbx;by_cases h1:1 < p.M_
 ·obtain ⟨h2,h3⟩ | h:=h
  ·obtain ⟨j,hj⟩:∃ j:Nat,p.t_=j:=⟨_,(UA h2).symm⟩
   have hlt:j < t.xs.length:=by omega
   simp only [h1,jo,jl,hj,zt hlt,jf,Xm,Int.toNat_natCast,GJ hlt,Option.elim_some,GG]
  ·omega
 ·simp [h1]
theorem zxy (n:Nd) (h:n.K_=nilS) (hg:WE n\/zcZ n):mI n.T_<=1:=by
 have a0:mI (lit [])=0:=by decide +kernel
 have a1:mI (lit [105,110,116])=1:=by decide +kernel
 rcases hg with ⟨_,⟨h1,_⟩ | ⟨_,k,h2,_⟩⟩ | ⟨h1,_⟩ | ⟨_,⟨h1,_⟩ | ⟨_,k,h2,_⟩⟩
 ·grind
 all_goals grind
theorem zd4 {t:List PT}{n:Nd}{p:PP}(hg:WE n\/zcZ n) (h:xY t n=some p):0<=p.t_/\p.t_ < t.length\/p.M_<=1:=by
 unfold xY at h;split at h
 ·rename_i hk;cases h;refine .inr (zxy n ?_ hg);rcases zfF hg with h | ⟨k,h⟩
  all_goals grind
 split at h
 ·cases h
 ·cases h;have:idT (zO n).T_ t < t.length:=xJ.2.1;grind
abbrev SgH:=G1×G1×Int×Int
noncomputable abbrev znm:=qbc q8n q43 q62 q44
theorem zrQ {t:Sl PT}(ht:t.xs.length<=20000) {ks:Sl Nd}(hk:ks.xs.length<=20000) (hg:∀ p∈ks.xs,zc0 p) (last:Int) (n:Nd) (z h:SgH) :
    lpO znm (t,last,ks,ks.len,0,n,z,h,mkS [])=some (match ks.xs.foldlM (yb t.xs) [] with | .error e =>.inl (e.1,e.2,lit [],lit [],0,0) | .ok l =>.inr (t,last,n,z,h,mkS l)):=by
  have:=zkd (f:=znm) (xs:=ks.xs) (step:=yb t.xs) (st:=fun i a=>(t,last,ks,ks.len,(i:Int),n,z,h,mkS a)) (fin:=fun a =>.inr (t,last,n,z,h,mkS a)) (er:=fun e =>.inl (e.1,e.2,lit [],lit [],0,0)) (I:=fun i a=>a.length=i)
    (fun i hi a ha=>by
      unfold znm qbc;have hw:=zL (k:=i) (by omega);obtain ⟨_,m,hm,hmg⟩:=hg _ (jx hi);have e0:zO ks.xs[i]=m:=by unfold zO;rw [hm];rfl
      simp only [jh,zj];rw [jr (by rw [zu];omega),zt hi];have g0:zd ks.xs[i].K_ 0=some m:=by rw [hm];rfl
      simp only [jf,g0,zj,zkl (.inl hmg) (show t.xs.length<=100000 by omega),yb,e0];cases hX:xY t.xs m with
      |none=>
        simp only [zlL (mkS a) _ (show a.length<=1000000 by omega),jf,show (mkS a).xs=a from rfl,jh];by_cases h1:0<=idP ks.xs[i].T_ a
        ·grind
        grind
      |some p=>
        simp only [zlL (mkS a) _ (show a.length<=1000000 by omega),jf,show (mkS a).xs=a from rfl,jh];by_cases h1:0<=idP ks.xs[i].T_ a
        ·grind
        simp (decide:=true) only [h1,jk,Uj];rw [zpW (p:=⟨ks.xs[i].T_,p.M_,p.t_⟩) (show 0<=p.t_/\p.t_ < t.xs.length\/p.M_<=1 from zd4 (.inl hmg) hX)];simp only [jf,jh];by_cases h2:1 < p.M_/\Xm t.xs p.t_≠0
        · simp only [eq_true h2,jl,GG,zuB (mkS a) _ (show a.length<=1000000 by omega),jf,show (mkS a).xs=a from rfl,jh];by_cases h3:0<=idM p.t_ a
          ·grind
          ·simp only [h3,jk,jf,ji];rw [xB (by omega) (by simp;omega)];grind
        · simp only [eq_false h2,jk,false_and,jf,jg,ji];rw [xB (by omega) (by simp;omega)]
          grind)
    (fun i hi a a' ha e=>by
      unfold yb at e
      grind)
    (fun a _=>by
      unfold znm qbc;simp only [jh,zj]
      rw [js (by rw [zu];omega)])
    (a:=[]) rfl
  grind
theorem zlM {n:Nd}(h:FnG n):∃ ps r b,n.K_=⟨ps++[r,b],true⟩/\n.K_.xs.length - 2=ps.length/\n.K_.xs.take (n.K_.xs.length - 2)=ps/\zc1 n (n.K_.xs.length - 2)=r/\(∀ p∈ps,zc0 p)/\zcZ r/\zaM b:=by
 obtain ⟨_,ps,r,b,hk,hp,hr,_,hb⟩:=h;have hl:n.K_.xs.length - 2=ps.length:=by rw [hk];simp
 refine ⟨ps,r,b,hk,hl,?_,?_,hp,hr,hb⟩
 ·grind
 ·unfold zc1;grind
theorem zv2 {t:Sl PT}{n:Nd}(hg:FnG n) (ht:t.xs.length<=20000) (hn:n.K_.xs.length<=20000) :
    q9f (n,t)=some (match YQ t.xs n with | .error e=>(⟨lit [],Sl.mk [] false,p0⟩,e.1,e.2) | .ok s=>(s,0,0)):=by
  obtain ⟨ps,r,b,hk,hl,htk,hr,hp,hrg,_⟩:=zlM hg;unfold q9f qfn YQ;have hw:G5 (n.K_.len - 2)=(ps.length:Int):=by
    have:n.K_.len=(ps.length:Int)+2:=by rw [hk];simp [Sl.len]
    rw [this,zI (by grind) (by grind)];omega
  have hpl:ps.length<=20000:=by grind
  simp only [hw,jh,htk,hl];rw [show n.K_.xs.take ps.length=ps by grind];have hr':zc1 n ps.length=r:=by grind
  by_cases h8:8 < ps.length
  ·simp only [h8,show (8:Int) < (ps.length:Int) by omega,jl];rfl
  simp only [h8,show ¬ ((8:Int) < (ps.length:Int)) by omega,jk];rw [we (by omega) (by omega) (by grind)];simp only [jf,zj,Int.toNat_zero,Ur,Int.toNat_natCast];rw [show n.K_.xs.take ps.length=ps by grind];have:=zrQ ht (ks:=⟨ps,n.K_.nn⟩) hpl hp (ps.length:Int) n (lit [],lit [],0,0) (n.T_,lit [],0,0);rw [show (Sl.mk [] false:Sl PP)=mkS [] from rfl,show lpO (qbc q8n q43 q62 q44) _=_ from this];simp only [jf];cases ps.foldlM (yb t.xs) [] with
  |error e=>rfl
  |ok l=>
    simp only [ji,Except.bind];have hg2:zd n.K_ (ps.length:Int)=some r:=by rw [hk];rw [wm];simp
    simp only [hg2,jf,zj,zkl (.inr hrg) (show t.xs.length<=100000 by omega),hr'];cases xY t.xs r with
    |none=>rfl
    |some p=>rfl
theorem zuC {t:Sl PT}{n:Nd}(hg:∀ k∈n.K_.xs,k.k_=6->FnG k/\k.K_.xs.length<=20000) (ht:t.xs.length<=20000) (hn:n.K_.xs.length<=20000) :
    q3y (n,t)=some (match zbQ t.xs n.K_.xs with | .error e=>(e.1,e.2,Sl.mk [] false) | .ok s=>(0,0,mkS s)):=by
  have hne:∀ k e,YQ t.xs k = .error e->e.2≠0:=by
    intro k e h;unfold YQ at h;simp only at h;split at h
    ·cases h;simp
    generalize k.K_.xs.take (k.K_.xs.length - 2)=ps at h;have hf:∀ (ps:List Nd) a e,ps.foldlM (yb t.xs) a = .error e->e.2≠0:=by
      intro ps
      induction ps with
      |nil=>intro a e h;cases h
      |cons x l ih=>
        intro a e h;rw [List.foldlM_cons] at h;cases hx:yb t.xs a x with
        |ok b=>rw [hx] at h;exact ih b e h
        |error er=>
          rw [hx] at h;cases h;unfold yb at hx;split at hx
          ·cases hx;simp
          grind
    cases e1:ps.foldlM (yb t.xs) [] with
    |error er=>rw [e1] at h;cases h;grind
    |ok l=>
      rw [e1] at h;simp only [Except.bind] at h;grind
  have:=VQ (f:=qad q9f) (xs:=n.K_.xs) (step:=fun s k=>if k.k_=6 then (YQ t.xs k).bind fun x =>.ok (s++[x]) else .ok s) (st:=fun i a=>(t,n.K_,n.K_.len,(i:Int),mkS a)) (fin:=fun a =>.inr (mkS a)) (er:=fun _ e =>.inl e) (I:=fun i a=>a.length<=i)
    (fun i hi a ha=>by
      unfold qad;have hw:=zL (k:=i) (by omega);simp only [jh,zj];rw [jr (by rw [zu];omega),zt hi];simp only [jf,zj];by_cases h1:n.K_.xs[i].k_=6
      · obtain ⟨g1,g2⟩:=hg _ (jx hi) h1;simp only [h1,Uj,jp,jk,jl,zv2 g1 ht g2,jf];cases e:YQ t.xs n.K_.xs[i] with
        |error e2=>have:=hne _ _ e;simp only [this,jq,jl,jf,ji,Except.bind]
        |ok x=>
          simp only [jp,jk,Except.bind];rw [xB (by omega) (by simp;omega)];grind
      grind)
    (fun i hi a a' ha e=>by
      split at e
      · cases e1:YQ t.xs n.K_.xs[i] with
        |error er=>rw [e1] at e;cases e
        |ok x=>rw [e1] at e;cases e;simp;omega
      grind)
    (fun a _=>by
      unfold qad;simp only [jh]
      rw [js (by rw [zu];omega)])
    (a:=[]) (by simp)
  unfold q3y qec;show ((lpO (qad q9f) (t,n.K_,n.K_.len,((0:Nat):Int),mkS [])).bind _)=_;unfold zbQ;cases e:n.K_.xs.foldlM (m:=Except Er) (fun s k=>if k.k_=6 then (YQ t.xs k).bind fun x =>.ok (s++[x]) else .ok s) [] with
  |error er=>
    grind
  |ok s=>
    grind
abbrev RP:=qh
abbrev RSg:=qg
def rP (x:PP):RP:=⟨x.n_,x.M_,x.t_⟩
def rG (x:PSg):RSg:=⟨x.n_,slm rP x.P_,rP x.R_⟩
theorem zkm {t:List PT}{n:Nd}(h:WE n\/zcZ n) (ht:t.length<=100000):q1y (rN n,mkS (t.map rT))=some (match xY t n with | some p=>(rP p,true) | none=>(rP p0,false)):=by
 have m0:mI (lit [])=0:=by decide +kernel
 have m1:mI (lit [105,110,116])=1:=by decide +kernel
 have m2:mI (lit [111,119,110])=2:=by decide +kernel
 have m3:mI (lit [38])=3:=by decide +kernel
 have m4:mI (lit [38,109,117,116])=4:=by decide +kernel
 obtain ⟨kd,tx,nu,a,ks⟩:=n;have hc:(tx=lit []\/tx=lit [105,110,116])/\ks=nilS\/(tx=lit [111,119,110]\/tx=lit [38]\/tx=lit [38,109,117,116])/\∃ k,ks=⟨[k],true⟩:=by
  rcases h with ⟨_,⟨h1,h2⟩ | ⟨h1,k,h2,_⟩⟩ | ⟨h1,h2⟩ | ⟨_,⟨h1,h2⟩ | ⟨h1,k,h2,_⟩⟩
  ·grind
  ·grind
  all_goals grind
 unfold q1y q7m xY;have g0:∀ (k:Nd),zd (rN ⟨kd,tx,nu,a,⟨[k],true⟩⟩).K_ 0=some (rN k):=fun k=>by rw [zV];rfl
 obtain ⟨rfl | rfl,rfl⟩ | ⟨rfl | rfl | rfl,k,rfl⟩:=hc
 ·simp (decide:=true) only [ZE,ya,zr,jl,jk,jf,ji,m0];rfl
 ·simp (decide:=true) only [ZE,ya,zr,jl,jk,jf,ji,m1];rfl
 all_goals
  simp (decide:=true) only [ZE,ya,zr,jl,jk,jf,ji,m2,m3,m4,g0,zcY t _ (show t.length<=1000000 by omega),zO,Uq,jh];by_cases h2:idT k.T_ t < 0
  ·simp only [h2,jl,jf,jj];rfl
  ·simp only [h2,jk,jf,ji];rfl
noncomputable abbrev og0:=q4m q1y
noncomputable abbrev og1:=q4n q1y
noncomputable abbrev og2:=q4o q1y
theorem zpX {acc:List PP}{ks:List Nd}(h:acc.map qf.n_=ks.map q7.T_) (n:G1):idP n acc=idN n ks:=by
 have h1:=zdo qf.n_ (fun x=>decide (x=n)) acc;have h2:=zdo q7.T_ (fun x=>decide (x=n)) ks;unfold idP idN;grind
theorem zv3 {n:Nd}{i:Nat}(hi:i<=n.K_.xs.length) (hn:n.K_.xs.length<=20000) (T:Sl RTy) (c:Int) (z h:SgH) (k:Nd) (s:Sl RP) :
    lpO og0 (T,c,(i:Int),0,rN n,z,h,rN k,s)=some (if 0<=idN k.T_ (n.K_.xs.take i) then .inl (k.a_,30,lit [],lit [],0,0) else .inr (T,c,(i:Int),rN n,z,h,rN k,s)):=by
  have hl:(n.K_.xs.take i).length=i:=by simp;omega
  have:=W3 (f:=og0) (xs:=n.K_.xs.take i) (p:=fun x=>decide (x.T_=k.T_)) (st:=fun j=>(T,c,(i:Int),(j:Int),rN n,z,h,rN k,s)) (yes:=fun _ =>.inl (k.a_,30,lit [],lit [],0,0)) (no :=.inr (T,c,(i:Int),rN n,z,h,rN k,s))
    (fun j hj=>by
      rw [hl] at hj;unfold og0 q4m;have hg:zd (rN n).K_ (j:Int)=some (rN n.K_.xs[j]):=by rw [zV,zt (by simp;omega)];simp
      simp only [jh,zr];rw [jr (by omega),hg];simp only [jf,ZE,YG,List.getElem_take];rw [zL (by omega)]
      grind)
    (by unfold og0 q4m;simp only [jh,zr,hl];grind)
  rw [show (0:Int)=((0:Nat):Int) from rfl,this];unfold idN idx;cases (n.K_.xs.take i).findIdx? _ with
  |none=>simp
  |some j=>simp
theorem zv4 {t:List PT}{acc:List PP}(ha:acc.length<=20000) {m:Nd}{p:PP}(hv:0<=p.t_/\p.t_ < t.length\/p.M_<=1) (c:Int) (n:RNd) (z h:SgH) {k:RNd}(hk:zd k.K_ 0=some (rN m)) :
    lpO og1 (mkS (t.map rT),c,(acc.length:Int),0,n,z,h,k,rP p,mkS (acc.map rP))=some (if (1 < p.M_/\Xm t p.t_≠0)/\0<=idM p.t_ acc then .inl (m.a_,34,lit [],lit [],0,0) else .inr (mkS (t.map rT),c,(acc.length:Int),n,z,h,k,rP p,mkS (acc.map rP))):=by
  have:=W3 (f:=og1) (xs:=acc) (p:=fun x=>decide (1 < p.M_) && (decide (1 < x.M_) && (decide (p.t_=x.t_) && decide (Xm t p.t_≠0)))) (st:=fun j=>(mkS (t.map rT),c,(acc.length:Int),(j:Int),n,z,h,k,rP p,mkS (acc.map rP))) (yes:=fun _ =>.inl (m.a_,34,lit [],lit [],0,0)) (no :=.inr (mkS (t.map rT),c,(acc.length:Int),n,z,h,k,rP p,mkS (acc.map rP)))
    (fun j hj=>by
      unfold og1 q4n;simp only [jh,zr];rw [jr (by omega),xK hj];have hw:=zL (k:=j) (by omega);simp only [jf,rP];by_cases h1:1 < p.M_
      case neg=>grind
      by_cases h2:1 < acc[j].M_
      case neg=>grind
      by_cases h3:p.t_=acc[j].t_
      case neg=>simp only [h1,h2,h3,jk,jl,jm,Bool.and_false,Bool.false_and,jg,jf,hw,rP]
      obtain ⟨h4,h5⟩ | h4:=hv
      case inr=>omega
      obtain ⟨q,hq⟩:∃ q:Nat,p.t_=q:=⟨_,(UA h4).symm⟩
      have hlt:q < t.length:=by omega
      have hs:Xm t p.t_=t[q].s_:=by unfold Xm;grind
      simp only [h1,h2,eq_true h3,jl,jo,Bool.true_and];rw [hs,show zd (mkS (t.map rT)) p.t_=some (rT t[q]) by rw [hq];exact xK hlt];simp only [jf,rT,jh,hw];by_cases h6:t[q].s_=0
      ·grind
      ·simp only [h6,Uj,jq,jl,jo,hk,jf,YG])
    (by unfold og1 q4n;simp only [jh,zr];grind)
  rw [show (0:Int)=((0:Nat):Int) from rfl,this];by_cases hc:1 < p.M_/\Xm t p.t_≠0
  · simp only [eq_true hc.1,eq_true hc.2,and_self,GG];unfold idM idx
    rw [show (fun x:PP=>decide True && (decide (1 < x.M_) && (decide (p.t_=x.t_) && decide True)))=(fun x:PP=>decide (1 < x.M_) && decide (x.t_=p.t_)) from by
      grind]
    cases acc.findIdx? _ with
    |none=>simp
    |some j=>simp [hc.2]
  · have:acc.findIdx? (fun x=>decide (1 < p.M_) && (decide (1 < x.M_) && (decide (p.t_=x.t_) && decide (Xm t p.t_≠0))))=none:=by
      rw [List.findIdx?_eq_none_iff];intro x _;simp only [Bool.and_eq_false_iff,decide_eq_false_iff_not];grind
    grind
theorem zxz {acc:List PP}{x:PP}(h:acc.length<=50000):zp 32 (mkS (acc.map rP)) [rP x]=some (mkS ((acc++[x]).map rP)):=by
 rw [xB (by omega) (by simp;omega)];simp
theorem zv5 {t:List PT}(ht:t.length<=20000) {n:Nd}{ps:List Nd}{c:Nat}(hc:c<=n.K_.xs.length) (hps:n.K_.xs.take c=ps) (hn:n.K_.xs.length<=20000) (hg:∀ p∈ps,zc0 p) (z h:SgH) :
    lpO og2 (mkS (t.map rT),(c:Int),0,rN n,z,h,mkS [])=some (match ps.foldlM (yb t) [] with | .error e =>.inl (e.1,e.2,lit [],lit [],0,0) | .ok l =>.inr (mkS (t.map rT),(c:Int),rN n,z,h,mkS (l.map rP))):=by
  have hl:ps.length=c:=by grind
  have:=zkd (f:=og2) (xs:=ps) (step:=yb t) (st:=fun i a=>(mkS (t.map rT),(c:Int),(i:Int),rN n,z,h,mkS (a.map rP))) (fin:=fun a =>.inr (mkS (t.map rT),(c:Int),rN n,z,h,mkS (a.map rP))) (er:=fun e =>.inl (e.1,e.2,lit [],lit [],0,0)) (I:=fun i a=>a.map qf.n_=(n.K_.xs.take i).map q7.T_)
    (fun i hi a ha=>by
      unfold og2 q4o;have hw:=zL (k:=i) (by omega);have hal:a.length=i:=by have:=congrArg List.length ha;grind
      have hpi:ps[i]=n.K_.xs[i]:=by grind
      obtain ⟨_,m,hm,hmg⟩:=hg _ (jx hi);have e0:zO ps[i]=m:=by unfold zO;rw [hm];rfl
      have hg0:zd (rN n).K_ (i:Int)=some (rN ps[i]):=by rw [zV,zt (by simp;omega)];simp [hpi]
      have g0:zd (rN ps[i]).K_ 0=some (rN m):=by rw [zV,hm];rfl
      simp only [jh,zr];rw [jr (by omega),hg0];simp only [jf];rw [show lpO (q4m q1y) _=_ from zv3 (n:=n) (i:=i) (by omega) hn (mkS (t.map rT)) (c:Int) z h ps[i] (mkS (a.map rP)),<- zpX ha];simp only [jf,yb,e0];by_cases h1:0<=idP ps[i].T_ a
      ·grind
      simp only [h1,jk,ji,g0,jf,zkm (.inl hmg) (show t.length<=100000 by omega)];cases hX:xY t m with
      |none=>simp only [U2,jl,jf,jj,YG]
      |some p=>
        simp only [Un,jg,jk];have h1':=zv4 (t:=t) (acc:=a) (by omega) (zd4 (.inl hmg) hX) (c:Int) (rN n) z h g0;rw [hal] at h1';rw [show lpO (q4n q1y) _=_ from h1'];simp only [jf];by_cases h2:(1 < p.M_/\Xm t p.t_≠0)/\0<=idM p.t_ a
        ·grind
        · simp only [eq_false h2,jk,ji,jf,ZE,rP];rw [show (⟨ps[i].T_,p.M_,p.t_⟩:RP)=rP ⟨ps[i].T_,p.M_,p.t_⟩ from rfl,zxz (by omega)]
          grind)
    (fun i hi a a' ha e=>by
      have hpi:ps[i]=n.K_.xs[i]:=by grind
      unfold yb at e;split at e
      ·cases e
      split at e
      ·cases e
      split at e
      ·cases e
      · cases e
        rw [List.take_succ_eq_append_getElem (show i < n.K_.xs.length by omega),U6,U6,ha,<- hpi];rfl)
    (fun a _=>by
      unfold og2 q4o;simp only [jh,zr,hl]
      grind)
    (a:=[]) (by simp)
  rw [show (0:Int)=((0:Nat):Int) from rfl,show (mkS []:Sl RP)=mkS (([]:List PP).map rP) from rfl,this];grind
theorem zuD {t:List PT}{n:Nd}(hg:FnG n) (ht:t.length<=20000) (hn:n.K_.xs.length<=20000) :
    q3e (rN n,mkS (t.map rT))=some (match YQ t n with | .error e=>(⟨lit [],Sl.mk [] false,⟨lit [],0,0⟩⟩,e.1,e.2) | .ok s=>(rG s,0,0)):=by
  obtain ⟨ps,r,b,hk,hl,htk,hr,hp,hrg,_⟩:=zlM hg;unfold q3e q8f YQ;have hw:G5 ((rN n).K_.len - 2)=(ps.length:Int):=by
    have:(rN n).K_.len=(ps.length:Int)+2:=by rw [zV,hk];simp [Sl.len]
    rw [this,zI (by grind) (by grind)];omega
  have hpl:ps.length<=20000:=by grind
  have htk':n.K_.xs.take ps.length=ps:=by grind
  simp only [hw,jh,hl,zr,htk'];have hr':zc1 n ps.length=r:=by grind
  by_cases h8:8 < ps.length
  ·simp only [h8,show (8:Int) < (ps.length:Int) by omega,jl,YG]
  simp only [h8,show ¬ ((8:Int) < (ps.length:Int)) by omega,jk];rw [show (Sl.mk [] false:Sl RP)=mkS [] from rfl,show lpO (q4o q1y) _=_ from zv5 ht (n:=n) (ps:=ps) (c:=ps.length) (by rw [hk];simp) htk' hn hp (lit [],lit [],0,0) ((rN n).T_,lit [],0,0)];simp only [jf,Except.bind];cases ps.foldlM (yb t) [] with
  |error e=>rfl
  |ok l=>
    simp only [ji];have hg2:zd (rN n).K_ (ps.length:Int)=some (rN r):=by rw [zV,hk];rw [wm];simp
    simp only [hg2,jf,zkm (.inr hrg) (show t.length<=100000 by omega),hr'];cases xY t r with
    |none=>simp only [U2,jl,YG]
    |some p=>simp only [Un,jg,jk,rG,zpS,ZE]
theorem zuE {t:List PT}{k:Nd}{e:Er}(h:YQ t k = .error e):e.2≠0:=by
 unfold YQ at h;simp only at h;split at h
 ·cases h;simp
 generalize k.K_.xs.take (k.K_.xs.length - 2)=ps at h;have hf:∀ (ps:List Nd) a e,ps.foldlM (yb t) a = .error e->e.2≠0:=by
  intro ps
  induction ps with
  |nil=>intro a e h;cases h
  |cons x l ih=>
   intro a e h;rw [List.foldlM_cons] at h;cases hx:yb t a x with
   |ok b=>rw [hx] at h;exact ih b e h
   |error er=>
    rw [hx] at h;cases h;unfold yb at hx;split at hx
    all_goals grind
 cases e1:ps.foldlM (yb t) [] with
 |error er=>rw [e1] at h;cases h;grind
 |ok l=>
  rw [e1] at h;simp only [Except.bind] at h;grind
theorem zrR {t:List PT}{n:Nd}(hg:∀ k∈n.K_.xs,k.k_=6->FnG k/\k.K_.xs.length<=20000) (ht:t.length<=20000) (hn:n.K_.xs.length<=20000) :
    q1r (rN n,mkS (t.map rT))=some (match zbQ t n.K_.xs with | .error e=>(e.1,e.2,Sl.mk [] false) | .ok s=>(0,0,mkS (s.map rG))):=by
  have:=VQ (f:=q49 q3e) (xs:=n.K_.xs) (step:=fun s k=>if k.k_=6 then (YQ t k).bind fun x =>.ok (s++[x]) else .ok s) (st:=fun i a=>(mkS (t.map rT),(i:Int),rN n,mkS (a.map rG))) (fin:=fun a =>.inr (mkS (a.map rG))) (er:=fun _ e =>.inl e) (I:=fun i a=>a.length<=i)
    (fun i hi a ha=>by
      unfold q49;have hw:=zL (k:=i) (by omega);have hg0:zd (rN n).K_ (i:Int)=some (rN n.K_.xs[i]):=by rw [zV,zt (by simpa using hi)];simp
      simp only [jh,zr];rw [jr (by rw [zV];simp [Sl.len];omega),hg0];simp only [jf,Xz];by_cases h1:n.K_.xs[i].k_=6
      · obtain ⟨g1,g2⟩:=hg _ (jx hi) h1;simp only [h1,Uj,jp,jk,jl,zuD g1 ht g2,jf];cases e:YQ t n.K_.xs[i] with
        |error e2=>have:=zuE e;simp only [this,jq,jl,jf,ji,Except.bind]
        |ok x=>
          simp only [jp,jk,Except.bind];rw [xB (by omega) (by simp;omega)];grind
      grind)
    (fun i hi a a' ha e=>by
      split at e
      · cases e1:YQ t n.K_.xs[i] with
        |error er=>rw [e1] at e;cases e
        |ok x=>rw [e1] at e;cases e;simp;omega
      grind)
    (fun a _=>by
      unfold q49;simp only [jh]
      rw [js (by rw [zV];simp [Sl.len])])
    (a:=[]) (by simp)
  unfold q1r q7n;simp only [zr];show ((lpO (q49 q3e) (mkS (t.map rT),((0:Nat):Int),rN n,mkS (([]:List PSg).map rG))).bind _)=_;unfold zbQ;cases e:n.K_.xs.foldlM (m:=Except Er) (fun s k=>if k.k_=6 then (YQ t k).bind fun x =>.ok (s++[x]) else .ok s) [] with
  |error er=>
    grind
  |ok s=>
    grind
end Go.Px
