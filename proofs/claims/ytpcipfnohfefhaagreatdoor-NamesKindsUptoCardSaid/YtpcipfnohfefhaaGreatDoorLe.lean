/- Part Le: Px22PU Px22PV Px22PW. -/
import Derived.Test.YtpcipfnohfefhaaGreatDoorLd
set_option linter.unusedVariables false
set_option linter.unusedSimpArgs false
namespace Go.Px
def ym (n:Nd):Prop:=n.K_=nilS/\n.k_=5
def zsy (n:Nd):Prop:=n.k_=28/\∀ k∈n.K_.xs,ym k
inductive ExprG:Nd->Prop
 |term {n}:n.k_=5->zdl n->ExprG n
 |leaf {n}:(n.k_=23\/n.k_=24\/n.k_=26\/n.k_=27)->zdl n->ExprG n
 |call {n}:zsy n->ExprG n
 |load {n x}:n.k_=25->n.K_=⟨[x],true⟩->ym x->ExprG n
 |two {n x y}:(n.k_=21\/n.k_=22)->n.K_=⟨[x,y],true⟩->ym x->ym y->ExprG n
inductive StmtG:Nd->Prop
 |leaf {k:Int} {t n a}:(k=12\/k=13\/k=14\/k=17\/k=18)->StmtG ⟨k,t,n,a,nilS⟩
 |ite {op n a x y b1 a1 b2 a2}:ym x->ym y->(∀ s∈b1,StmtG s)->(∀ s∈b2,StmtG s)->StmtG ⟨15,op,n,a,⟨[x,y,⟨9,lit [],0,a1,mkS b1⟩,⟨9,lit [],0,a2,mkS b2⟩],true⟩⟩
 |whl {op n a x y b1 a1}:ym x->ym y->(∀ s∈b1,StmtG s)->StmtG ⟨16,op,n,a,⟨[x,y,⟨9,lit [],0,a1,mkS b1⟩],true⟩⟩
 |ret {t n a x}:ym x->StmtG ⟨17,t,n,a,⟨[x],true⟩⟩
 |fork {t n a ks}:(∀ k∈ks.xs,ym k)->StmtG ⟨19,t,n,a,ks⟩
 |call {t n a c}:zsy c->StmtG ⟨20,t,n,a,⟨[c],true⟩⟩
 |store {t n a x y}:ym x->ym y->StmtG ⟨11,t,n,a,⟨[x,y],true⟩⟩
 |set {t n a e}:ExprG e->StmtG ⟨10,t,n,a,⟨[e],true⟩⟩
def zaH (n:Nd):Prop:=∃ a l,n=⟨9,lit [],0,a,mkS l⟩/\∀ s∈l,StmtG s
def WB (n:Nd):Prop:=n.k_=8/\(n.T_=lit [105,110,116]/\n.K_=nilS\/(n.T_=lit [111,119,110]\/n.T_=lit [38]\/n.T_=lit [38,109,117,116])/\∃ k,n.K_=⟨[k],true⟩/\ym k)
def zcU (n:Nd):Prop:=n.T_=lit []/\n.K_=nilS\/WB n
def zcV (n:Nd):Prop:=n.k_=7/\∃ m,n.K_=⟨[m],true⟩/\WB m
def FnG (n:Nd):Prop:=n.k_=6/\∃ ps r b,n.K_=⟨ps++[r,b],true⟩/\(∀ p∈ps,zcV p)/\zcU r/\r.k_=8/\zaH b
theorem zfy {ts t:List Tk}{n:Nd}(h:ZY ts = .ok (n,t)):n.k_=5:=by
 have hm:∀ (m:Nd) ts,m.k_=5->xz m ts = .ok (n,t)->n.k_=5:=by
  intro m ts hm h;unfold xz at h;split at h
  ·obtain ⟨v,t1,_,h⟩:=bd_ok h;cases h;exact hm
  split at h
  ·obtain ⟨v,t1,_,h⟩:=bd_ok h;cases h;exact hm
  grind
 unfold ZY at h;split at h
 ·obtain ⟨v,t1,_,h⟩:=bd_ok h;cases h;rfl
 split at h
 ·obtain ⟨v,t1,_,h⟩:=bd_ok h;cases h;rfl
 ·obtain ⟨m,t1,em,h⟩:=bd_ok h;obtain ⟨_,t2,_,e⟩:=bd_ok em;grind
theorem zm6 {ts t:List Tk}{n:Nd}(h:z6 ts = .ok (n,t)):n.k_=5:=by
 obtain ⟨v,t1,_,h⟩:=bd_ok h;cases h;rfl
theorem Wp {ts t:List Tk}{n:Nd}(h:ZY ts = .ok (n,t)):ym n:=⟨Xx h,zfy h⟩
theorem vA {ts t:List Tk}{n:Nd}(h:z6 ts = .ok (n,t)):ym n:=⟨zJ h,zm6 h⟩
theorem zuk {ts t:List Tk}{n:Nd}(h:Ym ts = .ok (n,t)):∃ a b,n.K_=⟨[a,b],true⟩/\ym a/\ym b:=by
 obtain ⟨a,t1,ea,h⟩:=bd_ok h;obtain ⟨op,t2,eo,h⟩:=bd_ok h;obtain ⟨b,t3,eb,h⟩:=bd_ok h;cases h;exact ⟨a,b,rfl,Wp ea,Wp eb⟩
theorem zgx {ts t:List Tk}{ks:Sl Nd}(h:VG ts = .ok (ks,t)):∀ k∈ks.xs,ym k:=by
 obtain ⟨u,t1,_,h⟩:=bd_ok h;split at h
 ·cases h;simp
 ·obtain ⟨l,t2,e,h⟩:=bd_ok h;obtain ⟨u,t3,_,h⟩:=bd_ok h;cases h;exact zdn (fun _ _ _=>Wp) e
theorem zul {ts t:List Tk}{n:Nd}(h:vb ts = .ok (n,t)):ExprG n:=by
 unfold vb at h;split at h
 ·obtain ⟨v,t1,_,h⟩:=bd_ok h;cases h;exact .leaf (.inl rfl) rfl
 split at h
 ·obtain ⟨v,t1,_,h⟩:=bd_ok h;cases h;exact .leaf (.inr (.inl rfl)) rfl
 split at h
 ·split at h
  ·obtain ⟨v,t1,_,h⟩:=bd_ok h;cases h;exact .leaf (.inr (.inr (.inr rfl))) rfl
  ·obtain ⟨v,t1,_,h⟩:=bd_ok h;cases h;exact .leaf (.inr (.inr (.inl rfl))) rfl
 split at h
 ·exact .term (zfy h) (Xx h)
 obtain ⟨m,t1,em,h⟩:=bd_ok h;have hm:=zJ em;have hm':=vA em;obtain ⟨_,t0,_,e⟩:=bd_ok em;cases e;split at h
 ·obtain ⟨ks,t2,e,h⟩:=bd_ok h;cases h;exact .call ⟨rfl,zgx e⟩
 split at h
 ·obtain ⟨x,t2,e,h⟩:=bd_ok h;obtain ⟨u,t3,_,h⟩:=bd_ok h;cases h;exact .load rfl rfl (Wp e)
 split at h
 ·obtain ⟨x,t2,e,h⟩:=bd_ok h;cases h;exact .two (.inl rfl) rfl hm' (vA e)
 split at h
 ·obtain ⟨x,t2,e,h⟩:=bd_ok h;cases h;exact .two (.inr rfl) rfl hm' (vA e)
 ·have hk:=zfj hm h;unfold xz at h;split at h
  ·obtain ⟨v,t1,_,h⟩:=bd_ok h;cases h;exact .term rfl hk
  split at h
  ·obtain ⟨v,t1,_,h⟩:=bd_ok h;cases h;exact .term rfl hk
  ·cases h;exact .term rfl hk
theorem wm {n m:Nd}{ts t:List Tk}(h:Wl n ts = .ok (m,t)):m=n:=by
 obtain ⟨u,t1,_,h⟩:=bd_ok h;cases h;rfl
theorem zum {blk:List Tk->PR Nd}(hb:∀ ts n t,blk ts = .ok (n,t)->zaH n) {ts t:List Tk}{n:Nd}(h:YE blk ts = .ok (n,t)):StmtG n:=by
 have br:∀ k a ts n t,wg blk k a ts = .ok (n,t)->∃ op x y b,ym x/\ym y/\zaH b/\n=⟨k,op,0,a,⟨[x,y,b],true⟩⟩:=by
  intro k a ts n t h;obtain ⟨m,t1,em,h⟩:=bd_ok h;obtain ⟨b,t2,eb,h⟩:=bd_ok h;obtain ⟨_,h0⟩:=zlw em;obtain ⟨x,y,hk,hx,hy⟩:=zuk em;grind
 have at':∀ k ts n t,atP k ts = .ok (n,t)->n.k_=k:=by
  intro k ts n t h;obtain ⟨m,t1,em,h⟩:=bd_ok h;obtain ⟨u,t2,_,h⟩:=bd_ok h;obtain ⟨v,t3,_,h⟩:=bd_ok h;obtain ⟨u,t4,_,h⟩:=bd_ok h;cases h;rfl
 unfold YE at h;split at h
 ·obtain ⟨m,t1,_,h⟩:=bd_ok h;rw [wm h];exact .leaf (.inl rfl)
 split at h
 ·obtain ⟨m,t1,e,h⟩:=bd_ok h;rw [wm h];exact .leaf (.inr (.inl (at' _ _ _ _ e)))
 split at h
 ·obtain ⟨m,t1,e,h⟩:=bd_ok h;rw [wm h];exact .leaf (.inr (.inr (.inl (at' _ _ _ _ e))))
 split at h
 ·obtain ⟨m,t1,e,h⟩:=bd_ok h;obtain ⟨op,x,y,b,hx,hy,⟨a1,l1,rfl,h1⟩,rfl⟩:=br _ _ _ _ _ e;split at h
  ·obtain ⟨b2,t2,e2,h⟩:=bd_ok h;obtain ⟨a2,l2,rfl,h2⟩:=hb _ _ _ e2;cases h;exact .ite hx hy h1 h2
  ·cases h;exact .ite (b2:=[]) hx hy h1 (by simp)
 split at h
 ·obtain ⟨op,x,y,b,hx,hy,⟨a1,l1,rfl,h1⟩,rfl⟩:=br _ _ _ _ _ h;exact .whl hx hy h1
 split at h
 ·split at h
  ·rw [wm h];exact .leaf (.inr (.inr (.inr (.inl rfl))))
  ·obtain ⟨x,t1,e,h⟩:=bd_ok h;rw [wm h];exact .ret (Wp e)
 split at h
 ·rw [wm h];exact .leaf (.inr (.inr (.inr (.inr rfl))))
 split at h
 ·obtain ⟨m,t1,_,h⟩:=bd_ok h;obtain ⟨ks,t2,e,h⟩:=bd_ok h;rw [wm h];exact .fork (zgx e)
 obtain ⟨m,t1,_,h⟩:=bd_ok h;obtain ⟨q,t2,e,h⟩:=bd_ok h;rw [wm h];unfold WN at e;split at e
 ·obtain ⟨ks,t3,e1,e⟩:=bd_ok e;cases e;exact .call ⟨rfl,zgx e1⟩
 split at e
 ·obtain ⟨x,t3,e1,e⟩:=bd_ok e;obtain ⟨u,t4,_,e⟩:=bd_ok e;obtain ⟨u,t5,_,e⟩:=bd_ok e;obtain ⟨y,t6,e2,e⟩:=bd_ok e;cases e;exact .store (Wp e1) (Wp e2)
 ·obtain ⟨u,t3,_,e⟩:=bd_ok e;obtain ⟨x,t4,e1,e⟩:=bd_ok e;cases e;exact .set (zul e1)
theorem zj7 {one:List Tk->PR Nd}(hg:∀ ts n t,one ts = .ok (n,t)->StmtG n):∀ (j:Nat) (acc:List Nd) (ts:List Tk) (l:List Nd) (t:List Tk),(∀ x∈acc,StmtG x)->xj one j acc ts = .ok (l,t)->∀ x∈l,StmtG x
 |0,acc,ts,l,t,h,e=>by cases e
 |j+1,acc,ts,l,t,h,e=>by
  unfold xj at e;split at e
  ·grind
  ·obtain ⟨a,t1,e1,e⟩:=bd_ok e;refine zj7 hg j _ _ l t (fun x hx=>?_) e;grind
theorem zj8:∀ (r:Nat) (ts:List Tk) (n:Nd) (t:List Tk),Z8 r ts = .ok (n,t)->zaH n
 |0,ts,n,t,h=>by unfold Z8 at h;split at h <;> cases h
 |r+1,ts,n,t,h=>by
  unfold Z8 at h;obtain ⟨u,t1,_,h⟩:=bd_ok h;obtain ⟨l,t2,e,h⟩:=bd_ok h;cases h;exact ⟨_,l,rfl,zj7 (fun ts n t=>zum (zj8 r)) _ _ _ _ _ (by simp) e⟩
theorem zgy {ts t:List Tk}{n:Nd}(h:wL ts = .ok (n,t)):WB n:=by
 unfold wL at h;split at h
 ·rename_i c;cases h;exact ⟨rfl,.inl ⟨Xm c,rfl⟩⟩
 split at h
 ·rename_i c;obtain ⟨k,t1,e,h⟩:=bd_ok h;cases h;exact ⟨rfl,.inr ⟨.inl (Xm c),k,rfl,vA e⟩⟩
 obtain ⟨u,t1,em,h⟩:=bd_ok h;split at h
 ·obtain ⟨k,t2,e,h⟩:=bd_ok h;cases h;exact ⟨rfl,.inr ⟨.inr (.inr rfl),k,rfl,vA e⟩⟩
 ·obtain ⟨k,t2,e,h⟩:=bd_ok h;cases h;refine ⟨rfl,.inr ⟨.inr (.inl ?_),k,rfl,vA e⟩⟩;unfold zT at em;split at em
  ·rename_i c;exact Xm c
  ·cases em
theorem zrC {ts t:List Tk}{n:Nd}(h:xi ts = .ok (n,t)):zcV n:=by
 obtain ⟨m,t1,_,h⟩:=bd_ok h;obtain ⟨u,t2,_,h⟩:=bd_ok h;obtain ⟨k,t3,e,h⟩:=bd_ok h;cases h;exact ⟨rfl,k,rfl,zgy e⟩
theorem zxc {ts t:List Tk}{n:Nd}{a:Int}(h:fnP a ts = .ok (n,t)):FnG n:=by
 rw [zpy] at h;obtain ⟨m,t1,_,h⟩:=bd_ok h;obtain ⟨u,t2,_,h⟩:=bd_ok h;obtain ⟨ps,t3,e3,h⟩:=bd_ok h;obtain ⟨r,t4,e4,h⟩:=bd_ok h;obtain ⟨b,t5,e5,h⟩:=bd_ok h;cases h;obtain ⟨p2,t6,e6,e3⟩:=bd_ok e3;obtain ⟨u,t7,_,e3⟩:=bd_ok e3;cases e3;refine ⟨rfl,ps,r,b,rfl,?_,?_,?_,zj8 _ _ _ _ e5⟩
 ·split at e6
  ·cases e6;simp
  ·exact zdn (fun _ _ _=>zrC) e6
 ·unfold zjZ at e4;split at e4
  ·split at e4
   ·cases e4
   ·exact .inr (zgy e4)
  ·cases e4;exact .inl ⟨rfl,rfl⟩
 ·unfold zjZ at e4;split at e4
  ·split at e4
   ·cases e4
   ·exact (zgy e4).1
  grind
theorem zev:∀ (j:Nat) (acc:List Nd) (ts:List Tk) (l:List Nd) (t:List Tk),(∀ x∈acc,XW x\/FnG x)->Yi j acc ts = .ok (l,t)->∀ x∈l,XW x\/FnG x
 |0,acc,ts,l,t,h,e=>by cases e
 |j+1,acc,ts,l,t,h,e=>by
  have app:∀ a,(XW a\/FnG a)->∀ x∈acc++[a],XW x\/FnG x:=fun a ha x hx=>by
   grind
  unfold Yi at e;split at e
  ·grind
  split at e
  ·obtain ⟨a,t1,e1,e⟩:=bd_ok e;exact zev j _ _ l t (app a (.inr (zxc e1))) e
  ·obtain ⟨u,t0,_,e⟩:=bd_ok e;obtain ⟨a,t1,e1,e⟩:=bd_ok e;exact zev j _ _ l t (app a (.inl (zvI e1))) e
structure UnitG (n:Nd):Prop where
 eq:∃ l,n=⟨0,lit [],0,0,mkS l⟩
 kid:∀ k∈n.K_.xs,XW k\/FnG k
 size:zn n<=4096
theorem zj9 {s:G0}(h:(xJ s).2.2=0):UnitG (xJ s).1:=by
 unfold xJ at h |-
 split at h
 ·grind
 rename_i hc;rw [js hc];have hne:∀ e,Yi (ZU s).2.2.xs.length [] (ZU s).2.2.xs = .error e->e.2≠0:=by
  intro e he h2;have hz:(ZU s).2.1=0:=by
   grind
  obtain ⟨g,hn⟩:=zcN hz;have gk:GK ⟨(ZU s).2.2.xs.map toR,true⟩ 0 (ZU s).2.2.xs:=⟨rfl,g,by have:=g.len;omega,zj1 s⟩;have:=zfv (z1:=(0,lit [],0,0)) (z2:=(0,lit [],0,0)) _ _ 0 [] gk (by have:=g.len;omega) (GJ _) (by have:=g.len;simp;omega);grind
 cases e:Yi (ZU s).2.2.xs.length [] (ZU s).2.2.xs with
 |error er=>grind
 |ok p=>
  obtain ⟨l,t⟩:=p;rw [e] at h;simp only at h |-
  split at h
  ·simp at h
  ·rename_i hs;rw [js hs];exact ⟨⟨l,rfl⟩,zev _ _ _ l t (by simp) e,by rw [zk];show ze l+1<=4096;omega⟩
theorem vg:∀ {l:List Nd}{x:Nd},x∈l->zn x<=ze l
 |y::l,x,h=>by
  rcases Ua.1 h with rfl | h
  ·simp [ze]
  ·have:=vg h;simp only [ze];omega
theorem vh:∀ l:List Nd,l.length<=ze l
 |[]=>by simp
 |x::l=>by have:=ZR x;have:=vh l;simp only [ze,ju];omega
theorem ZV {n:Nd}:n.K_.xs.length+1<=zn n:=by rw [zk];have:=vh n.K_.xs;omega
theorem YQ {n k:Nd}(h:k∈n.K_.xs):zn k+1<=zn n:=by rw [zk n];have:=vg h;omega
abbrev PP:=qf
abbrev PSg:=qd
theorem zrD (l:List G0) (s:G0) (hl:l.length<=1000):q2e (⟨l,true⟩,s)=some (idx (fun w=>decide (s=w)) l):=by
 have:=WY (f:=q1g) (xs:=l) (p:=fun w=>decide (s=w)) (st:=fun i=>(⟨l,true⟩,s,Sl.len (⟨l,true⟩:Sl G0),(i:Int))) (yes:=fun i =>.inl (i:Int)) (no :=.inr ())
  (fun i hi=>by
   unfold q1g;simp only [jh];simp only [zu,zr (s:=⟨l,true⟩) hi,jf];rw [jr (by omega),zL (by omega)]
   split <;> rfl)
  (by unfold q1g;simp only [jh];rw [js (by show ¬ ((l.length:Int) < (l.length:Int));omega)])
 show ((lpO q1g (⟨l,true⟩,s,Sl.len (⟨l,true⟩:Sl G0),((0:Nat):Int))).bind _)=_;rw [this];unfold idx;cases l.findIdx? _ <;> rfl
def zm7:List G0:=[lit [],lit [105,110,116],lit [111,119,110],lit [38],lit [38,109,117,116]]
def mI (s:G0):Int:=idx (fun w=>decide (s=w)) zm7
def p0:PP:=⟨lit [],0,0⟩
def xY (t:List PT) (n:Nd):G3 PP:=
 if n.K_.xs=[] then some ⟨lit [],mI n.T_,0⟩ else if idT (zO n).T_ t < 0 then none else some ⟨lit [],mI n.T_,idT (zO n).T_ t⟩
def idP (n:G0) (l:List PP):Int:=idx (fun x=>decide (x.N_=n)) l
def idM (ty:Int) (l:List PP):Int:=idx (fun x=>decide (1 < x.M_) && decide (x.t_=ty)) l
def Xn (t:List PT) (i:Int):Int:=(t[i.toNat]?).elim 0 qa.S_
def yc (t:List PT) (acc:List PP) (k:Nd):Except Er (List PP):=
 if 0<=idP k.T_ acc then .error (k.a_,30) else match xY t (zO k) with
  |none =>.error ((zO k).a_,31)
  |some p=>if (1 < p.M_/\Xn t p.t_≠0)/\0<=idM p.t_ acc then .error ((zO k).a_,34) else .ok (acc++[⟨k.T_,p.M_,p.t_⟩])
def zcW (n:Nd) (i:Nat):Nd:=n.K_.xs.getD i VI
def YR (t:List PT) (n:Nd):Except Er PSg:=
 let c:=n.K_.xs.length - 2
 if 8 < c then .error (n.a_,22) else ((n.K_.xs.take c).foldlM (yc t) []).bind fun ps=>match xY t (zcW n c) with
  |none =>.error ((zcW n c).a_,31)
  |some r =>.ok ⟨n.T_,mkS ps,r⟩
def zbL (t:List PT) (l:List Nd):Except Er (List PSg):=l.foldlM (fun s k=>if k.k_=6 then (YR t k).bind fun x =>.ok (s++[x]) else .ok s) []
theorem zfz {n:Nd}(h:WB n\/zcU n):n.K_=nilS\/∃ k,n.K_=⟨[k],true⟩:=by
 rcases h with ⟨_,⟨_,h⟩ | ⟨_,k,h,_⟩⟩ | ⟨_,h⟩ | ⟨_,⟨_,h⟩ | ⟨_,k,h,_⟩⟩
 ·exact .inl h
 all_goals grind
theorem zka {t:Sl PT}{n:Nd}(h:WB n\/zcU n) (ht:t.xs.length<=100000):q8n (n,t)=some (match xY t.xs n with | some p=>(p,0) | none=>(p0,31)):=by
 unfold q8n qeb xY;rw [show (Sl.mk [lit [],lit [105,110,116],lit [111,119,110],lit [38],lit [38,109,117,116]] true:Sl G0)=⟨zm7,true⟩ from rfl,zrD zm7 _ (by decide)];simp only [jf];rcases zfz h with hk | ⟨k,hk⟩
 ·simp (decide:=true) only [hk,show (nilS:Sl Nd).len=0 from rfl,jk,jl,jf,ji];rfl
 ·have e0:zO n=k:=by unfold zO;rw [hk];rfl
  rw [e0];simp (decide:=true) only [hk,show Sl.len (⟨[k],true⟩:Sl Nd)=1 from rfl,show zd (⟨[k],true⟩:Sl Nd) 0=some k from rfl,jk,jl,jf,Vj t _ (show t.xs.length<=1000000 by omega),jh];by_cases h2:idT k.T_ t.xs < 0
  ·simp only [h2,jl,jf,jj];rfl
  ·simp only [h2,jk,jf,ji];rfl
theorem zpH {α γ:Type}{f:α×γ->G3 (Bool×γ)}{p:α->Bool}{c:γ}(hf:∀ x,f (x,c)=some (p x,c)) (s:Sl α) (hs:s.xs.length<=1000000) {body:Int×Int×Sl α×γ->G3 (Step (Int×Int×Sl α×γ) (Int×Sl α×γ⊕Sl α×γ))}
    (hb:∀ y0,body y0=if decide (y0.2.1 < y0.1)=true then (zd y0.2.2.1 y0.2.1).bind fun y1=>(zd y0.2.2.1 y0.2.1).bind fun y2=>(f (y2,y0.2.2.2)).bind fun y3=>if y3.1=true then some (.done (.inl (y0.2.1,y0.2.2.1,y3.2))) else some (.next (y0.1,G4 (y0.2.1+1),y0.2.2.1,y3.2)) else some (.done (.inr y0.2.2))) :
    ((lpO body (s.len,0,s,c)).bind fun y4=>Sum.elim (fun y5=>some y5) (fun y6=>some (-1,y6)) y4)=some (idx p s.xs,s,c):=by
  have:=WY (f:=body) (xs:=s.xs) (p:=p) (st:=fun i=>(s.len,(i:Int),s,c)) (yes:=fun i =>.inl ((i:Int),s,c)) (no :=.inr (s,c))
    (fun i hi=>by
      rw [hb];simp only [jh];simp only [zu,zr hi,jf,hf];rw [jr (by omega),zL (by omega)]
      split <;> rfl)
    (by rw [hb];simp only [jh];rw [js (by rw [zu];omega)])
  rw [show ((0:Int))=((0:Nat):Int) from rfl,this];unfold idx;cases s.xs.findIdx? p <;> rfl
theorem zly (l:Sl PP) (q:PP) (hl:l.xs.length<=1000000):q43 (l,q)=some (decide (0<=idP q.N_ l.xs),l,q):=by
 show (((lpO (q9d q8q) (l.len,0,l,q)).bind _).bind _)=_;rw [zpH (body:=q9d q8q) (f:=q8q) (p:=fun x:PP=>decide (x.N_=q.N_)) (fun x=>rfl) l hl (fun y=>rfl)];rfl
theorem zun (l:Sl PP) (q:PP) (hl:l.xs.length<=1000000):q44 (l,q)=some (decide (0<=idM q.t_ l.xs),l,q):=by
 show (((lpO (q9e q76) (l.len,0,l,q)).bind _).bind _)=_;rw [zpH (body:=q9e q76) (f:=q76) (p:=fun x:PP=>decide (1 < x.M_) && decide (x.t_=q.t_)) (fun x=>?_) l hl (fun y=>rfl)];rfl;unfold q76 qcz;grind
theorem zpI {t:Sl PT}{p:PP}(h:0<=p.t_/\p.t_ < t.xs.length\/p.M_<=1):q62 (p,t)=some (decide (1 < p.M_/\Xn t.xs p.t_≠0)):=by
 unfold q62 qbx;by_cases h1:1 < p.M_
 ·obtain ⟨h2,h3⟩ | h:=h
  ·obtain ⟨j,hj⟩:∃ j:Nat,p.t_=j:=⟨_,(U9 h2).symm⟩
   have hlt:j < t.xs.length:=by omega
   simp only [h1,jo,jl,hj,zr hlt,jf,Xn,Int.toNat_natCast,GI hlt,Option.elim_some,GF]
  ·omega
 ·simp [h1]
theorem zxd (n:Nd) (h:n.K_=nilS) (hg:WB n\/zcU n):mI n.T_<=1:=by
 have a0:mI (lit [])=0:=by decide +kernel
 have a1:mI (lit [105,110,116])=1:=by decide +kernel
 rcases hg with ⟨_,⟨h1,_⟩ | ⟨_,k,h2,_⟩⟩ | ⟨h1,_⟩ | ⟨_,⟨h1,_⟩ | ⟨_,k,h2,_⟩⟩
 ·grind
 all_goals grind
theorem zd0 {t:List PT}{n:Nd}{p:PP}(hg:WB n\/zcU n) (h:xY t n=some p):0<=p.t_/\p.t_ < t.length\/p.M_<=1:=by
 unfold xY at h;split at h
 ·rename_i hk;cases h;refine .inr (zxd n ?_ hg);rcases zfz hg with h | ⟨k,h⟩
  all_goals grind
 split at h
 ·cases h
 ·cases h;have:idT (zO n).T_ t < t.length:=xK.2.1;grind
abbrev SgH:=G0×G0×Int×Int
noncomputable abbrev zm8:=qbc q8n q43 q62 q44
theorem zrE {t:Sl PT}(ht:t.xs.length<=20000) {ks:Sl Nd}(hk:ks.xs.length<=20000) (hg:∀ p∈ks.xs,zcV p) (last:Int) (n:Nd) (z h:SgH) :
    lpO zm8 (t,last,ks,ks.len,0,n,z,h,mkS [])=some (match ks.xs.foldlM (yc t.xs) [] with | .error e =>.inl (e.1,e.2,lit [],lit [],0,0) | .ok l =>.inr (t,last,n,z,h,mkS l)):=by
  have:=zj2 (f:=zm8) (xs:=ks.xs) (step:=yc t.xs) (st:=fun i a=>(t,last,ks,ks.len,(i:Int),n,z,h,mkS a)) (fin:=fun a =>.inr (t,last,n,z,h,mkS a)) (er:=fun e =>.inl (e.1,e.2,lit [],lit [],0,0)) (I:=fun i a=>a.length=i)
    (fun i hi a ha=>by
      unfold zm8 qbc;have hw:=zL (k:=i) (by omega);obtain ⟨_,m,hm,hmg⟩:=hg _ (jx hi);have e0:zO ks.xs[i]=m:=by unfold zO;rw [hm];rfl
      simp only [jh,zj];rw [jr (by rw [zu];omega),zr hi];have g0:zd ks.xs[i].K_ 0=some m:=by rw [hm];rfl
      simp only [jf,g0,zj,zka (.inl hmg) (show t.xs.length<=100000 by omega),yc,e0];cases hX:xY t.xs m with
      |none=>
        simp only [zly (mkS a) _ (show a.length<=1000000 by omega),jf,show (mkS a).xs=a from rfl,jh];by_cases h1:0<=idP ks.xs[i].T_ a
        ·grind
        grind
      |some p=>
        simp only [zly (mkS a) _ (show a.length<=1000000 by omega),jf,show (mkS a).xs=a from rfl,jh];by_cases h1:0<=idP ks.xs[i].T_ a
        ·grind
        simp (decide:=true) only [h1,jk,Ui];rw [zpI (p:=⟨ks.xs[i].T_,p.M_,p.t_⟩) (show 0<=p.t_/\p.t_ < t.xs.length\/p.M_<=1 from zd0 (.inl hmg) hX)];simp only [jf,jh];by_cases h2:1 < p.M_/\Xn t.xs p.t_≠0
        · simp only [eq_true h2,jl,GF,zun (mkS a) _ (show a.length<=1000000 by omega),jf,show (mkS a).xs=a from rfl,jh];by_cases h3:0<=idM p.t_ a
          ·grind
          ·simp only [h3,jk,jf,ji];rw [xC (by omega) (by simp;omega)];grind
        · simp only [eq_false h2,jk,false_and,jf,jg,ji];rw [xC (by omega) (by simp;omega)]
          grind)
    (fun i hi a a' ha e=>by
      unfold yc at e
      grind)
    (fun a _=>by
      unfold zm8 qbc;simp only [jh,zj]
      rw [js (by rw [zu];omega)])
    (a:=[]) rfl
  grind
theorem zlz {n:Nd}(h:FnG n):∃ ps r b,n.K_=⟨ps++[r,b],true⟩/\n.K_.xs.length - 2=ps.length/\n.K_.xs.take (n.K_.xs.length - 2)=ps/\zcW n (n.K_.xs.length - 2)=r/\(∀ p∈ps,zcV p)/\zcU r/\zaH b:=by
 obtain ⟨_,ps,r,b,hk,hp,hr,_,hb⟩:=h;have hl:n.K_.xs.length - 2=ps.length:=by rw [hk];simp
 refine ⟨ps,r,b,hk,hl,?_,?_,hp,hr,hb⟩
 ·grind
 ·unfold zcW;grind
theorem zvL {t:Sl PT}{n:Nd}(hg:FnG n) (ht:t.xs.length<=20000) (hn:n.K_.xs.length<=20000) :
    q9f (n,t)=some (match YR t.xs n with | .error e=>(⟨lit [],Sl.mk [] false,p0⟩,e.1,e.2) | .ok s=>(s,0,0)):=by
  obtain ⟨ps,r,b,hk,hl,htk,hr,hp,hrg,_⟩:=zlz hg;unfold q9f qfn YR;have hw:G4 (n.K_.len - 2)=(ps.length:Int):=by
    have:n.K_.len=(ps.length:Int)+2:=by rw [hk];simp [Sl.len]
    rw [this,zM (by grind) (by grind)];omega
  have hpl:ps.length<=20000:=by grind
  simp only [hw,jh,htk,hl];rw [show n.K_.xs.take ps.length=ps by grind];have hr':zcW n ps.length=r:=by grind
  by_cases h8:8 < ps.length
  ·simp only [h8,show (8:Int) < (ps.length:Int) by omega,jl];rfl
  simp only [h8,show ¬ ((8:Int) < (ps.length:Int)) by omega,jk];rw [wd (by omega) (by omega) (by grind)];simp only [jf,zj,Int.toNat_zero,Uq,Int.toNat_natCast];rw [show n.K_.xs.take ps.length=ps by grind];have:=zrE ht (ks:=⟨ps,n.K_.nn⟩) hpl hp (ps.length:Int) n (lit [],lit [],0,0) (n.T_,lit [],0,0);rw [show (Sl.mk [] false:Sl PP)=mkS [] from rfl,show lpO (qbc q8n q43 q62 q44) _=_ from this];simp only [jf];cases ps.foldlM (yc t.xs) [] with
  |error e=>rfl
  |ok l=>
    simp only [ji,Except.bind];have hg2:zd n.K_ (ps.length:Int)=some r:=by rw [hk];rw [wi];simp
    simp only [hg2,jf,zj,zka (.inr hrg) (show t.xs.length<=100000 by omega),hr'];cases xY t.xs r with
    |none=>rfl
    |some p=>rfl
theorem zuo {t:Sl PT}{n:Nd}(hg:∀ k∈n.K_.xs,k.k_=6->FnG k/\k.K_.xs.length<=20000) (ht:t.xs.length<=20000) (hn:n.K_.xs.length<=20000) :
    q3y (n,t)=some (match zbL t.xs n.K_.xs with | .error e=>(e.1,e.2,Sl.mk [] false) | .ok s=>(0,0,mkS s)):=by
  have hne:∀ k e,YR t.xs k = .error e->e.2≠0:=by
    intro k e h;unfold YR at h;simp only at h;split at h
    ·cases h;simp
    generalize k.K_.xs.take (k.K_.xs.length - 2)=ps at h;have hf:∀ (ps:List Nd) a e,ps.foldlM (yc t.xs) a = .error e->e.2≠0:=by
      intro ps
      induction ps with
      |nil=>intro a e h;cases h
      |cons x l ih=>
        intro a e h;rw [List.foldlM_cons] at h;cases hx:yc t.xs a x with
        |ok b=>rw [hx] at h;exact ih b e h
        |error er=>
          rw [hx] at h;cases h;unfold yc at hx;split at hx
          ·cases hx;simp
          grind
    cases e1:ps.foldlM (yc t.xs) [] with
    |error er=>rw [e1] at h;cases h;grind
    |ok l=>
      rw [e1] at h;simp only [Except.bind] at h;grind
  have:=VM (f:=qad q9f) (xs:=n.K_.xs) (step:=fun s k=>if k.k_=6 then (YR t.xs k).bind fun x =>.ok (s++[x]) else .ok s) (st:=fun i a=>(t,n.K_,n.K_.len,(i:Int),mkS a)) (fin:=fun a =>.inr (mkS a)) (er:=fun _ e =>.inl e) (I:=fun i a=>a.length<=i)
    (fun i hi a ha=>by
      unfold qad;have hw:=zL (k:=i) (by omega);simp only [jh,zj];rw [jr (by rw [zu];omega),zr hi];simp only [jf,zj];by_cases h1:n.K_.xs[i].k_=6
      · obtain ⟨g1,g2⟩:=hg _ (jx hi) h1;simp only [h1,Ui,jp,jk,jl,zvL g1 ht g2,jf];cases e:YR t.xs n.K_.xs[i] with
        |error e2=>have:=hne _ _ e;simp only [this,jq,jl,jf,ji,Except.bind]
        |ok x=>
          simp only [jp,jk,Except.bind];rw [xC (by omega) (by simp;omega)];grind
      grind)
    (fun i hi a a' ha e=>by
      split at e
      · cases e1:YR t.xs n.K_.xs[i] with
        |error er=>rw [e1] at e;cases e
        |ok x=>rw [e1] at e;cases e;simp;omega
      grind)
    (fun a _=>by
      unfold qad;simp only [jh]
      rw [js (by rw [zu];omega)])
    (a:=[]) (by simp)
  unfold q3y qec;show ((lpO (qad q9f) (t,n.K_,n.K_.len,((0:Nat):Int),mkS [])).bind _)=_;unfold zbL;cases e:n.K_.xs.foldlM (m:=Except Er) (fun s k=>if k.k_=6 then (YR t.xs k).bind fun x =>.ok (s++[x]) else .ok s) [] with
  |error er=>
    grind
  |ok s=>
    grind
abbrev RP:=qh
abbrev RSg:=qg
def rP (x:PP):RP:=⟨x.N_,x.M_,x.t_⟩
def rG (x:PSg):RSg:=⟨x.N_,slm rP x.P_,rP x.R_⟩
theorem zkb {t:List PT}{n:Nd}(h:WB n\/zcU n) (ht:t.length<=100000):q1y (rN n,mkS (t.map rT))=some (match xY t n with | some p=>(rP p,true) | none=>(rP p0,false)):=by
 have m0:mI (lit [])=0:=by decide +kernel
 have m1:mI (lit [105,110,116])=1:=by decide +kernel
 have m2:mI (lit [111,119,110])=2:=by decide +kernel
 have m3:mI (lit [38])=3:=by decide +kernel
 have m4:mI (lit [38,109,117,116])=4:=by decide +kernel
 obtain ⟨kd,tx,nu,a,ks⟩:=n;have hc:(tx=lit []\/tx=lit [105,110,116])/\ks=nilS\/(tx=lit [111,119,110]\/tx=lit [38]\/tx=lit [38,109,117,116])/\∃ k,ks=⟨[k],true⟩:=by
  rcases h with ⟨_,⟨h1,h2⟩ | ⟨h1,k,h2,_⟩⟩ | ⟨h1,h2⟩ | ⟨_,⟨h1,h2⟩ | ⟨h1,k,h2,_⟩⟩
  ·grind
  ·grind
  all_goals grind
 unfold q1y q7m xY;have g0:∀ (k:Nd),zd (rN ⟨kd,tx,nu,a,⟨[k],true⟩⟩).K_ 0=some (rN k):=fun k=>by rw [zV];rfl
 obtain ⟨rfl | rfl,rfl⟩ | ⟨rfl | rfl | rfl,k,rfl⟩:=hc
 ·simp (decide:=true) only [ZG,yb,zt,jl,jk,jf,ji,m0];rfl
 ·simp (decide:=true) only [ZG,yb,zt,jl,jk,jf,ji,m1];rfl
 all_goals
  simp (decide:=true) only [ZG,yb,zt,jl,jk,jf,ji,m2,m3,m4,g0,zcT t _ (show t.length<=1000000 by omega),zO,Up,jh];by_cases h2:idT k.T_ t < 0
  ·simp only [h2,jl,jf,jj];rfl
  ·simp only [h2,jk,jf,ji];rfl
noncomputable abbrev og0:=q4m q1y
noncomputable abbrev og1:=q4n q1y
noncomputable abbrev og2:=q4o q1y
theorem zpJ {acc:List PP}{ks:List Nd}(h:acc.map qf.N_=ks.map q7.T_) (n:G0):idP n acc=idN n ks:=by
 have h1:=zdk qf.N_ (fun x=>decide (x=n)) acc;have h2:=zdk q7.T_ (fun x=>decide (x=n)) ks;unfold idP idN;grind
theorem zvM {n:Nd}{i:Nat}(hi:i<=n.K_.xs.length) (hn:n.K_.xs.length<=20000) (T:Sl RTy) (c:Int) (z h:SgH) (k:Nd) (s:Sl RP) :
    lpO og0 (T,c,(i:Int),0,rN n,z,h,rN k,s)=some (if 0<=idN k.T_ (n.K_.xs.take i) then .inl (k.a_,30,lit [],lit [],0,0) else .inr (T,c,(i:Int),rN n,z,h,rN k,s)):=by
  have hl:(n.K_.xs.take i).length=i:=by simp;omega
  have:=WY (f:=og0) (xs:=n.K_.xs.take i) (p:=fun x=>decide (x.T_=k.T_)) (st:=fun j=>(T,c,(i:Int),(j:Int),rN n,z,h,rN k,s)) (yes:=fun _ =>.inl (k.a_,30,lit [],lit [],0,0)) (no :=.inr (T,c,(i:Int),rN n,z,h,rN k,s))
    (fun j hj=>by
      rw [hl] at hj;unfold og0 q4m;have hg:zd (rN n).K_ (j:Int)=some (rN n.K_.xs[j]):=by rw [zV,zr (by simp;omega)];simp
      simp only [jh,zt];rw [jr (by omega),hg];simp only [jf,ZG,YG,List.getElem_take];rw [zL (by omega)]
      grind)
    (by unfold og0 q4m;simp only [jh,zt,hl];grind)
  rw [show (0:Int)=((0:Nat):Int) from rfl,this];unfold idN idx;cases (n.K_.xs.take i).findIdx? _ with
  |none=>simp
  |some j=>simp
theorem zvN {t:List PT}{acc:List PP}(ha:acc.length<=20000) {m:Nd}{p:PP}(hv:0<=p.t_/\p.t_ < t.length\/p.M_<=1) (c:Int) (n:RNd) (z h:SgH) {k:RNd}(hk:zd k.K_ 0=some (rN m)) :
    lpO og1 (mkS (t.map rT),c,(acc.length:Int),0,n,z,h,k,rP p,mkS (acc.map rP))=some (if (1 < p.M_/\Xn t p.t_≠0)/\0<=idM p.t_ acc then .inl (m.a_,34,lit [],lit [],0,0) else .inr (mkS (t.map rT),c,(acc.length:Int),n,z,h,k,rP p,mkS (acc.map rP))):=by
  have:=WY (f:=og1) (xs:=acc) (p:=fun x=>decide (1 < p.M_) && (decide (1 < x.M_) && (decide (p.t_=x.t_) && decide (Xn t p.t_≠0)))) (st:=fun j=>(mkS (t.map rT),c,(acc.length:Int),(j:Int),n,z,h,k,rP p,mkS (acc.map rP))) (yes:=fun _ =>.inl (m.a_,34,lit [],lit [],0,0)) (no :=.inr (mkS (t.map rT),c,(acc.length:Int),n,z,h,k,rP p,mkS (acc.map rP)))
    (fun j hj=>by
      unfold og1 q4n;simp only [jh,zt];rw [jr (by omega),xL hj];have hw:=zL (k:=j) (by omega);simp only [jf,rP];by_cases h1:1 < p.M_
      case neg=>grind
      by_cases h2:1 < acc[j].M_
      case neg=>grind
      by_cases h3:p.t_=acc[j].t_
      case neg=>simp only [h1,h2,h3,jk,jl,jm,Bool.and_false,Bool.false_and,jg,jf,hw,rP]
      obtain ⟨h4,h5⟩ | h4:=hv
      case inr=>omega
      obtain ⟨q,hq⟩:∃ q:Nat,p.t_=q:=⟨_,(U9 h4).symm⟩
      have hlt:q < t.length:=by omega
      have hs:Xn t p.t_=t[q].S_:=by unfold Xn;grind
      simp only [h1,h2,eq_true h3,jl,jo,Bool.true_and];rw [hs,show zd (mkS (t.map rT)) p.t_=some (rT t[q]) by rw [hq];exact xL hlt];simp only [jf,rT,jh,hw];by_cases h6:t[q].S_=0
      ·grind
      ·simp only [h6,Ui,jq,jl,jo,hk,jf,YG])
    (by unfold og1 q4n;simp only [jh,zt];grind)
  rw [show (0:Int)=((0:Nat):Int) from rfl,this];by_cases hc:1 < p.M_/\Xn t p.t_≠0
  · simp only [eq_true hc.1,eq_true hc.2,and_self,GF];unfold idM idx
    rw [show (fun x:PP=>decide True && (decide (1 < x.M_) && (decide (p.t_=x.t_) && decide True)))=(fun x:PP=>decide (1 < x.M_) && decide (x.t_=p.t_)) from by
      grind]
    cases acc.findIdx? _ with
    |none=>simp
    |some j=>simp [hc.2]
  · have:acc.findIdx? (fun x=>decide (1 < p.M_) && (decide (1 < x.M_) && (decide (p.t_=x.t_) && decide (Xn t p.t_≠0))))=none:=by
      rw [List.findIdx?_eq_none_iff];intro x _;simp only [Bool.and_eq_false_iff,decide_eq_false_iff_not];grind
    grind
theorem zxe {acc:List PP}{x:PP}(h:acc.length<=50000):zp 32 (mkS (acc.map rP)) [rP x]=some (mkS ((acc++[x]).map rP)):=by
 rw [xC (by omega) (by simp;omega)];simp
theorem zvO {t:List PT}(ht:t.length<=20000) {n:Nd}{ps:List Nd}{c:Nat}(hc:c<=n.K_.xs.length) (hps:n.K_.xs.take c=ps) (hn:n.K_.xs.length<=20000) (hg:∀ p∈ps,zcV p) (z h:SgH) :
    lpO og2 (mkS (t.map rT),(c:Int),0,rN n,z,h,mkS [])=some (match ps.foldlM (yc t) [] with | .error e =>.inl (e.1,e.2,lit [],lit [],0,0) | .ok l =>.inr (mkS (t.map rT),(c:Int),rN n,z,h,mkS (l.map rP))):=by
  have hl:ps.length=c:=by grind
  have:=zj2 (f:=og2) (xs:=ps) (step:=yc t) (st:=fun i a=>(mkS (t.map rT),(c:Int),(i:Int),rN n,z,h,mkS (a.map rP))) (fin:=fun a =>.inr (mkS (t.map rT),(c:Int),rN n,z,h,mkS (a.map rP))) (er:=fun e =>.inl (e.1,e.2,lit [],lit [],0,0)) (I:=fun i a=>a.map qf.N_=(n.K_.xs.take i).map q7.T_)
    (fun i hi a ha=>by
      unfold og2 q4o;have hw:=zL (k:=i) (by omega);have hal:a.length=i:=by have:=congrArg List.length ha;grind
      have hpi:ps[i]=n.K_.xs[i]:=by grind
      obtain ⟨_,m,hm,hmg⟩:=hg _ (jx hi);have e0:zO ps[i]=m:=by unfold zO;rw [hm];rfl
      have hg0:zd (rN n).K_ (i:Int)=some (rN ps[i]):=by rw [zV,zr (by simp;omega)];simp [hpi]
      have g0:zd (rN ps[i]).K_ 0=some (rN m):=by rw [zV,hm];rfl
      simp only [jh,zt];rw [jr (by omega),hg0];simp only [jf];rw [show lpO (q4m q1y) _=_ from zvM (n:=n) (i:=i) (by omega) hn (mkS (t.map rT)) (c:Int) z h ps[i] (mkS (a.map rP)),<- zpJ ha];simp only [jf,yc,e0];by_cases h1:0<=idP ps[i].T_ a
      ·grind
      simp only [h1,jk,ji,g0,jf,zkb (.inl hmg) (show t.length<=100000 by omega)];cases hX:xY t m with
      |none=>simp only [U1,jl,jf,jj,YG]
      |some p=>
        simp only [Um,jg,jk];have h1':=zvN (t:=t) (acc:=a) (by omega) (zd0 (.inl hmg) hX) (c:Int) (rN n) z h g0;rw [hal] at h1';rw [show lpO (q4n q1y) _=_ from h1'];simp only [jf];by_cases h2:(1 < p.M_/\Xn t p.t_≠0)/\0<=idM p.t_ a
        ·grind
        · simp only [eq_false h2,jk,ji,jf,ZG,rP];rw [show (⟨ps[i].T_,p.M_,p.t_⟩:RP)=rP ⟨ps[i].T_,p.M_,p.t_⟩ from rfl,zxe (by omega)]
          grind)
    (fun i hi a a' ha e=>by
      have hpi:ps[i]=n.K_.xs[i]:=by grind
      unfold yc at e;split at e
      ·cases e
      split at e
      ·cases e
      split at e
      ·cases e
      · cases e
        rw [List.take_succ_eq_append_getElem (show i < n.K_.xs.length by omega),U5,U5,ha,<- hpi];rfl)
    (fun a _=>by
      unfold og2 q4o;simp only [jh,zt,hl]
      grind)
    (a:=[]) (by simp)
  rw [show (0:Int)=((0:Nat):Int) from rfl,show (mkS []:Sl RP)=mkS (([]:List PP).map rP) from rfl,this];grind
theorem zup {t:List PT}{n:Nd}(hg:FnG n) (ht:t.length<=20000) (hn:n.K_.xs.length<=20000) :
    q3e (rN n,mkS (t.map rT))=some (match YR t n with | .error e=>(⟨lit [],Sl.mk [] false,⟨lit [],0,0⟩⟩,e.1,e.2) | .ok s=>(rG s,0,0)):=by
  obtain ⟨ps,r,b,hk,hl,htk,hr,hp,hrg,_⟩:=zlz hg;unfold q3e q8f YR;have hw:G4 ((rN n).K_.len - 2)=(ps.length:Int):=by
    have:(rN n).K_.len=(ps.length:Int)+2:=by rw [zV,hk];simp [Sl.len]
    rw [this,zM (by grind) (by grind)];omega
  have hpl:ps.length<=20000:=by grind
  have htk':n.K_.xs.take ps.length=ps:=by grind
  simp only [hw,jh,hl,zt,htk'];have hr':zcW n ps.length=r:=by grind
  by_cases h8:8 < ps.length
  ·simp only [h8,show (8:Int) < (ps.length:Int) by omega,jl,YG]
  simp only [h8,show ¬ ((8:Int) < (ps.length:Int)) by omega,jk];rw [show (Sl.mk [] false:Sl RP)=mkS [] from rfl,show lpO (q4o q1y) _=_ from zvO ht (n:=n) (ps:=ps) (c:=ps.length) (by rw [hk];simp) htk' hn hp (lit [],lit [],0,0) ((rN n).T_,lit [],0,0)];simp only [jf,Except.bind];cases ps.foldlM (yc t) [] with
  |error e=>rfl
  |ok l=>
    simp only [ji];have hg2:zd (rN n).K_ (ps.length:Int)=some (rN r):=by rw [zV,hk];rw [wi];simp
    simp only [hg2,jf,zkb (.inr hrg) (show t.length<=100000 by omega),hr'];cases xY t r with
    |none=>simp only [U1,jl,YG]
    |some p=>simp only [Um,jg,jk,rG,zpE,ZG]
theorem zuq {t:List PT}{k:Nd}{e:Er}(h:YR t k = .error e):e.2≠0:=by
 unfold YR at h;simp only at h;split at h
 ·cases h;simp
 generalize k.K_.xs.take (k.K_.xs.length - 2)=ps at h;have hf:∀ (ps:List Nd) a e,ps.foldlM (yc t) a = .error e->e.2≠0:=by
  intro ps
  induction ps with
  |nil=>intro a e h;cases h
  |cons x l ih=>
   intro a e h;rw [List.foldlM_cons] at h;cases hx:yc t a x with
   |ok b=>rw [hx] at h;exact ih b e h
   |error er=>
    rw [hx] at h;cases h;unfold yc at hx;split at hx
    all_goals grind
 cases e1:ps.foldlM (yc t) [] with
 |error er=>rw [e1] at h;cases h;grind
 |ok l=>
  rw [e1] at h;simp only [Except.bind] at h;grind
theorem zrF {t:List PT}{n:Nd}(hg:∀ k∈n.K_.xs,k.k_=6->FnG k/\k.K_.xs.length<=20000) (ht:t.length<=20000) (hn:n.K_.xs.length<=20000) :
    q1r (rN n,mkS (t.map rT))=some (match zbL t n.K_.xs with | .error e=>(e.1,e.2,Sl.mk [] false) | .ok s=>(0,0,mkS (s.map rG))):=by
  have:=VM (f:=q49 q3e) (xs:=n.K_.xs) (step:=fun s k=>if k.k_=6 then (YR t k).bind fun x =>.ok (s++[x]) else .ok s) (st:=fun i a=>(mkS (t.map rT),(i:Int),rN n,mkS (a.map rG))) (fin:=fun a =>.inr (mkS (a.map rG))) (er:=fun _ e =>.inl e) (I:=fun i a=>a.length<=i)
    (fun i hi a ha=>by
      unfold q49;have hw:=zL (k:=i) (by omega);have hg0:zd (rN n).K_ (i:Int)=some (rN n.K_.xs[i]):=by rw [zV,zr (by simpa using hi)];simp
      simp only [jh,zt];rw [jr (by rw [zV];simp [Sl.len];omega),hg0];simp only [jf,XA];by_cases h1:n.K_.xs[i].k_=6
      · obtain ⟨g1,g2⟩:=hg _ (jx hi) h1;simp only [h1,Ui,jp,jk,jl,zup g1 ht g2,jf];cases e:YR t n.K_.xs[i] with
        |error e2=>have:=zuq e;simp only [this,jq,jl,jf,ji,Except.bind]
        |ok x=>
          simp only [jp,jk,Except.bind];rw [xC (by omega) (by simp;omega)];grind
      grind)
    (fun i hi a a' ha e=>by
      split at e
      · cases e1:YR t n.K_.xs[i] with
        |error er=>rw [e1] at e;cases e
        |ok x=>rw [e1] at e;cases e;simp;omega
      grind)
    (fun a _=>by
      unfold q49;simp only [jh]
      rw [js (by rw [zV];simp [Sl.len])])
    (a:=[]) (by simp)
  unfold q1r q7n;simp only [zt];show ((lpO (q49 q3e) (mkS (t.map rT),((0:Nat):Int),rN n,mkS (([]:List PSg).map rG))).bind _)=_;unfold zbL;cases e:n.K_.xs.foldlM (m:=Except Er) (fun s k=>if k.k_=6 then (YR t k).bind fun x =>.ok (s++[x]) else .ok s) [] with
  |error er=>
    grind
  |ok s=>
    grind
end Go.Px
