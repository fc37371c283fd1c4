/- Part Le. -/
import Derived.Test.YtnkjgenigoecjaaGreatDoorLd
set_option linter.unusedVariables false
set_option linter.unusedSimpArgs false
namespace Go.Px
open Bool renaming true->o,false->B
open Except renaming bind->A
open List renaming map_append->C,foldlM_cons->D
open _root_.Option renaming some->d
def ZP(n:Nd):Prop:=n.K_=nilS/\n.k_=5
def zv8(n:Nd):Prop:=n.k_=28/\∀k∈n.K_.xs,ZP k
inductive ExprG:Nd->Prop
 |term {n}:n.k_=5->zer n->ExprG n
 |leaf {n}:(n.k_=23\/n.k_=24\/n.k_=26\/n.k_=27)->zer n->ExprG n
 |call {n}:zv8 n->ExprG n
 |load {n x}:n.k_=25->n.K_=⟨[x],o⟩->ZP x->ExprG n
 |two {n x y}:(n.k_=21\/n.k_=22)->n.K_=⟨[x,y],o⟩->ZP x->ZP y->ExprG n
inductive StmtG:Nd->Prop
 |leaf {k:Int} {t n a}:(k=12\/k=13\/k=14\/k=17\/k=18)->StmtG ⟨k,t,n,a,nilS⟩
 |ite {op n a x y b1 a1 b2 a2}:ZP x->ZP y->(∀s∈b1,StmtG s)->(∀s∈b2,StmtG s)->StmtG ⟨15,op,n,a,⟨[x,y,⟨9,lit [],0,a1,mkS b1⟩,⟨9,lit [],0,a2,mkS b2⟩],o⟩⟩
 |whl {op n a x y b1 a1}:ZP x->ZP y->(∀s∈b1,StmtG s)->StmtG ⟨16,op,n,a,⟨[x,y,⟨9,lit [],0,a1,mkS b1⟩],o⟩⟩
 |ret {t n a x}:ZP x->StmtG ⟨17,t,n,a,⟨[x],o⟩⟩
 |fork {t n a ks}:(∀k∈ks.xs,ZP k)->StmtG ⟨19,t,n,a,ks⟩
 |call {t n a c}:zv8 c->StmtG ⟨20,t,n,a,⟨[c],o⟩⟩
 |store {t n a x y}:ZP x->ZP y->StmtG ⟨11,t,n,a,⟨[x,y],o⟩⟩
 |set {t n a e}:ExprG e->StmtG ⟨10,t,n,a,⟨[e],o⟩⟩
def V5(n:Nd):Prop:=∃a l,n=⟨9,lit [],0,a,mkS l⟩/\∀s∈l,StmtG s
def vj(n:Nd):Prop:=n.k_=8/\(n.T_=lit [105,110,116]/\n.K_=nilS\/(n.T_=lit [111,119,110]\/n.T_=lit [38]\/n.T_=lit [38,109,117,116])/\∃k,n.K_=⟨[k],o⟩/\ZP k)
def zdY(n:Nd):Prop:=n.T_=lit []/\n.K_=nilS\/vj n
def zdZ(n:Nd):Prop:=n.k_=7/\∃m,n.K_=⟨[m],o⟩/\vj m
def FnG(n:Nd):Prop:=n.k_=6/\∃ps r b,n.K_=⟨ps++[r,b],o⟩/\(∀p∈ps,zdZ p)/\zdY r/\r.k_=8/\V5 b
theorem zg0{ts t:List Tk}{n:Nd}(h:Z3 ts = .ok (n,t)):n.k_=5:=by
 have hm:∀(m:Nd) ts,m.k_=5->xW m ts = .ok (n,t)->n.k_=5:=by
  intro m ts hm h;unfold xW at h;split at h
  ·obtain⟨v,t1,_,h⟩:=bd_ok h;cases h;exact hm
  split at h
  ·obtain⟨v,t1,_,h⟩:=bd_ok h;cases h;exact hm
  grind
 unfold Z3 at h;split at h
 ·obtain⟨v,t1,_,h⟩:=bd_ok h;cases h;rfl
 split at h
 ·obtain⟨v,t1,_,h⟩:=bd_ok h;cases h;rfl
 ·obtain⟨m,t1,em,h⟩:=bd_ok h;obtain⟨_,t2,_,e⟩:=bd_ok em;grind
theorem zpL{ts t:List Tk}{n:Nd}(h:Zb ts = .ok (n,t)):n.k_=5:=by
 obtain⟨v,t1,_,h⟩:=bd_ok h;cases h;rfl
theorem W7{ts t:List Tk}{n:Nd}(h:Z3 ts = .ok (n,t)):ZP n:=⟨X4 h,zg0 h⟩
theorem Vr{ts t:List Tk}{n:Nd}(h:Zb ts = .ok (n,t)):ZP n:=⟨zN h,zpL h⟩
theorem zym{ts t:List Tk}{n:Nd}(h:YE ts = .ok (n,t)):∃a b,n.K_=⟨[a,b],o⟩/\ZP a/\ZP b:=by
 obtain⟨a,t1,ea,h⟩:=bd_ok h;obtain⟨op,t2,eo,h⟩:=bd_ok h;obtain⟨b,t3,eb,h⟩:=bd_ok h;cases h;exact⟨a,b,rfl,W7 ea,W7 eb⟩
theorem zia{ts t:List Tk}{ks:Sl Nd}(h:zap ts = .ok (ks,t)):∀k∈ks.xs,ZP k:=by
 obtain⟨u,t1,_,h⟩:=bd_ok h;split at h
 ·cases h;simp
 ·obtain⟨l,t2,e,h⟩:=bd_ok h;obtain⟨u,t3,_,h⟩:=bd_ok h;cases h;exact zet (λ_ _ _=>W7) e
theorem zyn{ts t:List Tk}{n:Nd}(h:vV ts = .ok (n,t)):ExprG n:=by
 unfold vV at h;split at h
 ·obtain⟨v,t1,_,h⟩:=bd_ok h;cases h;exact .leaf (.inl rfl) rfl
 split at h
 ·obtain⟨v,t1,_,h⟩:=bd_ok h;cases h;exact .leaf (.inr (.inl rfl)) rfl
 split at h
 ·split at h
  ·obtain⟨v,t1,_,h⟩:=bd_ok h;cases h;exact .leaf (.inr (.inr (.inr rfl))) rfl
  ·obtain⟨v,t1,_,h⟩:=bd_ok h;cases h;exact .leaf (.inr (.inr (.inl rfl))) rfl
 split at h
 ·exact .term (zg0 h) (X4 h)
 obtain⟨m,t1,em,h⟩:=bd_ok h;have hm:=zN em;have hm':=Vr em;obtain⟨_,t0,_,e⟩:=bd_ok em;cases e;split at h
 ·obtain⟨ks,t2,e,h⟩:=bd_ok h;cases h;exact .call ⟨rfl,zia e⟩
 split at h
 ·obtain⟨x,t2,e,h⟩:=bd_ok h;obtain⟨u,t3,_,h⟩:=bd_ok h;cases h;exact .load rfl rfl (W7 e)
 split at h
 ·obtain⟨x,t2,e,h⟩:=bd_ok h;cases h;exact .two (.inl rfl) rfl hm' (Vr e)
 split at h
 ·obtain⟨x,t2,e,h⟩:=bd_ok h;cases h;exact .two (.inr rfl) rfl hm' (Vr e)
 ·have hk:=zgL hm h;unfold xW at h;split at h
  ·obtain⟨v,t1,_,h⟩:=bd_ok h;cases h;exact .term rfl hk
  split at h
  ·obtain⟨v,t1,_,h⟩:=bd_ok h;cases h;exact .term rfl hk
  ·cases h;exact .term rfl hk
theorem wV{n m:Nd}{ts t:List Tk}(h:W3 n ts = .ok (m,t)):m=n:=by
 obtain⟨u,t1,_,h⟩:=bd_ok h;cases h;rfl
theorem zyo{blk:List Tk->PR Nd}(hb:∀ts n t,blk ts = .ok (n,t)->V5 n){ts t:List Tk}{n:Nd}(h:YY blk ts = .ok (n,t)):StmtG n:=by
 have br:∀k a ts n t,wR blk k a ts = .ok (n,t)->∃op x y b,ZP x/\ZP y/\V5 b/\n=⟨k,op,0,a,⟨[x,y,b],o⟩⟩:=by
  intro k a ts n t h;obtain⟨m,t1,em,h⟩:=bd_ok h;obtain⟨b,t2,eb,h⟩:=bd_ok h;obtain⟨_,h0⟩:=znX em;obtain⟨x,y,hk,hx,hy⟩:=zym em;grind
 have at':∀k ts n t,atP k ts = .ok (n,t)->n.k_=k:=by
  intro k ts n t h;obtain⟨m,t1,em,h⟩:=bd_ok h;obtain⟨u,t2,_,h⟩:=bd_ok h;obtain⟨v,t3,_,h⟩:=bd_ok h;obtain⟨u,t4,_,h⟩:=bd_ok h;cases h;rfl
 unfold YY at h;split at h
 ·obtain⟨m,t1,_,h⟩:=bd_ok h;rw[wV h];exact .leaf (.inl rfl)
 split at h
 ·obtain⟨m,t1,e,h⟩:=bd_ok h;rw[wV h];exact .leaf (.inr (.inl (at' _ _ _ _ e)))
 split at h
 ·obtain⟨m,t1,e,h⟩:=bd_ok h;rw[wV h];exact .leaf (.inr (.inr (.inl (at' _ _ _ _ e))))
 split at h
 ·obtain⟨m,t1,e,h⟩:=bd_ok h;obtain⟨op,x,y,b,hx,hy,⟨a1,l1,rfl,h1⟩,rfl⟩:=br _ _ _ _ _ e;split at h
  ·obtain⟨b2,t2,e2,h⟩:=bd_ok h;obtain⟨a2,l2,rfl,h2⟩:=hb _ _ _ e2;cases h;exact .ite hx hy h1 h2
  ·cases h;exact .ite (b2:=[]) hx hy h1 (by simp)
 split at h
 ·obtain⟨op,x,y,b,hx,hy,⟨a1,l1,rfl,h1⟩,rfl⟩:=br _ _ _ _ _ h;exact .whl hx hy h1
 split at h
 ·split at h
  ·rw[wV h];exact .leaf (.inr (.inr (.inr (.inl rfl))))
  ·obtain⟨x,t1,e,h⟩:=bd_ok h;rw[wV h];exact .ret (W7 e)
 split at h
 ·rw[wV h];exact .leaf (.inr (.inr (.inr (.inr rfl))))
 split at h
 ·obtain⟨m,t1,_,h⟩:=bd_ok h;obtain⟨ks,t2,e,h⟩:=bd_ok h;rw[wV h];exact .fork (zia e)
 obtain⟨m,t1,_,h⟩:=bd_ok h;obtain⟨q,t2,e,h⟩:=bd_ok h;rw[wV h];unfold vA at e;split at e
 ·obtain⟨ks,t3,e1,e⟩:=bd_ok e;cases e;exact .call ⟨rfl,zia e1⟩
 split at e
 ·obtain⟨x,t3,e1,e⟩:=bd_ok e;obtain⟨u,t4,_,e⟩:=bd_ok e;obtain⟨u,t5,_,e⟩:=bd_ok e;obtain⟨y,t6,e2,e⟩:=bd_ok e;cases e;exact .store (W7 e1) (W7 e2)
 ·obtain⟨u,t3,_,e⟩:=bd_ok e;obtain⟨x,t4,e1,e⟩:=bd_ok e;cases e;exact .set (zyn e1)
theorem zmo{one:List Tk->PR Nd}(hg:∀ts n t,one ts = .ok (n,t)->StmtG n):∀(j:Nat) (acc:List Nd) (ts:List Tk) (l:List Nd) (t:List Tk),(∀x∈acc,StmtG x)->xH one j acc ts = .ok (l,t)->∀x∈l,StmtG x
 |0,acc,ts,l,t,h,e=>by cases e
 |j+1,acc,ts,l,t,h,e=>by
  unfold xH at e;split at e
  ·grind
  ·obtain⟨a,t1,e1,e⟩:=bd_ok e;refine zmo hg j _ _ l t (λx hx=>?_) e;grind
theorem zmp:∀(r:Nat) (ts:List Tk) (n:Nd) (t:List Tk),yg r ts = .ok (n,t)->V5 n
 |0,ts,n,t,h=>by unfold yg at h;split at h<;>cases h
 |r+1,ts,n,t,h=>by
  unfold yg at h;obtain⟨u,t1,_,h⟩:=bd_ok h;obtain⟨l,t2,e,h⟩:=bd_ok h;cases h;exact⟨_,l,rfl,zmo (λts n t=>zyo (zmp r)) _ _ _ _ _ (by simp) e⟩
theorem zib{ts t:List Tk}{n:Nd}(h:Wq ts = .ok (n,t)):vj n:=by
 unfold Wq at h;split at h
 ·rename_i c;cases h;exact⟨rfl,.inl ⟨XO c,rfl⟩⟩
 split at h
 ·rename_i c;obtain⟨k,t1,e,h⟩:=bd_ok h;cases h;exact⟨rfl,.inr ⟨.inl (XO c),k,rfl,Vr e⟩⟩
 obtain⟨u,t1,em,h⟩:=bd_ok h;split at h
 ·obtain⟨k,t2,e,h⟩:=bd_ok h;cases h;exact⟨rfl,.inr ⟨.inr (.inr rfl),k,rfl,Vr e⟩⟩
 ·obtain⟨k,t2,e,h⟩:=bd_ok h;cases h;refine⟨rfl,.inr ⟨.inr (.inl ?_),k,rfl,Vr e⟩⟩;unfold zW at em;split at em
  ·rename_i c;exact XO c
  ·cases em
theorem zu8{ts t:List Tk}{n:Nd}(h:xG ts = .ok (n,t)):zdZ n:=by
 obtain⟨m,t1,_,h⟩:=bd_ok h;obtain⟨u,t2,_,h⟩:=bd_ok h;obtain⟨k,t3,e,h⟩:=bd_ok h;cases h;exact⟨rfl,k,rfl,zib e⟩
theorem zBv{ts t:List Tk}{n:Nd}{a:Int}(h:fnP a ts = .ok (n,t)):FnG n:=by
 rw[zsQ] at h;obtain⟨m,t1,_,h⟩:=bd_ok h;obtain⟨u,t2,_,h⟩:=bd_ok h;obtain⟨ps,t3,e3,h⟩:=bd_ok h;obtain⟨r,t4,e4,h⟩:=bd_ok h;obtain⟨b,t5,e5,h⟩:=bd_ok h;cases h;obtain⟨p2,t6,e6,e3⟩:=bd_ok e3;obtain⟨u,t7,_,e3⟩:=bd_ok e3;cases e3;refine⟨rfl,ps,r,b,rfl,?_,?_,?_,zmp _ _ _ _ e5⟩
 ·split at e6
  ·cases e6;simp
  ·exact zet (λ_ _ _=>zu8) e6
 ·unfold zmg at e4;split at e4
  ·split at e4
   ·cases e4
   ·exact .inr (zib e4)
  ·cases e4;exact .inl ⟨rfl,rfl⟩
 ·unfold zmg at e4;split at e4
  ·split at e4
   ·cases e4
   ·exact(zib e4).1
  grind
theorem zfO:∀(j:Nat) (acc:List Nd) (ts:List Tk) (l:List Nd) (t:List Tk),(∀x∈acc,wD x\/FnG x)->YA j acc ts = .ok (l,t)->∀x∈l,wD x\/FnG x
 |0,acc,ts,l,t,h,e=>by cases e
 |j+1,acc,ts,l,t,h,e=>by
  have app:∀a,(wD a\/FnG a)->∀x∈acc++[a],wD x\/FnG x:=λa ha x hx=>by
   grind
  unfold YA at e;split at e
  ·grind
  split at e
  ·obtain⟨a,t1,e1,e⟩:=bd_ok e;exact zfO j _ _ l t (app a (.inr (zBv e1))) e
  ·obtain⟨u,t0,_,e⟩:=bd_ok e;obtain⟨a,t1,e1,e⟩:=bd_ok e;exact zfO j _ _ l t (app a (.inl (zzX e1))) e
structure UnitG(n:Nd):Prop where
 eq:∃l,n=⟨0,lit [],0,0,mkS l⟩
 kid:∀k∈n.K_.xs,wD k\/FnG k
 size:zl n<=4096
theorem zmq{s:U5}(h:(Xc s).2.2=0):UnitG (Xc s).1:=by
 unfold Xc at h |-
 split at h
 ·grind
 rename_i hc;rw[jx hc];have hne:∀e,YA (Z1 s).2.2.xs.length [] (Z1 s).2.2.xs = .error e->e.2≠0:=by
  intro e he h2;have hz:(Z1 s).2.1=0:=by
   grind
  obtain⟨g,hn⟩:=zdR hz;have gk:GK ⟨(Z1 s).2.2.xs.map toR,o⟩ 0 (Z1 s).2.2.xs:=⟨rfl,g,by have:=g.len;omega,zmi s⟩;have:=zgX (z1:=(0,lit [],0,0)) (z2:=(0,lit [],0,0)) _ _ 0 [] gk (by have:=g.len;omega) (UN _) (by have:=g.len;simp;omega);grind
 cases e:YA (Z1 s).2.2.xs.length [] (Z1 s).2.2.xs with
 |error er=>grind
 |ok p=>
  obtain⟨l,t⟩:=p;rw[e] at h;simp only at h |-
  split at h
  ·simp at h
  ·rename_i hs;rw[jx hs];exact⟨⟨l,rfl⟩,zfO _ _ _ l t (by simp) e,by rw[zk];show zd l+1<=4096;omega⟩
theorem X7:∀{l:List Nd}{x:Nd},x∈l->zl x<=zd l
 |y::l,x,h=>by
  rcases De.1 h with rfl | h
  ·simp[zd]
  ·have:=X7 h;simp only[zd];omega
theorem Wt:∀l:List Nd,l.length<=zd l
 |[]=>by simp
 |x::l=>by have:=z6 x;have:=Wt l;simp only[zd,jz];omega
theorem Zl{n:Nd}:n.K_.xs.length+1<=zl n:=by rw[zk];have:=Wt n.K_.xs;omega
theorem ZX{n k:Nd}(h:k∈n.K_.xs):zl k+1<=zl n:=by rw[zk n];have:=X7 h;omega
abbrev PP:=qh
abbrev PSg:=qf
theorem zu9(l:List U5)(s:U5)(hl:l.length<=1000):q2q (⟨l,o⟩,s)=d (idx (λw=>decide (s=w)) l):=by
 have:=wm (f:=q1n) (xs:=l) (p:=λw=>decide (s=w)) (st:=λi=>(⟨l,o⟩,s,Sl.len (⟨l,o⟩:Sl U5),(i:Int))) (yes:=λi =>.inl (i:Int)) (no :=.inr ())
  (λi hi=>by
   unfold q1n;simp only[jl];simp only[zj,zg (s:=⟨l,o⟩) hi,jj];rw[jv (by omega),zw (by omega)]
   split<;>rfl)
  (by unfold q1n;simp only[jl];rw[jx (by show¬ ((l.length:Int) < (l.length:Int));omega)])
 show((lpO q1n (⟨l,o⟩,s,Sl.len (⟨l,o⟩:Sl U5),((0:Nat):Int))).bind _)=_;rw[this];unfold idx;cases l.findIdx? _<;>rfl
def zpM:List U5:=[lit [],lit [105,110,116],lit [111,119,110],lit [38],lit [38,109,117,116]]
def mI(s:U5):Int:=idx (λw=>decide (s=w)) zpM
def p0:PP:=⟨lit [],0,0⟩
def X8(t:List PT)(n:Nd):U7 PP:=
 if n.K_.xs=[] then d ⟨lit [],mI n.T_,0⟩ else if idT (zV n).T_ t < 0 then none else d ⟨lit [],mI n.T_,idT (zV n).T_ t⟩
def idP(n:U5)(l:List PP):Int:=idx (λx=>decide (x.N_=n)) l
def idM(ty:Int)(l:List PP):Int:=idx (λx=>decide (1 < x.M_) && decide (x.t_=ty)) l
def XP(t:List PT)(i:Int):Int:=(t[i.toNat]?).elim 0 qa.S_
def Z8(t:List PT)(acc:List PP)(k:Nd):Except Er (List PP):=
 if 0<=idP k.T_ acc then .error (k.a_,30) else match X8 t (zV k) with
  |none =>.error ((zV k).a_,31)
  |some p=>if(1 < p.M_/\XP t p.t_≠0)/\0<=idM p.t_ acc then .error ((zV k).a_,34) else .ok (acc++[⟨k.T_,p.M_,p.t_⟩])
def zd0(n:Nd)(i:Nat):Nd:=n.K_.xs.getD i vi
def xa(t:List PT)(n:Nd):Except Er PSg:=
 let c:=n.K_.xs.length - 2
 if 8 < c then .error (n.a_,22) else((n.K_.xs.take c).foldlM (Z8 t) []).bind λps=>match X8 t (zd0 n c) with
  |none =>.error ((zd0 n c).a_,31)
  |some r =>.ok ⟨n.T_,mkS ps,r⟩
def zcC(t:List PT)(l:List Nd):Except Er (List PSg):=l.foldlM (λs k=>if k.k_=6 then(xa t k).bind λx =>.ok (s++[x]) else .ok s) []
theorem zg1{n:Nd}(h:vj n\/zdY n):n.K_=nilS\/∃k,n.K_=⟨[k],o⟩:=by
 rcases h with⟨_,⟨_,h⟩ | ⟨_,k,h,_⟩⟩ | ⟨_,h⟩ | ⟨_,⟨_,h⟩ | ⟨_,k,h,_⟩⟩
 ·exact .inl h
 all_goals grind
theorem zmr{t:Sl PT}{n:Nd}(h:vj n\/zdY n)(ht:t.xs.length<=100000):qam (n,t)=d (match X8 t.xs n with | some p=>(p,0) | none=>(p0,31)):=by
 unfold qam qg8 X8;rw[show(Sl.mk [lit [],lit [105,110,116],lit [111,119,110],lit [38],lit [38,109,117,116]] true:Sl U5)=⟨zpM,o⟩ from rfl,zu9 zpM _ (by decide)];simp only[jj];rcases zg1 h with hk | ⟨k,hk⟩
 ·simp (decide:=true) only [hk,show(nilS:Sl Nd).len=0 from rfl,jp,jq,jj,jm];rfl
 ·have e0:zV n=k:=by unfold zV;rw[hk];rfl
  rw[e0];simp (decide:=true) only [hk,show Sl.len (⟨[k],o⟩:Sl Nd)=1 from rfl,show za (⟨[k],o⟩:Sl Nd) 0=d k from rfl,jp,jq,jj,zcA t _ (show t.xs.length<=1000000 by omega),jl];by_cases h2:idT k.T_ t.xs < 0
  ·simp only[h2,jq,jj,jo];rfl
  ·simp only[h2,jp,jj,jm];rfl
theorem zsZ {α γ:Type}{f:α×γ->U7 (Bool×γ)}{p:α->Bool}{c:γ}(hf:∀x,f (x,c)=d (p x,c)) (s:Sl α) (hs:s.xs.length<=1000000) {body:Int×Int×Sl α×γ->U7 (Step (Int×Int×Sl α×γ) (Int×Sl α×γ⊕Sl α×γ))}
    (hb:∀y0,body y0=if decide (y0.2.1 < y0.1)=o then(za y0.2.2.1 y0.2.1).bind λy1=>(za y0.2.2.1 y0.2.1).bind λy2=>(f (y2,y0.2.2.2)).bind λy3=>if y3.1=o then d (.done (.inl (y0.2.1,y0.2.2.1,y3.2))) else d (.next (y0.1,U8 (y0.2.1+1),y0.2.2.1,y3.2)) else d (.done (.inr y0.2.2))) :
    ((lpO body (s.len,0,s,c)).bind λy4=>Sum.elim (λy5=>d y5) (λy6=>d (-1,y6)) y4)=d (idx p s.xs,s,c):=by
 have:=wm (f:=body) (xs:=s.xs) (p:=p) (st:=λi=>(s.len,(i:Int),s,c)) (yes:=λi =>.inl ((i:Int),s,c)) (no :=.inr (s,c))
  (λi hi=>by
    rw[hb];simp only[jl];simp only[zj,zg hi,jj,hf];rw[jv (by omega),zw (by omega)]
    split<;>rfl)
  (by rw[hb];simp only[jl];rw[jx (by rw[zj];omega)])
 rw[show((0:Int))=((0:Nat):Int) from rfl,this];unfold idx;cases s.xs.findIdx? p<;>rfl
theorem znZ(l:Sl PP)(q:PP)(hl:l.xs.length<=1000000):q5b (l,q)=d (decide (0<=idP q.N_ l.xs),l,q):=by
 show(((lpO (qbk qao) (l.len,0,l,q)).bind _).bind _)=_;rw[zsZ (body:=qbk qao) (f:=qao) (p:=λx:PP=>decide (x.N_=q.N_)) (λx=>rfl) l hl (λy=>rfl)];rfl
theorem zyp(l:Sl PP)(q:PP)(hl:l.xs.length<=1000000):q5c (l,q)=d (decide (0<=idM q.t_ l.xs),l,q):=by
 show(((lpO (qbl q8t) (l.len,0,l,q)).bind _).bind _)=_;rw[zsZ (body:=qbl q8t) (f:=q8t) (p:=λx:PP=>decide (1 < x.M_) && decide (x.t_=q.t_)) (λx=>?_) l hl (λy=>rfl)];rfl;unfold q8t qfc;grind
theorem zs0{t:Sl PT}{p:PP}(h:0<=p.t_/\p.t_ < t.xs.length\/p.M_<=1):q7l (p,t)=d (decide (1 < p.M_/\XP t.xs p.t_≠0)):=by
 unfold q7l qeh;by_cases h1:1 < p.M_
 ·obtain⟨h2,h3⟩ | h:=h
  ·obtain⟨j,hj⟩:∃j:Nat,p.t_=j:=⟨_,(DH h2).symm⟩
   have hlt:j < t.xs.length:=by omega
   simp only[h1,js,jq,hj,zg hlt,jj,XP,Int.toNat_natCast,UM hlt,Option.elim_some,UJ]
  ·omega
 ·simp[h1]
theorem zBw(n:Nd)(h:n.K_=nilS)(hg:vj n\/zdY n):mI n.T_<=1:=by
 have a0:mI (lit [])=0:=by decide +kernel
 have a1:mI (lit [105,110,116])=1:=by decide +kernel
 rcases hg with⟨_,⟨h1,_⟩ | ⟨_,k,h2,_⟩⟩ | ⟨h1,_⟩ | ⟨_,⟨h1,_⟩ | ⟨_,k,h2,_⟩⟩
 ·grind
 all_goals grind
theorem za3{t:List PT}{n:Nd}{p:PP}(hg:vj n\/zdY n)(h:X8 t n=d p):0<=p.t_/\p.t_ < t.length\/p.M_<=1:=by
 unfold X8 at h;split at h
 ·rename_i hk;cases h;refine .inr (zBw n ?_ hg);rcases zg1 hg with h | ⟨k,h⟩
  all_goals grind
 split at h
 ·cases h
 ·cases h;have:idT (zV n).T_ t < t.length:=yz.2.1;grind
abbrev SgH:=U5×U5×Int×Int
noncomputable abbrev zpN:=qdn qam q5b q7l q5c
theorem zva {t:Sl PT}(ht:t.xs.length<=20000) {ks:Sl Nd}(hk:ks.xs.length<=20000) (hg:∀p∈ks.xs,zdZ p) (last:Int) (n:Nd) (z h:SgH) :
    lpO zpN (t,last,ks,ks.len,0,n,z,h,mkS [])=d (match ks.xs.foldlM (Z8 t.xs) [] with | .error e =>.inl (e.1,e.2,lit [],lit [],0,0) | .ok l =>.inr (t,last,n,z,h,mkS l)):=by
 have:=zmj (f:=zpN) (xs:=ks.xs) (step:=Z8 t.xs) (st:=λi a=>(t,last,ks,ks.len,(i:Int),n,z,h,mkS a)) (fin:=λa =>.inr (t,last,n,z,h,mkS a)) (er:=λe =>.inl (e.1,e.2,lit [],lit [],0,0)) (I:=λi a=>a.length=i)
  (λi hi a ha=>by
    unfold zpN qdn;have hw:=zw (k:=i) (by omega);obtain⟨_,m,hm,hmg⟩:=hg _ (gc hi);have e0:zV ks.xs[i]=m:=by unfold zV;rw[hm];rfl
    simp only[jl,zm];rw[jv (by rw[zj];omega),zg hi];have g0:za ks.xs[i].K_ 0=d m:=by rw[hm];rfl
    simp only[jj,g0,zm,zmr (.inl hmg) (show t.xs.length<=100000 by omega),Z8,e0];cases hX:X8 t.xs m with
    |none=>
     simp only[znZ (mkS a) _ (show a.length<=1000000 by omega),jj,show(mkS a).xs=a from rfl,jl];by_cases h1:0<=idP ks.xs[i].T_ a
     ·grind
     grind
    |some p=>
     simp only[znZ (mkS a) _ (show a.length<=1000000 by omega),jj,show(mkS a).xs=a from rfl,jl];by_cases h1:0<=idP ks.xs[i].T_ a
     ·grind
     simp (decide:=true) only [h1,jp,Dm];rw[zs0 (p:=⟨ks.xs[i].T_,p.M_,p.t_⟩) (show 0<=p.t_/\p.t_ < t.xs.length\/p.M_<=1 from za3 (.inl hmg) hX)];simp only[jj,jl];by_cases h2:1 < p.M_/\XP t.xs p.t_≠0
     · simp only[eq_true h2,jq,UJ,zyp (mkS a) _ (show a.length<=1000000 by omega),jj,show(mkS a).xs=a from rfl,jl];by_cases h3:0<=idM p.t_ a
       ·grind
       ·simp only[h3,jp,jj,jm];rw[xZ (by omega) (by simp;omega)];grind
     · simp only[eq_false h2,jp,false_and,jj,jk,jm];rw[xZ (by omega) (by simp;omega)]
       grind)
  (λi hi a a' ha e=>by
    unfold Z8 at e
    grind)
  (λa _=>by
    unfold zpN qdn;simp only[jl,zm]
    rw[jx (by rw[zj];omega)])
  (a:=[]) rfl
 grind
theorem zn0{n:Nd}(h:FnG n):∃ps r b,n.K_=⟨ps++[r,b],o⟩/\n.K_.xs.length - 2=ps.length/\n.K_.xs.take (n.K_.xs.length - 2)=ps/\zd0 n (n.K_.xs.length - 2)=r/\(∀p∈ps,zdZ p)/\zdY r/\V5 b:=by
 obtain⟨_,ps,r,b,hk,hp,hr,_,hb⟩:=h;have hl:n.K_.xs.length - 2=ps.length:=by rw[hk];simp
 refine⟨ps,r,b,hk,hl,?_,?_,hp,hr,hb⟩
 ·grind
 ·unfold zd0;grind
theorem zz0 {t:Sl PT}{n:Nd}(hg:FnG n) (ht:t.xs.length<=20000) (hn:n.K_.xs.length<=20000) :
    qbm (n,t)=d (match xa t.xs n with | .error e=>(⟨lit [],Sl.mk [] B,p0⟩,e.1,e.2) | .ok s=>(s,0,0)):=by
 obtain⟨ps,r,b,hk,hl,htk,hr,hp,hrg,_⟩:=zn0 hg;unfold qbm qh2 xa;have hw:U8 (n.K_.len - 2)=(ps.length:Int):=by
  have:n.K_.len=(ps.length:Int)+2:=by rw[hk];simp[Sl.len]
  rw[this,zK (by grind) (by grind)];omega
 have hpl:ps.length<=20000:=by grind
 simp only[hw,jl,htk,hl];rw[show n.K_.xs.take ps.length=ps by grind];have hr':zd0 n ps.length=r:=by grind
 by_cases h8:8 < ps.length
 ·simp only[h8,show(8:Int) < (ps.length:Int) by omega,jq];rfl
 simp only[h8,show¬ ((8:Int) < (ps.length:Int)) by omega,jp];rw[YV (by omega) (by omega) (by grind)];simp only[jj,zm,Int.toNat_zero,Dv,Int.toNat_natCast];rw[show n.K_.xs.take ps.length=ps by grind];have:=zva ht (ks:=⟨ps,n.K_.nn⟩) hpl hp (ps.length:Int) n (lit [],lit [],0,0) (n.T_,lit [],0,0);rw[show(Sl.mk [] false:Sl PP)=mkS [] from rfl,show lpO (qdn qam q5b q7l q5c) _=_ from this];simp only[jj];cases ps.foldlM (Z8 t.xs) [] with
 |error e=>rfl
 |ok l=>
  simp only[jm,A];have hg2:za n.K_ (ps.length:Int)=d r:=by rw[hk];rw[wT];simp
  simp only[hg2,jj,zm,zmr (.inr hrg) (show t.xs.length<=100000 by omega),hr'];cases X8 t.xs r with
  |none=>rfl
  |some p=>rfl
theorem zyq {t:Sl PT}{n:Nd}(hg:∀k∈n.K_.xs,k.k_=6->FnG k/\k.K_.xs.length<=20000) (ht:t.xs.length<=20000) (hn:n.K_.xs.length<=20000) :
    q77 (n,t)=d (match zcC t.xs n.K_.xs with | .error e=>(e.1,e.2,Sl.mk [] B) | .ok s=>(0,0,mkS s)):=by
 have hne:∀k e,xa t.xs k = .error e->e.2≠0:=by
  intro k e h;unfold xa at h;simp only at h;split at h
  ·cases h;simp
  generalize k.K_.xs.take (k.K_.xs.length - 2)=ps at h;have hf:∀(ps:List Nd) a e,ps.foldlM (Z8 t.xs) a = .error e->e.2≠0:=by
   intro ps
   induction ps with
   |nil=>intro a e h;cases h
   |cons x l ih=>
    intro a e h;rw[D] at h;cases hx:Z8 t.xs a x with
    |ok b=>rw[hx] at h;exact ih b e h
    |error er=>
     rw[hx] at h;cases h;unfold Z8 at hx;split at hx
     ·cases hx;simp
     grind
  cases e1:ps.foldlM (Z8 t.xs) [] with
  |error er=>rw[e1] at h;cases h;grind
  |ok l=>
   rw[e1] at h;simp only[A] at h;grind
 have:=zau (f:=qcp qbm) (xs:=n.K_.xs) (step:=λs k=>if k.k_=6 then(xa t.xs k).bind λx =>.ok (s++[x]) else .ok s) (st:=λi a=>(t,n.K_,n.K_.len,(i:Int),mkS a)) (fin:=λa =>.inr (mkS a)) (er:=λ_ e =>.inl e) (I:=λi a=>a.length<=i)
  (λi hi a ha=>by
    unfold qcp;have hw:=zw (k:=i) (by omega);simp only[jl,zm];rw[jv (by rw[zj];omega),zg hi];simp only[jj,zm];by_cases h1:n.K_.xs[i].k_=6
    · obtain⟨g1,g2⟩:=hg _ (gc hi) h1;simp only[h1,Dm,jt,jp,jq,zz0 g1 ht g2,jj];cases e:xa t.xs n.K_.xs[i] with
      |error e2=>have:=hne _ _ e;simp only[this,ju,jq,jj,jm,A]
      |ok x=>
       simp only[jt,jp,A];rw[xZ (by omega) (by simp;omega)];grind
    grind)
  (λi hi a a' ha e=>by
    split at e
    · cases e1:xa t.xs n.K_.xs[i] with
      |error er=>rw[e1] at e;cases e
      |ok x=>rw[e1] at e;cases e;simp;omega
    grind)
  (λa _=>by
    unfold qcp;simp only[jl]
    rw[jx (by rw[zj];omega)])
  (a:=[]) (by simp)
 unfold q77 qg9;show((lpO (qcp qbm) (t,n.K_,n.K_.len,((0:Nat):Int),mkS [])).bind _)=_;unfold zcC;cases e:n.K_.xs.foldlM (m:=Except Er) (λs k=>if k.k_=6 then(xa t.xs k).bind λx =>.ok (s++[x]) else .ok s) [] with
 |error er=>
  grind
 |ok s=>
  grind
abbrev RP:=qi
abbrev RSg:=qj
def rP(x:PP):RP:=⟨x.N_,x.M_,x.t_⟩
def rG(x:PSg):RSg:=⟨x.N_,slm rP x.P_,rP x.R_⟩
theorem zms{t:List PT}{n:Nd}(h:vj n\/zdY n)(ht:t.length<=100000):q28 (rN n,mkS (t.map rT))=d (match X8 t n with | some p=>(rP p,o) | none=>(rP p0,B)):=by
 have m0:mI (lit [])=0:=by decide +kernel
 have m1:mI (lit [105,110,116])=1:=by decide +kernel
 have m2:mI (lit [111,119,110])=2:=by decide +kernel
 have m3:mI (lit [38])=3:=by decide +kernel
 have m4:mI (lit [38,109,117,116])=4:=by decide +kernel
 obtain⟨kd,tx,nu,a,ks⟩:=n;have hc:(tx=lit []\/tx=lit [105,110,116])/\ks=nilS\/(tx=lit [111,119,110]\/tx=lit [38]\/tx=lit [38,109,117,116])/\∃k,ks=⟨[k],o⟩:=by
  rcases h with⟨_,⟨h1,h2⟩ | ⟨h1,k,h2,_⟩⟩ | ⟨h1,h2⟩ | ⟨_,⟨h1,h2⟩ | ⟨h1,k,h2,_⟩⟩
  ·grind
  ·grind
  all_goals grind
 unfold q28 q9a X8;have g0:∀(k:Nd),za (rN ⟨kd,tx,nu,a,⟨[k],o⟩⟩).K_ 0=d (rN k):=λk=>by rw[zF];rfl
 obtain⟨rfl | rfl,rfl⟩ | ⟨rfl | rfl | rfl,k,rfl⟩:=hc
 ·simp (decide:=true) only [zZ,Z7,zi,jq,jp,jj,jm,m0];rfl
 ·simp (decide:=true) only [zZ,Z7,zi,jq,jp,jj,jm,m1];rfl
 all_goals
  simp (decide:=true) only [zZ,Z7,zi,jq,jp,jj,jm,m2,m3,m4,g0,zav t _ (show t.length<=1000000 by omega),zV,Du,jl];by_cases h2:idT k.T_ t < 0
  ·simp only[h2,jq,jj,jo];rfl
  ·simp only[h2,jp,jj,jm];rfl
noncomputable abbrev og0:=q5z q28
noncomputable abbrev og1:=q60 q28
noncomputable abbrev og2:=q61 q28
theorem zs1{acc:List PP}{ks:List Nd}(h:acc.map qh.N_=ks.map q8.T_)(n:U5):idP n acc=idN n ks:=by
 have h1:=znW qh.N_ (λx=>decide (x=n)) acc;have h2:=znW q8.T_ (λx=>decide (x=n)) ks;unfold idP idN;grind
theorem zz1 {n:Nd}{i:Nat}(hi:i<=n.K_.xs.length) (hn:n.K_.xs.length<=20000) (T:Sl RTy) (c:Int) (z h:SgH) (k:Nd) (s:Sl RP) :
    lpO og0 (T,c,(i:Int),0,rN n,z,h,rN k,s)=d (if 0<=idN k.T_ (n.K_.xs.take i) then .inl (k.a_,30,lit [],lit [],0,0) else .inr (T,c,(i:Int),rN n,z,h,rN k,s)):=by
 have hl:(n.K_.xs.take i).length=i:=by simp;omega
 have:=wm (f:=og0) (xs:=n.K_.xs.take i) (p:=λx=>decide (x.T_=k.T_)) (st:=λj=>(T,c,(i:Int),(j:Int),rN n,z,h,rN k,s)) (yes:=λ_ =>.inl (k.a_,30,lit [],lit [],0,0)) (no :=.inr (T,c,(i:Int),rN n,z,h,rN k,s))
  (λj hj=>by
    rw[hl] at hj;unfold og0 q5z;have hg:za (rN n).K_ (j:Int)=d (rN n.K_.xs[j]):=by rw[zF,zg (by simp;omega)];simp
    simp only[jl,zi];rw[jv (by omega),hg];simp only[jj,zZ,Y0,List.getElem_take];rw[zw (by omega)]
    grind)
  (by unfold og0 q5z;simp only[jl,zi,hl];grind)
 rw[show(0:Int)=((0:Nat):Int) from rfl,this];unfold idN idx;cases(n.K_.xs.take i).findIdx? _ with
 |none=>simp
 |some j=>simp
theorem zz2 {t:List PT}{acc:List PP}(ha:acc.length<=20000) {m:Nd}{p:PP}(hv:0<=p.t_/\p.t_ < t.length\/p.M_<=1) (c:Int) (n:RNd) (z h:SgH) {k:RNd}(hk:za k.K_ 0=d (rN m)) :
    lpO og1 (mkS (t.map rT),c,(acc.length:Int),0,n,z,h,k,rP p,mkS (acc.map rP))=d (if(1 < p.M_/\XP t p.t_≠0)/\0<=idM p.t_ acc then .inl (m.a_,34,lit [],lit [],0,0) else .inr (mkS (t.map rT),c,(acc.length:Int),n,z,h,k,rP p,mkS (acc.map rP))):=by
 have:=wm (f:=og1) (xs:=acc) (p:=λx=>decide (1 < p.M_) && (decide (1 < x.M_) && (decide (p.t_=x.t_) && decide (XP t p.t_≠0)))) (st:=λj=>(mkS (t.map rT),c,(acc.length:Int),(j:Int),n,z,h,k,rP p,mkS (acc.map rP))) (yes:=λ_ =>.inl (m.a_,34,lit [],lit [],0,0)) (no :=.inr (mkS (t.map rT),c,(acc.length:Int),n,z,h,k,rP p,mkS (acc.map rP)))
  (λj hj=>by
    unfold og1 q60;simp only[jl,zi];rw[jv (by omega),Xd hj];have hw:=zw (k:=j) (by omega);simp only[jj,rP];by_cases h1:1 < p.M_
    case neg=>grind
    by_cases h2:1 < acc[j].M_
    case neg=>grind
    by_cases h3:p.t_=acc[j].t_
    case neg=>simp only[h1,h2,h3,jp,jq,jr,Bool.and_false,Bool.false_and,jk,jj,hw,rP]
    obtain⟨h4,h5⟩ | h4:=hv
    case inr=>omega
    obtain⟨q,hq⟩:∃q:Nat,p.t_=q:=⟨_,(DH h4).symm⟩
    have hlt:q < t.length:=by omega
    have hs:XP t p.t_=t[q].S_:=by unfold XP;grind
    simp only[h1,h2,eq_true h3,jq,js,Bool.true_and];rw[hs,show za (mkS (t.map rT)) p.t_=d (rT t[q]) by rw[hq];exact Xd hlt];simp only[jj,rT,jl,hw];by_cases h6:t[q].S_=0
    ·grind
    ·simp only[h6,Dm,ju,jq,js,hk,jj,Y0])
  (by unfold og1 q60;simp only[jl,zi];grind)
 rw[show(0:Int)=((0:Nat):Int) from rfl,this];by_cases hc:1 < p.M_/\XP t p.t_≠0
 · simp only[eq_true hc.1,eq_true hc.2,and_self,UJ];unfold idM idx
   rw[show(λx:PP=>decide True && (decide (1 < x.M_) && (decide (p.t_=x.t_) && decide True)))=(λx:PP=>decide (1 < x.M_) && decide (x.t_=p.t_)) from by
    grind]
   cases acc.findIdx? _ with
   |none=>simp
   |some j=>simp[hc.2]
 · have:acc.findIdx? (λx=>decide (1 < p.M_) && (decide (1 < x.M_) && (decide (p.t_=x.t_) && decide (XP t p.t_≠0))))=none:=by
     rw[List.findIdx?_eq_none_iff];intro x _;simp only[Bool.and_eq_false_iff,decide_eq_false_iff_not];grind
   grind
theorem zBx{acc:List PP}{x:PP}(h:acc.length<=50000):zo 32 (mkS (acc.map rP)) [rP x]=d (mkS ((acc++[x]).map rP)):=by
 rw[xZ (by omega) (by simp;omega)];simp
theorem zz3 {t:List PT}(ht:t.length<=20000) {n:Nd}{ps:List Nd}{c:Nat}(hc:c<=n.K_.xs.length) (hps:n.K_.xs.take c=ps) (hn:n.K_.xs.length<=20000) (hg:∀p∈ps,zdZ p) (z h:SgH) :
    lpO og2 (mkS (t.map rT),(c:Int),0,rN n,z,h,mkS [])=d (match ps.foldlM (Z8 t) [] with | .error e =>.inl (e.1,e.2,lit [],lit [],0,0) | .ok l =>.inr (mkS (t.map rT),(c:Int),rN n,z,h,mkS (l.map rP))):=by
 have hl:ps.length=c:=by grind
 have:=zmj (f:=og2) (xs:=ps) (step:=Z8 t) (st:=λi a=>(mkS (t.map rT),(c:Int),(i:Int),rN n,z,h,mkS (a.map rP))) (fin:=λa =>.inr (mkS (t.map rT),(c:Int),rN n,z,h,mkS (a.map rP))) (er:=λe =>.inl (e.1,e.2,lit [],lit [],0,0)) (I:=λi a=>a.map qh.N_=(n.K_.xs.take i).map q8.T_)
  (λi hi a ha=>by
    unfold og2 q61;have hw:=zw (k:=i) (by omega);have hal:a.length=i:=by have:=congrArg List.length ha;grind
    have hpi:ps[i]=n.K_.xs[i]:=by grind
    obtain⟨_,m,hm,hmg⟩:=hg _ (gc hi);have e0:zV ps[i]=m:=by unfold zV;rw[hm];rfl
    have hg0:za (rN n).K_ (i:Int)=d (rN ps[i]):=by rw[zF,zg (by simp;omega)];simp[hpi]
    have g0:za (rN ps[i]).K_ 0=d (rN m):=by rw[zF,hm];rfl
    simp only[jl,zi];rw[jv (by omega),hg0];simp only[jj];rw[show lpO (q5z q28) _=_ from zz1 (n:=n) (i:=i) (by omega) hn (mkS (t.map rT)) (c:Int) z h ps[i] (mkS (a.map rP)),<- zs1 ha];simp only[jj,Z8,e0];by_cases h1:0<=idP ps[i].T_ a
    ·grind
    simp only[h1,jp,jm,g0,jj,zms (.inl hmg) (show t.length<=100000 by omega)];cases hX:X8 t m with
    |none=>simp only[D8,jq,jj,jo,Y0]
    |some p=>
     simp only[Dr,jk,jp];have h1':=zz2 (t:=t) (acc:=a) (by omega) (za3 (.inl hmg) hX) (c:Int) (rN n) z h g0;rw[hal] at h1';rw[show lpO (q60 q28) _=_ from h1'];simp only[jj];by_cases h2:(1 < p.M_/\XP t p.t_≠0)/\0<=idM p.t_ a
     ·grind
     · simp only[eq_false h2,jp,jm,jj,zZ,rP];rw[show(⟨ps[i].T_,p.M_,p.t_⟩:RP)=rP ⟨ps[i].T_,p.M_,p.t_⟩ from rfl,zBx (by omega)]
       grind)
  (λi hi a a' ha e=>by
    have hpi:ps[i]=n.K_.xs[i]:=by grind
    unfold Z8 at e;split at e
    ·cases e
    split at e
    ·cases e
    split at e
    ·cases e
    · cases e
      rw[List.take_succ_eq_append_getElem (show i < n.K_.xs.length by omega),C,C,ha,<- hpi];rfl)
  (λa _=>by
    unfold og2 q61;simp only[jl,zi,hl]
    grind)
  (a:=[]) (by simp)
 rw[show(0:Int)=((0:Nat):Int) from rfl,show(mkS []:Sl RP)=mkS (([]:List PP).map rP) from rfl,this];grind
theorem zyr {t:List PT}{n:Nd}(hg:FnG n) (ht:t.length<=20000) (hn:n.K_.xs.length<=20000) :
    q4c (rN n,mkS (t.map rT))=d (match xa t n with | .error e=>(⟨lit [],Sl.mk [] B,⟨lit [],0,0⟩⟩,e.1,e.2) | .ok s=>(rG s,0,0)):=by
 obtain⟨ps,r,b,hk,hl,htk,hr,hp,hrg,_⟩:=zn0 hg;unfold q4c qab xa;have hw:U8 ((rN n).K_.len - 2)=(ps.length:Int):=by
  have:(rN n).K_.len=(ps.length:Int)+2:=by rw[zF,hk];simp[Sl.len]
  rw[this,zK (by grind) (by grind)];omega
 have hpl:ps.length<=20000:=by grind
 have htk':n.K_.xs.take ps.length=ps:=by grind
 simp only[hw,jl,hl,zi,htk'];have hr':zd0 n ps.length=r:=by grind
 by_cases h8:8 < ps.length
 ·simp only[h8,show(8:Int) < (ps.length:Int) by omega,jq,Y0]
 simp only[h8,show¬ ((8:Int) < (ps.length:Int)) by omega,jp];rw[show(Sl.mk [] false:Sl RP)=mkS [] from rfl,show lpO (q61 q28) _=_ from zz3 ht (n:=n) (ps:=ps) (c:=ps.length) (by rw[hk];simp) htk' hn hp (lit [],lit [],0,0) ((rN n).T_,lit [],0,0)];simp only[jj,A];cases ps.foldlM (Z8 t) [] with
 |error e=>rfl
 |ok l=>
  simp only[jm];have hg2:za (rN n).K_ (ps.length:Int)=d (rN r):=by rw[zF,hk];rw[wT];simp
  simp only[hg2,jj,zms (.inr hrg) (show t.length<=100000 by omega),hr'];cases X8 t r with
  |none=>simp only[D8,jq,Y0]
  |some p=>simp only[Dr,jk,jp,rG,zsW,zZ]
theorem zys{t:List PT}{k:Nd}{e:Er}(h:xa t k = .error e):e.2≠0:=by
 unfold xa at h;simp only at h;split at h
 ·cases h;simp
 generalize k.K_.xs.take (k.K_.xs.length - 2)=ps at h;have hf:∀(ps:List Nd) a e,ps.foldlM (Z8 t) a = .error e->e.2≠0:=by
  intro ps
  induction ps with
  |nil=>intro a e h;cases h
  |cons x l ih=>
   intro a e h;rw[D] at h;cases hx:Z8 t a x with
   |ok b=>rw[hx] at h;exact ih b e h
   |error er=>
    rw[hx] at h;cases h;unfold Z8 at hx;split at hx
    all_goals grind
 cases e1:ps.foldlM (Z8 t) [] with
 |error er=>rw[e1] at h;cases h;grind
 |ok l=>
  rw[e1] at h;simp only[A] at h;grind
theorem zvb {t:List PT}{n:Nd}(hg:∀k∈n.K_.xs,k.k_=6->FnG k/\k.K_.xs.length<=20000) (ht:t.length<=20000) (hn:n.K_.xs.length<=20000) :
    q2t (rN n,mkS (t.map rT))=d (match zcC t n.K_.xs with | .error e=>(e.1,e.2,Sl.mk [] B) | .ok s=>(0,0,mkS (s.map rG))):=by
 have:=zau (f:=q5i q4c) (xs:=n.K_.xs) (step:=λs k=>if k.k_=6 then(xa t k).bind λx =>.ok (s++[x]) else .ok s) (st:=λi a=>(mkS (t.map rT),(i:Int),rN n,mkS (a.map rG))) (fin:=λa =>.inr (mkS (a.map rG))) (er:=λ_ e =>.inl e) (I:=λi a=>a.length<=i)
  (λi hi a ha=>by
    unfold q5i;have hw:=zw (k:=i) (by omega);have hg0:za (rN n).K_ (i:Int)=d (rN n.K_.xs[i]):=by rw[zF,zg (by simpa using hi)];simp
    simp only[jl,zi];rw[jv (by rw[zF];simp[Sl.len];omega),hg0];simp only[jj,ZT];by_cases h1:n.K_.xs[i].k_=6
    · obtain⟨g1,g2⟩:=hg _ (gc hi) h1;simp only[h1,Dm,jt,jp,jq,zyr g1 ht g2,jj];cases e:xa t n.K_.xs[i] with
      |error e2=>have:=zys e;simp only[this,ju,jq,jj,jm,A]
      |ok x=>
       simp only[jt,jp,A];rw[xZ (by omega) (by simp;omega)];grind
    grind)
  (λi hi a a' ha e=>by
    split at e
    · cases e1:xa t n.K_.xs[i] with
      |error er=>rw[e1] at e;cases e
      |ok x=>rw[e1] at e;cases e;simp;omega
    grind)
  (λa _=>by
    unfold q5i;simp only[jl]
    rw[jx (by rw[zF];simp[Sl.len])])
  (a:=[]) (by simp)
 unfold q2t q9b;simp only[zi];show((lpO (q5i q4c) (mkS (t.map rT),((0:Nat):Int),rN n,mkS (([]:List PSg).map rG))).bind _)=_;unfold zcC;cases e:n.K_.xs.foldlM (m:=Except Er) (λs k=>if k.k_=6 then(xa t k).bind λx =>.ok (s++[x]) else .ok s) [] with
 |error er=>
  grind
 |ok s=>
  grind
end Go.Px
