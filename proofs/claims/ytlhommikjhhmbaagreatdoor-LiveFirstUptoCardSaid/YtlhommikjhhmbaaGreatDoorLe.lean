/- Part Le. -/
import Derived.Test.YtlhommikjhhmbaaGreatDoorLd
set_option linter.unusedVariables false
set_option linter.unusedSimpArgs false
set_option linter.unusedSectionVars false
namespace Go.Px
open Bool renaming true->o,false->B
open Except renaming bind->A
open _root_.Option renaming some->d
def ZP(n:Nd):Prop:=n.K_=nilS/\n.k_=5
def zvs(n:Nd):Prop:=n.k_=28/\∀k∈n.K_.xs,ZP k
inductive ExprG:Nd->Prop
 |term {n}:n.k_=5->zer n->ExprG n
 |leaf {n}:(n.k_=23\/n.k_=24\/n.k_=26\/n.k_=27)->zer n->ExprG n
 |call {n}:zvs n->ExprG n
 |load {n x}:n.k_=25->n.K_=⟨[x],o⟩->ZP x->ExprG n
 |two {n x y}:(n.k_=21\/n.k_=22)->n.K_=⟨[x,y],o⟩->ZP x->ZP y->ExprG n
inductive StmtG:Nd->Prop
 |leaf {k:Int} {t n a}:(k=12\/k=13\/k=14\/k=17\/k=18)->StmtG ⟨k,t,n,a,nilS⟩
 |ite {op n a x y b1 a1 b2 a2}:ZP x->ZP y->(∀s∈b1,StmtG s)->(∀s∈b2,StmtG s)->StmtG ⟨15,op,n,a,⟨[x,y,⟨9,lit [],0,a1,mkS b1⟩,⟨9,lit [],0,a2,mkS b2⟩],o⟩⟩
 |whl {op n a x y b1 a1}:ZP x->ZP y->(∀s∈b1,StmtG s)->StmtG ⟨16,op,n,a,⟨[x,y,⟨9,lit [],0,a1,mkS b1⟩],o⟩⟩
 |ret {t n a x}:ZP x->StmtG ⟨17,t,n,a,⟨[x],o⟩⟩
 |fork {t n a ks}:(∀k∈ks.xs,ZP k)->StmtG ⟨19,t,n,a,ks⟩
 |call {t n a c}:zvs c->StmtG ⟨20,t,n,a,⟨[c],o⟩⟩
 |store {t n a x y}:ZP x->ZP y->StmtG ⟨11,t,n,a,⟨[x,y],o⟩⟩
 |set {t n a e}:ExprG e->StmtG ⟨10,t,n,a,⟨[e],o⟩⟩
def V8(n:Nd):Prop:=∃a l,n=⟨9,lit [],0,a,mkS l⟩/\∀s∈l,StmtG s
def vq(n:Nd):Prop:=n.k_=8/\(n.T_=lit [105,110,116]/\n.K_=nilS\/(n.T_=lit [111,119,110]\/n.T_=lit [38]\/n.T_=lit [38,109,117,116])/\∃k,n.K_=⟨[k],o⟩/\ZP k)
def zdY(n:Nd):Prop:=n.T_=lit []/\n.K_=nilS\/vq n
def zdZ(n:Nd):Prop:=n.k_=7/\∃m,n.K_=⟨[m],o⟩/\vq m
def FnG(n:Nd):Prop:=n.k_=6/\∃ps r b,n.K_=⟨ps++[r,b],o⟩/\(∀p∈ps,zdZ p)/\zdY r/\r.k_=8/\V8 b
theorem zg0{ts t:List Tk}{n:Nd}(h:Z4 ts = .ok (n,t)):n.k_=5:=by
 have b:∀(m:Nd) ts,m.k_=5->xX m ts = .ok (n,t)->n.k_=5:=by
  intro m ts b h;unfold xX at h;split at h
  ·obtain⟨v,a,_,h⟩:=bd_ok h;cases h;exact b
  split at h
  ·obtain⟨v,a,_,h⟩:=bd_ok h;cases h;exact b
  grind
 unfold Z4 at h;split at h
 ·obtain⟨v,a,_,h⟩:=bd_ok h;cases h;rfl
 split at h
 ·obtain⟨v,a,_,h⟩:=bd_ok h;cases h;rfl
 ·obtain⟨m,a,c,h⟩:=bd_ok h;obtain⟨_,t2,_,e⟩:=bd_ok c;grind
theorem zpC{ts t:List Tk}{n:Nd}(h:Zb ts = .ok (n,t)):n.k_=5:=by
 obtain⟨v,a,_,h⟩:=bd_ok h;cases h;rfl
theorem vf{ts t:List Tk}{n:Nd}(h:Z4 ts = .ok (n,t)):ZP n:=⟨X3 h,zg0 h⟩
theorem Vu{ts t:List Tk}{n:Nd}(h:Zb ts = .ok (n,t)):ZP n:=⟨zP h,zpC h⟩
theorem zxn{ts t:List Tk}{n:Nd}(h:YI ts = .ok (n,t)):∃a b,n.K_=⟨[a,b],o⟩/\ZP a/\ZP b:=by
 obtain⟨a,g,e,h⟩:=bd_ok h;obtain⟨op,t2,f,h⟩:=bd_ok h;obtain⟨b,t3,c,h⟩:=bd_ok h;cases h;exact⟨a,b,rfl,vf e,vf c⟩
theorem zh9{ts t:List Tk}{ks:Sl Nd}(h:zas ts = .ok (ks,t)):∀k∈ks.xs,ZP k:=by
 obtain⟨u,a,_,h⟩:=bd_ok h;split at h
 ·cases h;simp
 ·obtain⟨l,t2,e,h⟩:=bd_ok h;obtain⟨u,t3,_,h⟩:=bd_ok h;cases h;exact zet (λ_ _ _=>vf) e
theorem zxo{ts t:List Tk}{n:Nd}(h:Va ts = .ok (n,t)):ExprG n:=by
 unfold Va at h;split at h
 ·obtain⟨v,a,_,h⟩:=bd_ok h;cases h;exact .leaf (.inl rfl) rfl
 split at h
 ·obtain⟨v,a,_,h⟩:=bd_ok h;cases h;exact .leaf (.inr (.inl rfl)) rfl
 split at h
 ·split at h
  ·obtain⟨v,a,_,h⟩:=bd_ok h;cases h;exact .leaf (.inr (.inr (.inr rfl))) rfl
  ·obtain⟨v,a,_,h⟩:=bd_ok h;cases h;exact .leaf (.inr (.inr (.inl rfl))) rfl
 split at h
 ·exact .term (zg0 h) (X3 h)
 obtain⟨m,a,f,h⟩:=bd_ok h;have g:=zP f;have b:=Vu f;obtain⟨_,t0,_,e⟩:=bd_ok f;cases e;split at h
 ·obtain⟨ks,t2,e,h⟩:=bd_ok h;cases h;exact .call ⟨rfl,zh9 e⟩
 split at h
 ·obtain⟨x,t2,e,h⟩:=bd_ok h;obtain⟨u,t3,_,h⟩:=bd_ok h;cases h;exact .load rfl rfl (vf e)
 split at h
 ·obtain⟨x,t2,e,h⟩:=bd_ok h;cases h;exact .two (.inl rfl) rfl b (Vu e)
 split at h
 ·obtain⟨x,t2,e,h⟩:=bd_ok h;cases h;exact .two (.inr rfl) rfl b (Vu e)
 ·have c:=zgL g h;unfold xX at h;split at h
  ·obtain⟨v,a,_,h⟩:=bd_ok h;cases h;exact .term rfl c
  split at h
  ·obtain⟨v,a,_,h⟩:=bd_ok h;cases h;exact .term rfl c
  ·cases h;exact .term rfl c
theorem wX{n m:Nd}{ts t:List Tk}(h:va n ts = .ok (m,t)):m=n:=by
 obtain⟨u,a,_,h⟩:=bd_ok h;cases h;rfl
theorem zxp{f:List Tk->PR Nd}(hb:∀ts n t,f ts = .ok (n,t)->V8 n){ts t:List Tk}{n:Nd}(h:Y1 f ts = .ok (n,t)):StmtG n:=by
 have r:∀k a ts n t,wT f k a ts = .ok (n,t)->∃op x y b,ZP x/\ZP y/\V8 b/\n=⟨k,op,0,a,⟨[x,y,b],o⟩⟩:=by
  intro k a ts n t h;obtain⟨m,c,l,h⟩:=bd_ok h;obtain⟨b,t2,z,h⟩:=bd_ok h;obtain⟨_,h0⟩:=znJ l;obtain⟨x,y,C,g,j⟩:=zxn l;grind
 have at':∀k ts n t,atP k ts = .ok (n,t)->n.k_=k:=by
  intro k ts n t h;obtain⟨m,c,l,h⟩:=bd_ok h;obtain⟨u,t2,_,h⟩:=bd_ok h;obtain⟨v,t3,_,h⟩:=bd_ok h;obtain⟨u,t4,_,h⟩:=bd_ok h;cases h;rfl
 unfold Y1 at h;split at h
 ·obtain⟨m,c,_,h⟩:=bd_ok h;rw[wX h];exact .leaf (.inl rfl)
 split at h
 ·obtain⟨m,c,e,h⟩:=bd_ok h;rw[wX h];exact .leaf (.inr (.inl (at' _ _ _ _ e)))
 split at h
 ·obtain⟨m,c,e,h⟩:=bd_ok h;rw[wX h];exact .leaf (.inr (.inr (.inl (at' _ _ _ _ e))))
 split at h
 ·obtain⟨m,c,e,h⟩:=bd_ok h;obtain⟨op,x,y,b,g,j,⟨s,w,rfl,h1⟩,rfl⟩:=r _ _ _ _ _ e;split at h
  ·obtain⟨b2,t2,p,h⟩:=bd_ok h;obtain⟨a2,l2,rfl,h2⟩:=hb _ _ _ p;cases h;exact .ite g j h1 h2
  ·cases h;exact .ite (b2:=[]) g j h1 je
 split at h
 ·obtain⟨op,x,y,b,g,j,⟨s,w,rfl,h1⟩,rfl⟩:=r _ _ _ _ _ h;exact .whl g j h1
 split at h
 ·split at h
  ·rw[wX h];exact .leaf (.inr (.inr (.inr (.inl rfl))))
  ·obtain⟨x,c,e,h⟩:=bd_ok h;rw[wX h];exact .ret (vf e)
 split at h
 ·rw[wX h];exact .leaf (.inr (.inr (.inr (.inr rfl))))
 split at h
 ·obtain⟨m,c,_,h⟩:=bd_ok h;obtain⟨ks,t2,e,h⟩:=bd_ok h;rw[wX h];exact .fork (zh9 e)
 obtain⟨m,c,_,h⟩:=bd_ok h;obtain⟨q,t2,e,h⟩:=bd_ok h;rw[wX h];unfold vJ at e;split at e
 ·obtain⟨ks,t3,i,e⟩:=bd_ok e;cases e;exact .call ⟨rfl,zh9 i⟩
 split at e
 ·obtain⟨x,t3,i,e⟩:=bd_ok e;obtain⟨u,t4,_,e⟩:=bd_ok e;obtain⟨u,t5,_,e⟩:=bd_ok e;obtain⟨y,D,p,e⟩:=bd_ok e;cases e;exact .store (vf i) (vf p)
 ·obtain⟨u,t3,_,e⟩:=bd_ok e;obtain⟨x,t4,i,e⟩:=bd_ok e;cases e;exact .set (zxo i)
theorem zl9{one:List Tk->PR Nd}(b:∀ts n t,one ts = .ok (n,t)->StmtG n):∀(j:Nat) (acc:List Nd) (ts:List Tk) (l:List Nd) (t:List Tk),(∀x∈acc,StmtG x)->xI one j acc ts = .ok (l,t)->∀x∈l,StmtG x
 |0,acc,ts,l,t,h,e=>by cases e
 |j+1,acc,ts,l,t,h,e=>by
  unfold xI at e;split at e
  ·grind
  ·obtain⟨a,g,c,e⟩:=bd_ok e;refine zl9 b j _ _ l t (λx f=>?_) e;grind
theorem zma:∀(r:Nat) (ts:List Tk) (n:Nd) (t:List Tk),yj r ts = .ok (n,t)->V8 n
 |0,ts,n,t,h=>by unfold yj at h;split at h<;>cases h
 |r+1,ts,n,t,h=>by
  unfold yj at h;obtain⟨u,a,_,h⟩:=bd_ok h;obtain⟨l,t2,e,h⟩:=bd_ok h;cases h;exact⟨_,l,rfl,zl9 (λts n t=>zxp (zma r)) _ _ _ _ _ je e⟩
theorem zia{ts t:List Tk}{n:Nd}(h:Wx ts = .ok (n,t)):vq n:=by
 unfold Wx at h;split at h
 ·rename_i c;cases h;exact⟨rfl,.inl ⟨XO c,rfl⟩⟩
 split at h
 ·rename_i c;obtain⟨k,b,e,h⟩:=bd_ok h;cases h;exact⟨rfl,.inr ⟨.inl (XO c),k,rfl,Vu e⟩⟩
 obtain⟨u,b,a,h⟩:=bd_ok h;split at h
 ·obtain⟨k,t2,e,h⟩:=bd_ok h;cases h;exact⟨rfl,.inr ⟨.inr (.inr rfl),k,rfl,Vu e⟩⟩
 ·obtain⟨k,t2,e,h⟩:=bd_ok h;cases h;refine⟨rfl,.inr ⟨.inr (.inl ?_),k,rfl,Vu e⟩⟩;unfold zX at a;split at a
  ·rename_i c;exact XO c
  ·cases a
theorem zun{ts t:List Tk}{n:Nd}(h:xH ts = .ok (n,t)):zdZ n:=by
 obtain⟨m,a,_,h⟩:=bd_ok h;obtain⟨u,t2,_,h⟩:=bd_ok h;obtain⟨k,t3,e,h⟩:=bd_ok h;cases h;exact⟨rfl,k,rfl,zia e⟩
theorem zAA{ts t:List Tk}{n:Nd}{a:Int}(h:fnP a ts = .ok (n,t)):FnG n:=by
 rw[zrZ] at h;obtain⟨m,j,_,h⟩:=bd_ok h;obtain⟨u,t2,_,h⟩:=bd_ok h;obtain⟨ps,t3,e,h⟩:=bd_ok h;obtain⟨r,t4,c,h⟩:=bd_ok h;obtain⟨b,t5,g,h⟩:=bd_ok h;cases h;obtain⟨k,l,f,e⟩:=bd_ok e;obtain⟨u,i,_,e⟩:=bd_ok e;cases e;refine⟨rfl,ps,r,b,rfl,?_,?_,?_,zma _ _ _ _ g⟩
 ·split at f
  ·cases f;simp
  ·exact zet (λ_ _ _=>zun) f
 ·unfold zl1 at c;split at c
  ·split at c
   ·cases c
   ·exact .inr (zia c)
  ·cases c;exact .inl ⟨rfl,rfl⟩
 ·unfold zl1 at c;split at c
  ·split at c
   ·cases c
   ·exact(zia c).1
  grind
theorem zfN:∀(j:Nat) (acc:List Nd) (ts:List Tk) (l:List Nd) (t:List Tk),(∀x∈acc,wE x\/FnG x)->YE j acc ts = .ok (l,t)->∀x∈l,wE x\/FnG x
 |0,acc,ts,l,t,h,e=>by cases e
 |j+1,acc,ts,l,t,h,e=>by
  have b:∀a,(wE a\/FnG a)->∀x∈acc++[a],wE x\/FnG x:=λa i x g=>by
   grind
  unfold YE at e;split at e
  ·grind
  split at e
  ·obtain⟨a,f,c,e⟩:=bd_ok e;exact zfN j _ _ l t (b a (.inr (zAA c))) e
  ·obtain⟨u,t0,_,e⟩:=bd_ok e;obtain⟨a,f,c,e⟩:=bd_ok e;exact zfN j _ _ l t (b a (.inl (zyX c))) e
structure UnitG(n:Nd):Prop where
 eq:∃l,n=⟨0,lit [],0,0,mkS l⟩
 kid:∀k∈n.K_.xs,wE k\/FnG k
 size:zl n<=4096
theorem zmb{s:U0}(h:(Xd s).2.2=0):UnitG (Xd s).1:=by
 unfold Xd at h |-
 split at h
 ·grind
 rename_i a;rw[jx a];have c:∀e,YE (Z1 s).2.2.xs.length [] (Z1 s).2.2.xs = .error e->e.2≠0:=by
  intro e i h2;have f:(Z1 s).2.1=0:=by
   grind
  obtain⟨g,j⟩:=zdR f;have b:GK ⟨(Z1 s).2.2.xs.map toR,o⟩ 0 (Z1 s).2.2.xs:=⟨rfl,g,by have:=g.len;omega,zl3 s⟩;have:=zgX (z1:=(0,lit [],0,0)) (z2:=(0,lit [],0,0)) _ _ 0 [] b (by have:=g.len;omega) (UK _) (by have:=g.len;simp;omega);grind
 cases e:YE (Z1 s).2.2.xs.length [] (Z1 s).2.2.xs with
 |error er=>grind
 |ok p=>
  obtain⟨l,t⟩:=p;rw[e] at h;simp only at h |-
  split at h
  ·simp at h
  ·rename_i hs;rw[jx hs];exact⟨⟨l,rfl⟩,zfN _ _ _ l t je e,by rw[zk];show zd l+1<=4096;omega⟩
theorem X6:∀{l:List Nd}{x:Nd},x∈l->zl x<=zd l
 |y::l,x,h=>by
  rcases Db.1 h with rfl | h
  ·simp[zd]
  ·have:=X6 h;simp only[zd];omega
theorem WA:∀l:List Nd,l.length<=zd l
 |[]=>je
 |x::l=>by have:=z6 x;have:=WA l;simp only[zd,jz];omega
theorem Zl{n:Nd}:n.K_.xs.length+1<=zl n:=by rw[zk];have:=WA n.K_.xs;omega
theorem ZX{n k:Nd}(h:k∈n.K_.xs):zl k+1<=zl n:=by rw[zk n];have:=X6 h;omega
abbrev PP:=qh
abbrev PSg:=qf
theorem zuo(l:List U0)(s:U0)(a:l.length<=1000):q2v (⟨l,o⟩,s)=d (idx (λw=>decide (s=w)) l):=by
 have:=wh (f:=q1r) (xs:=l) (p:=λw=>decide (s=w)) (st:=λi=>(⟨l,o⟩,s,Sl.len (⟨l,o⟩:Sl U0),(i:Int))) (yes:=λi =>.inl (i:Int)) (no :=.inr ())
  (λi hi=>by
   unfold q1r;simp only[jl];simp only[zf,ze (s:=⟨l,o⟩) hi,jj];rw[jv Zc,zu Zc]
   split<;>rfl)
  (by unfold q1r;simp only[jl];rw[jx (by show¬ ((l.length:Int) < (l.length:Int));omega)])
 show((lpO q1r (⟨l,o⟩,s,Sl.len (⟨l,o⟩:Sl U0),((0:Nat):Int))).bind _)=_;rw[this];unfold idx;cases l.findIdx? _<;>rfl
def zpD:List U0:=[lit [],lit [105,110,116],lit [111,119,110],lit [38],lit [38,109,117,116]]
def mI(s:U0):Int:=idx (λw=>decide (s=w)) zpD
def p0:PP:=⟨lit [],0,0⟩
def X7(t:List PT)(n:Nd):U3 PP:=
 if n.K_.xs=[] then d ⟨lit [],mI n.T_,0⟩ else if idT (zW n).T_ t < 0 then none else d ⟨lit [],mI n.T_,idT (zW n).T_ t⟩
def idP(n:U0)(l:List PP):Int:=idx (λx=>decide (x.N_=n)) l
def idM(ty:Int)(l:List PP):Int:=idx (λx=>decide (1 < x.M_) && decide (x.t_=ty)) l
def XP(t:List PT)(i:Int):Int:=(t[i.toNat]?).elim 0 qa.S_
def Z9(t:List PT)(acc:List PP)(k:Nd):Except Er (List PP):=
 if 0<=idP k.T_ acc then .error (k.a_,30) else match X7 t (zW k) with
  |none =>.error ((zW k).a_,31)
  |some p=>if(1 < p.M_/\XP t p.t_≠0)/\0<=idM p.t_ acc then .error ((zW k).a_,34) else .ok (acc++[⟨k.T_,p.M_,p.t_⟩])
def zd0(n:Nd)(i:Nat):Nd:=n.K_.xs.getD i vp
def xd(t:List PT)(n:Nd):Except Er PSg:=
 let c:=n.K_.xs.length - 2
 if 8 < c then .error (n.a_,22) else((n.K_.xs.take c).foldlM (Z9 t) []).bind λps=>match X7 t (zd0 n c) with
  |none =>.error ((zd0 n c).a_,31)
  |some r =>.ok ⟨n.T_,mkS ps,r⟩
def zcD(t:List PT)(l:List Nd):Except Er (List PSg):=l.foldlM (λs k=>if k.k_=6 then(xd t k).bind λx =>.ok (s++[x]) else .ok s) []
theorem zg1{n:Nd}(h:vq n\/zdY n):n.K_=nilS\/∃k,n.K_=⟨[k],o⟩:=by
 rcases h with⟨_,⟨_,h⟩ | ⟨_,k,h,_⟩⟩ | ⟨_,h⟩ | ⟨_,⟨_,h⟩ | ⟨_,k,h,_⟩⟩
 ·exact .inl h
 all_goals grind
theorem zmc{t:Sl PT}{n:Nd}(h:vq n\/zdY n)(b:t.xs.length<=100000):qbc (n,t)=d (match X7 t.xs n with | some p=>(p,0) | none=>(p0,31)):=by
 unfold qbc qgm X7;rw[show(Sl.mk [lit [],lit [105,110,116],lit [111,119,110],lit [38],lit [38,109,117,116]] true:Sl U0)=⟨zpD,o⟩ from rfl,zuo zpD _ jI];simp only[jj];rcases zg1 h with a | ⟨k,a⟩
 ·simp (decide:=true) only [a,show(nilS:Sl Nd).len=0 from rfl,jp,jq,jj,jm];rfl
 ·have e0:zW n=k:=by unfold zW;rw[a];rfl
  rw[e0];simp (decide:=true) only [a,show Sl.len (⟨[k],o⟩:Sl Nd)=1 from rfl,show za (⟨[k],o⟩:Sl Nd) 0=d k from rfl,jp,jq,jj,zcB t _ (Zc:t.xs.length<=1000000),jl];by_cases h2:idT k.T_ t.xs < 0
  ·simp only[h2,jq,jj,jo];rfl
  ·simp only[h2,jp,jj,jm];rfl
theorem zr8 {α γ:Type}{f:α×γ->U3 (Bool×γ)}{p:α->Bool}{c:γ}(g:∀x,f (x,c)=d (p x,c)) (s:Sl α) (hs:s.xs.length<=1000000) {body:Int×Int×Sl α×γ->U3 (Step (Int×Int×Sl α×γ) (Int×Sl α×γ⊕Sl α×γ))}
    (hb:∀a,body a=if decide (a.2.1 < a.1)=o then(za a.2.2.1 a.2.1).bind λl=>(za a.2.2.1 a.2.1).bind λk=>(f (k,a.2.2.2)).bind λb=>if b.1=o then d (.done (.inl (a.2.1,a.2.2.1,b.2))) else d (.next (a.1,U4 (a.2.1+1),a.2.2.1,b.2)) else d (.done (.inr a.2.2))) :
    ((lpO body (s.len,0,s,c)).bind λe=>Sum.elim (λh=>d h) (λj=>d (-1,j)) e)=d (idx p s.xs,s,c):=by
 have:=wh (f:=body) (xs:=s.xs) (p:=p) (st:=λi=>(s.len,(i:Int),s,c)) (yes:=λi =>.inl ((i:Int),s,c)) (no :=.inr (s,c))
  (λi hi=>by
    rw[hb];simp only[jl];simp only[zf,ze hi,jj,g];rw[jv Zc,zu Zc]
    split<;>rfl)
  (by rw[hb];simp only[jl];rw[jx (by rw[zf];omega)])
 rw[show((0:Int))=((0:Nat):Int) from rfl,this];unfold idx;cases s.xs.findIdx? p<;>rfl
theorem znL(l:Sl PP)(q:PP)(a:l.xs.length<=1000000):q5p (l,q)=d (decide (0<=idP q.N_ l.xs),l,q):=by
 show(((lpO (qc4 qbe) (l.len,0,l,q)).bind _).bind _)=_;rw[zr8 (body:=qc4 qbe) (f:=qbe) (p:=λx:PP=>decide (x.N_=q.N_)) (λx=>rfl) l a (λy=>rfl)];rfl
theorem zxq(l:Sl PP)(q:PP)(a:l.xs.length<=1000000):q5q (l,q)=d (decide (0<=idM q.t_ l.xs),l,q):=by
 show(((lpO (qc5 q9f) (l.len,0,l,q)).bind _).bind _)=_;rw[zr8 (body:=qc5 q9f) (f:=q9f) (p:=λx:PP=>decide (1 < x.M_) && decide (x.t_=q.t_)) (λx=>?_) l a (λy=>rfl)];rfl;unfold q9f qfr;grind
theorem zr9{t:Sl PT}{p:PP}(h:0<=p.t_/\p.t_ < t.xs.length\/p.M_<=1):q84 (p,t)=d (decide (1 < p.M_/\XP t.xs p.t_≠0)):=by
 unfold q84 qey;by_cases h1:1 < p.M_
 ·obtain⟨h2,c⟩ | h:=h
  ·obtain⟨j,b⟩:∃j:Nat,p.t_=j:=⟨_,(DF h2).symm⟩
   have a:j < t.xs.length:=Zc
   simp only[h1,js,jq,b,ze a,jj,XP,Int.toNat_natCast,UJ a,Option.elim_some,UG]
  ·omega
 ·simp[h1]
theorem zAB(n:Nd)(h:n.K_=nilS)(a:vq n\/zdY n):mI n.T_<=1:=by
 have a0:mI (lit [])=0:=ja
 have b:mI (lit [105,110,116])=1:=ja
 rcases a with⟨_,⟨h1,_⟩ | ⟨_,k,h2,_⟩⟩ | ⟨h1,_⟩ | ⟨_,⟨h1,_⟩ | ⟨_,k,h2,_⟩⟩
 ·grind
 all_goals grind
theorem za4{t:List PT}{n:Nd}{p:PP}(a:vq n\/zdY n)(h:X7 t n=d p):0<=p.t_/\p.t_ < t.length\/p.M_<=1:=by
 unfold X7 at h;split at h
 ·rename_i b;cases h;refine .inr (zAB n ?_ a);rcases zg1 a with h | ⟨k,h⟩
  all_goals grind
 split at h
 ·cases h
 ·cases h;have:idT (zW n).T_ t < t.length:=yE.2.1;grind
abbrev SgH:=U0×U0×Int×Int
noncomputable abbrev zpE:=qe6 qbc q5p q84 q5q
theorem zup {t:Sl PT}(w:t.xs.length<=20000) {ks:Sl Nd}(v:ks.xs.length<=20000) (q:∀p∈ks.xs,zdZ p) (b:Int) (n:Nd) (z h:SgH) :
    lpO zpE (t,b,ks,ks.len,0,n,z,h,mkS [])=d (match ks.xs.foldlM (Z9 t.xs) [] with | .error e =>.inl (e.1,e.2,lit [],lit [],0,0) | .ok l =>.inr (t,b,n,z,h,mkS l)):=by
 have:=zl4 (f:=zpE) (xs:=ks.xs) (step:=Z9 t.xs) (st:=λi a=>(t,b,ks,ks.len,(i:Int),n,z,h,mkS a)) (fin:=λa =>.inr (t,b,n,z,h,mkS a)) (er:=λe =>.inl (e.1,e.2,lit [],lit [],0,0)) (I:=λi a=>a.length=i)
  (λi hi a r=>by
    unfold zpE qe6;have u:=zu (k:=i) Zc;obtain⟨_,m,g,c⟩:=q _ (gc hi);have e0:zW ks.xs[i]=m:=by unfold zW;rw[g];rfl
    simp only[jl,zm];rw[jv (by rw[zf];omega),ze hi];have g0:za ks.xs[i].K_ 0=d m:=by rw[g];rfl
    simp only[jj,g0,zm,zmc (.inl c) (Zc:t.xs.length<=100000),Z9,e0];cases j:X7 t.xs m with
    |none=>
     simp only[znL (mkS a) _ (Zc:a.length<=1000000),jj,show(mkS a).xs=a from rfl,jl];by_cases h1:0<=idP ks.xs[i].T_ a
     ·grind
     grind
    |some p=>
     simp only[znL (mkS a) _ (Zc:a.length<=1000000),jj,show(mkS a).xs=a from rfl,jl];by_cases h1:0<=idP ks.xs[i].T_ a
     ·grind
     simp (decide:=true) only [h1,jp,Dj];rw[zr9 (p:=⟨ks.xs[i].T_,p.M_,p.t_⟩) (show 0<=p.t_/\p.t_ < t.xs.length\/p.M_<=1 from za4 (.inl c) j)];simp only[jj,jl];by_cases h2:1 < p.M_/\XP t.xs p.t_≠0
     · simp only[eq_true h2,jq,UG,zxq (mkS a) _ (Zc:a.length<=1000000),jj,show(mkS a).xs=a from rfl,jl];by_cases s:0<=idM p.t_ a
       ·grind
       ·simp only[s,jp,jj,jm];rw[x5 Zc ji];grind
     · simp only[eq_false h2,jp,false_and,jj,jk,jm];rw[x5 Zc ji]
       grind)
  (λi hi a a' r e=>by
    unfold Z9 at e
    grind)
  (λa _=>by
    unfold zpE qe6;simp only[jl,zm]
    rw[jx (by rw[zf];omega)])
  (a:=[]) rfl
 grind
theorem znM{n:Nd}(h:FnG n):∃ps r b,n.K_=⟨ps++[r,b],o⟩/\n.K_.xs.length - 2=ps.length/\n.K_.xs.take (n.K_.xs.length - 2)=ps/\zd0 n (n.K_.xs.length - 2)=r/\(∀p∈ps,zdZ p)/\zdY r/\V8 b:=by
 obtain⟨_,ps,r,b,a,hp,e,_,hb⟩:=h;have c:n.K_.xs.length - 2=ps.length:=by rw[a];simp
 refine⟨ps,r,b,a,c,?_,?_,hp,e,hb⟩
 ·grind
 ·unfold zd0;grind
theorem zy0 {t:Sl PT}{n:Nd}(k:FnG n) (m:t.xs.length<=20000) (v:n.K_.xs.length<=20000) :
    qc6 (n,t)=d (match xd t.xs n with | .error e=>(⟨lit [],Sl.mk [] B,p0⟩,e.1,e.2) | .ok s=>(s,0,0)):=by
 obtain⟨ps,r,b,h,j,g,u,hp,f,_⟩:=znM k;unfold qc6 qhb xd;have q:U4 (n.K_.len - 2)=(ps.length:Int):=by
  have:n.K_.len=(ps.length:Int)+2:=by rw[h];simp[Sl.len]
  rw[this,zE jE jE];omega
 have hpl:ps.length<=20000:=jE
 simp only[q,jl,g,j];rw[(jE:n.K_.xs.take ps.length=ps)];have c:zd0 n ps.length=r:=jE
 by_cases i:8 < ps.length
 ·simp only[i,(Zc:(8:Int) < (ps.length:Int)),jq];rfl
 simp only[i,(Zc:¬ ((8:Int) < (ps.length:Int))),jp];rw[Ys Zc Zc jE];simp only[jj,zm,Int.toNat_zero,Ds,Int.toNat_natCast];rw[(jE:n.K_.xs.take ps.length=ps)];have:=zup m (ks:=⟨ps,n.K_.nn⟩) hpl hp (ps.length:Int) n (lit [],lit [],0,0) (n.T_,lit [],0,0);rw[show(Sl.mk [] false:Sl PP)=mkS [] from rfl,show lpO (qe6 qbc q5p q84 q5q) _=_ from this];simp only[jj];cases ps.foldlM (Z9 t.xs) [] with
 |error e=>rfl
 |ok l=>
  simp only[jm,A];have a:za n.K_ (ps.length:Int)=d r:=by rw[h];rw[wV];simp
  simp only[a,jj,zm,zmc (.inr f) (Zc:t.xs.length<=100000),c];cases X7 t.xs r with
  |none=>rfl
  |some p=>rfl
theorem zxr {t:Sl PT}{n:Nd}(r:∀k∈n.K_.xs,k.k_=6->FnG k/\k.K_.xs.length<=20000) (u:t.xs.length<=20000) (y:n.K_.xs.length<=20000) :
    q7p (n,t)=d (match zcD t.xs n.K_.xs with | .error e=>(e.1,e.2,Sl.mk [] B) | .ok s=>(0,0,mkS s)):=by
 have j:∀k e,xd t.xs k = .error e->e.2≠0:=by
  intro k e h;unfold xd at h;simp only at h;split at h
  ·cases h;simp
  generalize k.K_.xs.take (k.K_.xs.length - 2)=ps at h;have w:∀(ps:List Nd) a e,ps.foldlM (Z9 t.xs) a = .error e->e.2≠0:=by
   intro ps
   induction ps with
   |nil=>intro a e h;cases h
   |cons x l p=>
    intro a e h;rw[List.foldlM_cons] at h;cases c:Z9 t.xs a x with
    |ok b=>rw[c] at h;exact p b e h
    |error er=>
     rw[c] at h;cases h;unfold Z9 at c;split at c
     ·cases c;simp
     grind
  cases g:ps.foldlM (Z9 t.xs) [] with
  |error er=>rw[g] at h;cases h;grind
  |ok l=>
   rw[g] at h;simp only[A] at h;grind
 have:=zax (f:=qd8 qc6) (xs:=n.K_.xs) (step:=λs k=>if k.k_=6 then(xd t.xs k).bind λx =>.ok (s++[x]) else .ok s) (st:=λi a=>(t,n.K_,n.K_.len,(i:Int),mkS a)) (fin:=λa =>.inr (mkS a)) (er:=λ_ e =>.inl e) (I:=λi a=>a.length<=i)
  (λi hi a v=>by
    unfold qd8;have z:=zu (k:=i) Zc;simp only[jl,zm];rw[jv (by rw[zf];omega),ze hi];simp only[jj,zm];by_cases h1:n.K_.xs[i].k_=6
    · obtain⟨q,g2⟩:=r _ (gc hi) h1;simp only[h1,Dj,jt,jp,jq,zy0 q u g2,jj];cases e:xd t.xs n.K_.xs[i] with
      |error C=>have:=j _ _ e;simp only[this,ju,jq,jj,jm,A]
      |ok x=>
       simp only[jt,jp,A];rw[x5 Zc ji];grind
    grind)
  (λi hi a a' v e=>by
    split at e
    · cases g:xd t.xs n.K_.xs[i] with
      |error er=>rw[g] at e;cases e
      |ok x=>rw[g] at e;cases e;simp;omega
    grind)
  (λa _=>by
    unfold qd8;simp only[jl]
    rw[jx (by rw[zf];omega)])
  (a:=[]) je
 unfold q7p qgn;show((lpO (qd8 qc6) (t,n.K_,n.K_.len,((0:Nat):Int),mkS [])).bind _)=_;unfold zcD;cases e:n.K_.xs.foldlM (m:=Except Er) (λs k=>if k.k_=6 then(xd t.xs k).bind λx =>.ok (s++[x]) else .ok s) [] with
 |error er=>
  grind
 |ok s=>
  grind
abbrev RP:=qi
abbrev RSg:=qj
def rP(x:PP):RP:=⟨x.N_,x.M_,x.t_⟩
def rG(x:PSg):RSg:=⟨x.N_,slm rP x.P_,rP x.R_⟩
theorem zmd{t:List PT}{n:Nd}(h:vq n\/zdY n)(q:t.length<=100000):q2d (rN n,mkS (t.map rT))=d (match X7 t n with | some p=>(rP p,o) | none=>(rP p0,B)):=by
 have c:mI (lit [])=0:=ja
 have j:mI (lit [105,110,116])=1:=ja
 have i:mI (lit [111,119,110])=2:=ja
 have m:mI (lit [38])=3:=ja
 have g:mI (lit [38,109,117,116])=4:=ja
 obtain⟨l,b,e,a,ks⟩:=n;have f:(b=lit []\/b=lit [105,110,116])/\ks=nilS\/(b=lit [111,119,110]\/b=lit [38]\/b=lit [38,109,117,116])/\∃k,ks=⟨[k],o⟩:=by
  rcases h with⟨_,⟨h1,h2⟩ | ⟨h1,k,h2,_⟩⟩ | ⟨h1,h2⟩ | ⟨_,⟨h1,h2⟩ | ⟨h1,k,h2,_⟩⟩
  ·grind
  ·grind
  all_goals grind
 unfold q2d qa0 X7;have g0:∀(k:Nd),za (rN ⟨l,b,e,a,⟨[k],o⟩⟩).K_ 0=d (rN k):=λk=>by rw[zJ];rfl
 obtain⟨rfl | rfl,rfl⟩ | ⟨rfl | rfl | rfl,k,rfl⟩:=f
 ·simp (decide:=true) only [zZ,Z8,zj,jq,jp,jj,jm,c];rfl
 ·simp (decide:=true) only [zZ,Z8,zj,jq,jp,jj,jm,j];rfl
 all_goals
  simp (decide:=true) only [zZ,Z8,zj,jq,jp,jj,jm,i,m,g,g0,zay t _ (Zc:t.length<=1000000),zW,Dr,jl];by_cases h2:idT k.T_ t < 0
  ·simp only[h2,jq,jj,jo];rfl
  ·simp only[h2,jp,jj,jm];rfl
noncomputable abbrev og0:=q6h q2d
noncomputable abbrev og1:=q6i q2d
noncomputable abbrev og2:=q6j q2d
theorem zsa{acc:List PP}{ks:List Nd}(h:acc.map qh.N_=ks.map q8.T_)(n:U0):idP n acc=idN n ks:=by
 have h1:=znI qh.N_ (λx=>decide (x=n)) acc;have h2:=znI q8.T_ (λx=>decide (x=n)) ks;unfold idP idN;grind
theorem zy1 {n:Nd}{i:Nat}(hi:i<=n.K_.xs.length) (g:n.K_.xs.length<=20000) (T:Sl RTy) (c:Int) (z h:SgH) (k:Nd) (s:Sl RP) :
    lpO og0 (T,c,(i:Int),0,rN n,z,h,rN k,s)=d (if 0<=idN k.T_ (n.K_.xs.take i) then .inl (k.a_,30,lit [],lit [],0,0) else .inr (T,c,(i:Int),rN n,z,h,rN k,s)):=by
 have a:(n.K_.xs.take i).length=i:=ji
 have:=wh (f:=og0) (xs:=n.K_.xs.take i) (p:=λx=>decide (x.T_=k.T_)) (st:=λj=>(T,c,(i:Int),(j:Int),rN n,z,h,rN k,s)) (yes:=λ_ =>.inl (k.a_,30,lit [],lit [],0,0)) (no :=.inr (T,c,(i:Int),rN n,z,h,rN k,s))
  (λj b=>by
    rw[a] at b;unfold og0 q6h;have e:za (rN n).K_ (j:Int)=d (rN n.K_.xs[j]):=by rw[zJ,ze ji];simp
    simp only[jl,zj];rw[jv Zc,e];simp only[jj,zZ,Y3,List.getElem_take];rw[zu Zc]
    grind)
  (by unfold og0 q6h;simp only[jl,zj,a];grind)
 rw[show(0:Int)=((0:Nat):Int) from rfl,this];unfold idN idx;cases(n.K_.xs.take i).findIdx? _ with
 |none=>simp
 |some j=>simp
theorem zy2 {t:List PT}{acc:List PP}(y:acc.length<=20000) {m:Nd}{p:PP}(v:0<=p.t_/\p.t_ < t.length\/p.M_<=1) (c:Int) (n:RNd) (z h:SgH) {k:RNd}(s:za k.K_ 0=d (rN m)) :
    lpO og1 (mkS (t.map rT),c,(acc.length:Int),0,n,z,h,k,rP p,mkS (acc.map rP))=d (if(1 < p.M_/\XP t p.t_≠0)/\0<=idM p.t_ acc then .inl (m.a_,34,lit [],lit [],0,0) else .inr (mkS (t.map rT),c,(acc.length:Int),n,z,h,k,rP p,mkS (acc.map rP))):=by
 have:=wh (f:=og1) (xs:=acc) (p:=λx=>decide (1 < p.M_) && (decide (1 < x.M_) && (decide (p.t_=x.t_) && decide (XP t p.t_≠0)))) (st:=λj=>(mkS (t.map rT),c,(acc.length:Int),(j:Int),n,z,h,k,rP p,mkS (acc.map rP))) (yes:=λ_ =>.inl (m.a_,34,lit [],lit [],0,0)) (no :=.inr (mkS (t.map rT),c,(acc.length:Int),n,z,h,k,rP p,mkS (acc.map rP)))
  (λj r=>by
    unfold og1 q6i;simp only[jl,zj];rw[jv Zc,Xe r];have e:=zu (k:=j) Zc;simp only[jj,rP];by_cases h1:1 < p.M_
    case neg=>grind
    by_cases h2:1 < acc[j].M_
    case neg=>grind
    by_cases i:p.t_=acc[j].t_
    case neg=>simp only[h1,h2,i,jp,jq,jr,Bool.and_false,Bool.false_and,jk,jj,e,rP]
    obtain⟨g,w⟩ | g:=v
    case inr=>omega
    obtain⟨q,u⟩:∃q:Nat,p.t_=q:=⟨_,(DF g).symm⟩
    have a:q < t.length:=Zc
    have hs:XP t p.t_=t[q].S_:=by unfold XP;grind
    simp only[h1,h2,eq_true i,jq,js,Bool.true_and];rw[hs,show za (mkS (t.map rT)) p.t_=d (rT t[q]) by rw[u];exact Xe a];simp only[jj,rT,jl,e];by_cases l:t[q].S_=0
    ·grind
    ·simp only[l,Dj,ju,jq,js,s,jj,Y3])
  (by unfold og1 q6i;simp only[jl,zj];grind)
 rw[show(0:Int)=((0:Nat):Int) from rfl,this];by_cases b:1 < p.M_/\XP t p.t_≠0
 · simp only[eq_true b.1,eq_true b.2,and_self,UG];unfold idM idx
   rw[show(λx:PP=>decide True && (decide (1 < x.M_) && (decide (p.t_=x.t_) && decide True)))=(λx:PP=>decide (1 < x.M_) && decide (x.t_=p.t_)) from by
    grind]
   cases acc.findIdx? _ with
   |none=>simp
   |some j=>simp[b.2]
 · have:acc.findIdx? (λx=>decide (1 < p.M_) && (decide (1 < x.M_) && (decide (p.t_=x.t_) && decide (XP t p.t_≠0))))=none:=by
     rw[List.findIdx?_eq_none_iff];intro x _;simp only[Bool.and_eq_false_iff,decide_eq_false_iff_not];grind
   grind
theorem zAC{acc:List PP}{x:PP}(h:acc.length<=50000):zo 32 (mkS (acc.map rP)) [rP x]=d (mkS ((acc++[x]).map rP)):=by
 rw[x5 Zc ji];simp
theorem zy3 {t:List PT}(D:t.length<=20000) {n:Nd}{ps:List Nd}{c:Nat}(C:c<=n.K_.xs.length) (v:n.K_.xs.take c=ps) (y:n.K_.xs.length<=20000) (x:∀p∈ps,zdZ p) (z h:SgH) :
    lpO og2 (mkS (t.map rT),(c:Int),0,rN n,z,h,mkS [])=d (match ps.foldlM (Z9 t) [] with | .error e =>.inl (e.1,e.2,lit [],lit [],0,0) | .ok l =>.inr (mkS (t.map rT),(c:Int),rN n,z,h,mkS (l.map rP))):=by
 have w:ps.length=c:=jE
 have:=zl4 (f:=og2) (xs:=ps) (step:=Z9 t) (st:=λi a=>(mkS (t.map rT),(c:Int),(i:Int),rN n,z,h,mkS (a.map rP))) (fin:=λa =>.inr (mkS (t.map rT),(c:Int),rN n,z,h,mkS (a.map rP))) (er:=λe =>.inl (e.1,e.2,lit [],lit [],0,0)) (I:=λi a=>a.map qh.N_=(n.K_.xs.take i).map q8.T_)
  (λi hi a j=>by
    unfold og2 q6j;have E:=zu (k:=i) Zc;have r:a.length=i:=by have:=congrArg List.length j;grind
    have b:ps[i]=n.K_.xs[i]:=jE
    obtain⟨_,m,s,g⟩:=x _ (gc hi);have e0:zW ps[i]=m:=by unfold zW;rw[s];rfl
    have q:za (rN n).K_ (i:Int)=d (rN ps[i]):=by rw[zJ,ze ji];simp[b]
    have g0:za (rN ps[i]).K_ 0=d (rN m):=by rw[zJ,s];rfl
    simp only[jl,zj];rw[jv Zc,q];simp only[jj];rw[show lpO (q6h q2d) _=_ from zy1 (n:=n) (i:=i) Zc y (mkS (t.map rT)) (c:Int) z h ps[i] (mkS (a.map rP)),<- zsa j];simp only[jj,Z9,e0];by_cases h1:0<=idP ps[i].T_ a
    ·grind
    simp only[h1,jp,jm,g0,jj,zmd (.inl g) (Zc:t.length<=100000)];cases u:X7 t m with
    |none=>simp only[D6,jq,jj,jo,Y3]
    |some p=>
     simp only[Do,jk,jp];have h1':=zy2 (t:=t) (acc:=a) Zc (za4 (.inl g) u) (c:Int) (rN n) z h g0;rw[r] at h1';rw[show lpO (q6i q2d) _=_ from h1'];simp only[jj];by_cases h2:(1 < p.M_/\XP t p.t_≠0)/\0<=idM p.t_ a
     ·grind
     · simp only[eq_false h2,jp,jm,jj,zZ,rP];rw[show(⟨ps[i].T_,p.M_,p.t_⟩:RP)=rP ⟨ps[i].T_,p.M_,p.t_⟩ from rfl,zAC Zc]
       grind)
  (λi hi a a' j e=>by
    have b:ps[i]=n.K_.xs[i]:=jE
    unfold Z9 at e;split at e
    ·cases e
    split at e
    ·cases e
    split at e
    ·cases e
    · cases e
      rw[List.take_succ_eq_append_getElem (Zc:i < n.K_.xs.length),DA,DA,j,<- b];rfl)
  (λa _=>by
    unfold og2 q6j;simp only[jl,zj,w]
    grind)
  (a:=[]) je
 rw[show(0:Int)=((0:Nat):Int) from rfl,show(mkS []:Sl RP)=mkS (([]:List PP).map rP) from rfl,this];grind
theorem zxs {t:List PT}{n:Nd}(m:FnG n) (u:t.length<=20000) (v:n.K_.xs.length<=20000) :
    q4k (rN n,mkS (t.map rT))=d (match xd t n with | .error e=>(⟨lit [],Sl.mk [] B,⟨lit [],0,0⟩⟩,e.1,e.2) | .ok s=>(rG s,0,0)):=by
 obtain⟨ps,r,b,h,k,q,x,hp,i,_⟩:=znM m;unfold q4k qb2 xd;have w:U4 ((rN n).K_.len - 2)=(ps.length:Int):=by
  have:(rN n).K_.len=(ps.length:Int)+2:=by rw[zJ,h];simp[Sl.len]
  rw[this,zE jE jE];omega
 have hpl:ps.length<=20000:=jE
 have a:n.K_.xs.take ps.length=ps:=jE
 simp only[w,jl,k,zj,a];have g:zd0 n ps.length=r:=jE
 by_cases j:8 < ps.length
 ·simp only[j,(Zc:(8:Int) < (ps.length:Int)),jq,Y3]
 simp only[j,(Zc:¬ ((8:Int) < (ps.length:Int))),jp];rw[show(Sl.mk [] false:Sl RP)=mkS [] from rfl,show lpO (q6j q2d) _=_ from zy3 u (n:=n) (ps:=ps) (c:=ps.length) (by rw[h];simp) a v hp (lit [],lit [],0,0) ((rN n).T_,lit [],0,0)];simp only[jj,A];cases ps.foldlM (Z9 t) [] with
 |error e=>rfl
 |ok l=>
  simp only[jm];have f:za (rN n).K_ (ps.length:Int)=d (rN r):=by rw[zJ,h];rw[wV];simp
  simp only[f,jj,zmd (.inr i) (Zc:t.length<=100000),g];cases X7 t r with
  |none=>simp only[D6,jq,Y3]
  |some p=>simp only[Do,jk,jp,rG,zr5,zZ]
theorem zxt{t:List PT}{k:Nd}{e:Er}(h:xd t k = .error e):e.2≠0:=by
 unfold xd at h;simp only at h;split at h
 ·cases h;simp
 generalize k.K_.xs.take (k.K_.xs.length - 2)=ps at h;have i:∀(ps:List Nd) a e,ps.foldlM (Z9 t) a = .error e->e.2≠0:=by
  intro ps
  induction ps with
  |nil=>intro a e h;cases h
  |cons x l g=>
   intro a e h;rw[List.foldlM_cons] at h;cases c:Z9 t a x with
   |ok b=>rw[c] at h;exact g b e h
   |error er=>
    rw[c] at h;cases h;unfold Z9 at c;split at c
    all_goals grind
 cases f:ps.foldlM (Z9 t) [] with
 |error er=>rw[f] at h;cases h;grind
 |ok l=>
  rw[f] at h;simp only[A] at h;grind
theorem zuq {t:List PT}{n:Nd}(h:∀k∈n.K_.xs,k.k_=6->FnG k/\k.K_.xs.length<=20000) (j:t.length<=20000) (p:n.K_.xs.length<=20000) :
    q2y (rN n,mkS (t.map rT))=d (match zcD t n.K_.xs with | .error e=>(e.1,e.2,Sl.mk [] B) | .ok s=>(0,0,mkS (s.map rG))):=by
 have:=zax (f:=q5z q4k) (xs:=n.K_.xs) (step:=λs k=>if k.k_=6 then(xd t k).bind λx =>.ok (s++[x]) else .ok s) (st:=λi a=>(mkS (t.map rT),(i:Int),rN n,mkS (a.map rG))) (fin:=λa =>.inr (mkS (a.map rG))) (er:=λ_ e =>.inl e) (I:=λi a=>a.length<=i)
  (λi hi a l=>by
    unfold q5z;have q:=zu (k:=i) Zc;have b:za (rN n).K_ (i:Int)=d (rN n.K_.xs[i]):=by rw[zJ,ze (by simpa using hi)];simp
    simp only[jl,zj];rw[jv (by rw[zJ];simp[Sl.len];omega),b];simp only[jj,ZT];by_cases h1:n.K_.xs[i].k_=6
    · obtain⟨g,g2⟩:=h _ (gc hi) h1;simp only[h1,Dj,jt,jp,jq,zxs g j g2,jj];cases e:xd t n.K_.xs[i] with
      |error r=>have:=zxt e;simp only[this,ju,jq,jj,jm,A]
      |ok x=>
       simp only[jt,jp,A];rw[x5 Zc ji];grind
    grind)
  (λi hi a a' l e=>by
    split at e
    · cases c:xd t n.K_.xs[i] with
      |error er=>rw[c] at e;cases e
      |ok x=>rw[c] at e;cases e;simp;omega
    grind)
  (λa _=>by
    unfold q5z;simp only[jl]
    rw[jx (by rw[zJ];simp[Sl.len])])
  (a:=[]) je
 unfold q2y qa1;simp only[zj];show((lpO (q5z q4k) (mkS (t.map rT),((0:Nat):Int),rN n,mkS (([]:List PSg).map rG))).bind _)=_;unfold zcD;cases e:n.K_.xs.foldlM (m:=Except Er) (λs k=>if k.k_=6 then(xd t k).bind λx =>.ok (s++[x]) else .ok s) [] with
 |error er=>
  grind
 |ok s=>
  grind
end Go.Px
