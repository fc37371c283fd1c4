/- Part Le. -/
import Derived.Test.YtdmfcbmibjojpaaGreatDoorLd
set_option linter.unusedVariables false
set_option linter.unusedSimpArgs false
namespace Go.Px
open Bool renaming true->o,false->B
open Except renaming bind->A
open List renaming map_append->C,foldlM_cons->D
open _root_.Option renaming some->d
def ZP(n:Nd):Prop:=n.K_=nilS/\n.k_=5
def zvE(n:Nd):Prop:=n.k_=28/\∀k∈n.K_.xs,ZP k
inductive ExprG:Nd->Prop
 |term {n}:n.k_=5->zec n->ExprG n
 |leaf {n}:(n.k_=23\/n.k_=24\/n.k_=26\/n.k_=27)->zec n->ExprG n
 |call {n}:zvE n->ExprG n
 |load {n x}:n.k_=25->n.K_=⟨[x],o⟩->ZP x->ExprG n
 |two {n x y}:(n.k_=21\/n.k_=22)->n.K_=⟨[x,y],o⟩->ZP x->ZP y->ExprG n
inductive StmtG:Nd->Prop
 |leaf {k:Int} {t n a}:(k=12\/k=13\/k=14\/k=17\/k=18)->StmtG ⟨k,t,n,a,nilS⟩
 |ite {op n a x y b1 a1 b2 a2}:ZP x->ZP y->(∀s∈b1,StmtG s)->(∀s∈b2,StmtG s)->StmtG ⟨15,op,n,a,⟨[x,y,⟨9,lit [],0,a1,mkS b1⟩,⟨9,lit [],0,a2,mkS b2⟩],o⟩⟩
 |whl {op n a x y b1 a1}:ZP x->ZP y->(∀s∈b1,StmtG s)->StmtG ⟨16,op,n,a,⟨[x,y,⟨9,lit [],0,a1,mkS b1⟩],o⟩⟩
 |ret {t n a x}:ZP x->StmtG ⟨17,t,n,a,⟨[x],o⟩⟩
 |fork {t n a ks}:(∀k∈ks.xs,ZP k)->StmtG ⟨19,t,n,a,ks⟩
 |call {t n a c}:zvE c->StmtG ⟨20,t,n,a,⟨[c],o⟩⟩
 |store {t n a x y}:ZP x->ZP y->StmtG ⟨11,t,n,a,⟨[x,y],o⟩⟩
 |set {t n a e}:ExprG e->StmtG ⟨10,t,n,a,⟨[e],o⟩⟩
def VW(n:Nd):Prop:=∃a l,n=⟨9,lit [],0,a,mkS l⟩/\∀s∈l,StmtG s
def vT(n:Nd):Prop:=n.k_=8/\(n.T_=lit [105,110,116]/\n.K_=nilS\/(n.T_=lit [111,119,110]\/n.T_=lit [38]\/n.T_=lit [38,109,117,116])/\∃k,n.K_=⟨[k],o⟩/\ZP k)
def zfB(n:Nd):Prop:=n.T_=lit []/\n.K_=nilS\/vT n
def zdN(n:Nd):Prop:=n.k_=7/\∃m,n.K_=⟨[m],o⟩/\vT m
def FnG(n:Nd):Prop:=n.k_=6/\∃ps r b,n.K_=⟨ps++[r,b],o⟩/\(∀p∈ps,zdN p)/\zfB r/\r.k_=8/\VW b
theorem zgL{ts t:List Tk}{n:Nd}(h:Z3 ts = .ok (n,t)):n.k_=5:=by
 have hm:∀(m:Nd) ts,m.k_=5->xT m ts = .ok (n,t)->n.k_=5:=by
  intro m ts hm h;unfold xT at h;split at h
  ·obtain⟨v,t1,_,h⟩:=bd_ok h;cases h;exact hm
  split at h
  ·obtain⟨v,t1,_,h⟩:=bd_ok h;cases h;exact hm
  grind
 unfold Z3 at h;split at h
 ·obtain⟨v,t1,_,h⟩:=bd_ok h;cases h;rfl
 split at h
 ·obtain⟨v,t1,_,h⟩:=bd_ok h;cases h;rfl
 ·obtain⟨m,t1,em,h⟩:=bd_ok h;obtain⟨_,t2,_,e⟩:=bd_ok em;grind
theorem zpu{ts t:List Tk}{n:Nd}(h:Zb ts = .ok (n,t)):n.k_=5:=by
 obtain⟨v,t1,_,h⟩:=bd_ok h;cases h;rfl
theorem W4{ts t:List Tk}{n:Nd}(h:Z3 ts = .ok (n,t)):ZP n:=⟨XZ h,zgL h⟩
theorem Vj{ts t:List Tk}{n:Nd}(h:Zb ts = .ok (n,t)):ZP n:=⟨zN h,zpu h⟩
theorem zxO{ts t:List Tk}{n:Nd}(h:YB ts = .ok (n,t)):∃a b,n.K_=⟨[a,b],o⟩/\ZP a/\ZP b:=by
 obtain⟨a,t1,ea,h⟩:=bd_ok h;obtain⟨op,t2,eo,h⟩:=bd_ok h;obtain⟨b,t3,eb,h⟩:=bd_ok h;cases h;exact⟨a,b,rfl,W4 ea,W4 eb⟩
theorem zhX{ts t:List Tk}{ks:Sl Nd}(h:zag ts = .ok (ks,t)):∀k∈ks.xs,ZP k:=by
 obtain⟨u,t1,_,h⟩:=bd_ok h;split at h
 ·cases h;simp
 ·obtain⟨l,t2,e,h⟩:=bd_ok h;obtain⟨u,t3,_,h⟩:=bd_ok h;cases h;exact zee (λ_ _ _=>W4) e
theorem zxP{ts t:List Tk}{n:Nd}(h:vP ts = .ok (n,t)):ExprG n:=by
 unfold vP at h;split at h
 ·obtain⟨v,t1,_,h⟩:=bd_ok h;cases h;exact .leaf (.inl rfl) rfl
 split at h
 ·obtain⟨v,t1,_,h⟩:=bd_ok h;cases h;exact .leaf (.inr (.inl rfl)) rfl
 split at h
 ·split at h
  ·obtain⟨v,t1,_,h⟩:=bd_ok h;cases h;exact .leaf (.inr (.inr (.inr rfl))) rfl
  ·obtain⟨v,t1,_,h⟩:=bd_ok h;cases h;exact .leaf (.inr (.inr (.inl rfl))) rfl
 split at h
 ·exact .term (zgL h) (XZ h)
 obtain⟨m,t1,em,h⟩:=bd_ok h;have hm:=zN em;have hm':=Vj em;obtain⟨_,t0,_,e⟩:=bd_ok em;cases e;split at h
 ·obtain⟨ks,t2,e,h⟩:=bd_ok h;cases h;exact .call ⟨rfl,zhX e⟩
 split at h
 ·obtain⟨x,t2,e,h⟩:=bd_ok h;obtain⟨u,t3,_,h⟩:=bd_ok h;cases h;exact .load rfl rfl (W4 e)
 split at h
 ·obtain⟨x,t2,e,h⟩:=bd_ok h;cases h;exact .two (.inl rfl) rfl hm' (Vj e)
 split at h
 ·obtain⟨x,t2,e,h⟩:=bd_ok h;cases h;exact .two (.inr rfl) rfl hm' (Vj e)
 ·have hk:=zgw hm h;unfold xT at h;split at h
  ·obtain⟨v,t1,_,h⟩:=bd_ok h;cases h;exact .term rfl hk
  split at h
  ·obtain⟨v,t1,_,h⟩:=bd_ok h;cases h;exact .term rfl hk
  ·cases h;exact .term rfl hk
theorem wQ{n m:Nd}{ts t:List Tk}(h:WZ n ts = .ok (m,t)):m=n:=by
 obtain⟨u,t1,_,h⟩:=bd_ok h;cases h;rfl
theorem zxQ{blk:List Tk->PR Nd}(hb:∀ts n t,blk ts = .ok (n,t)->VW n){ts t:List Tk}{n:Nd}(h:YU blk ts = .ok (n,t)):StmtG n:=by
 have br:∀k a ts n t,wM blk k a ts = .ok (n,t)->∃op x y b,ZP x/\ZP y/\VW b/\n=⟨k,op,0,a,⟨[x,y,b],o⟩⟩:=by
  intro k a ts n t h;obtain⟨m,t1,em,h⟩:=bd_ok h;obtain⟨b,t2,eb,h⟩:=bd_ok h;obtain⟨_,h0⟩:=znN em;obtain⟨x,y,hk,hx,hy⟩:=zxO em;grind
 have at':∀k ts n t,atP k ts = .ok (n,t)->n.k_=k:=by
  intro k ts n t h;obtain⟨m,t1,em,h⟩:=bd_ok h;obtain⟨u,t2,_,h⟩:=bd_ok h;obtain⟨v,t3,_,h⟩:=bd_ok h;obtain⟨u,t4,_,h⟩:=bd_ok h;cases h;rfl
 unfold YU at h;split at h
 ·obtain⟨m,t1,_,h⟩:=bd_ok h;rw[wQ h];exact .leaf (.inl rfl)
 split at h
 ·obtain⟨m,t1,e,h⟩:=bd_ok h;rw[wQ h];exact .leaf (.inr (.inl (at' _ _ _ _ e)))
 split at h
 ·obtain⟨m,t1,e,h⟩:=bd_ok h;rw[wQ h];exact .leaf (.inr (.inr (.inl (at' _ _ _ _ e))))
 split at h
 ·obtain⟨m,t1,e,h⟩:=bd_ok h;obtain⟨op,x,y,b,hx,hy,⟨a1,l1,rfl,h1⟩,rfl⟩:=br _ _ _ _ _ e;split at h
  ·obtain⟨b2,t2,e2,h⟩:=bd_ok h;obtain⟨a2,l2,rfl,h2⟩:=hb _ _ _ e2;cases h;exact .ite hx hy h1 h2
  ·cases h;exact .ite (b2:=[]) hx hy h1 (by simp)
 split at h
 ·obtain⟨op,x,y,b,hx,hy,⟨a1,l1,rfl,h1⟩,rfl⟩:=br _ _ _ _ _ h;exact .whl hx hy h1
 split at h
 ·split at h
  ·rw[wQ h];exact .leaf (.inr (.inr (.inr (.inl rfl))))
  ·obtain⟨x,t1,e,h⟩:=bd_ok h;rw[wQ h];exact .ret (W4 e)
 split at h
 ·rw[wQ h];exact .leaf (.inr (.inr (.inr (.inr rfl))))
 split at h
 ·obtain⟨m,t1,_,h⟩:=bd_ok h;obtain⟨ks,t2,e,h⟩:=bd_ok h;rw[wQ h];exact .fork (zhX e)
 obtain⟨m,t1,_,h⟩:=bd_ok h;obtain⟨q,t2,e,h⟩:=bd_ok h;rw[wQ h];unfold vu at e;split at e
 ·obtain⟨ks,t3,e1,e⟩:=bd_ok e;cases e;exact .call ⟨rfl,zhX e1⟩
 split at e
 ·obtain⟨x,t3,e1,e⟩:=bd_ok e;obtain⟨u,t4,_,e⟩:=bd_ok e;obtain⟨u,t5,_,e⟩:=bd_ok e;obtain⟨y,t6,e2,e⟩:=bd_ok e;cases e;exact .store (W4 e1) (W4 e2)
 ·obtain⟨u,t3,_,e⟩:=bd_ok e;obtain⟨x,t4,e1,e⟩:=bd_ok e;cases e;exact .set (zxP e1)
theorem zmd{one:List Tk->PR Nd}(hg:∀ts n t,one ts = .ok (n,t)->StmtG n):∀(j:Nat) (acc:List Nd) (ts:List Tk) (l:List Nd) (t:List Tk),(∀x∈acc,StmtG x)->xD one j acc ts = .ok (l,t)->∀x∈l,StmtG x
 |0,acc,ts,l,t,h,e=>by cases e
 |j+1,acc,ts,l,t,h,e=>by
  unfold xD at e;split at e
  ·grind
  ·obtain⟨a,t1,e1,e⟩:=bd_ok e;refine zmd hg j _ _ l t (λx hx=>?_) e;grind
theorem zme:∀(r:Nat) (ts:List Tk) (n:Nd) (t:List Tk),yf r ts = .ok (n,t)->VW n
 |0,ts,n,t,h=>by unfold yf at h;split at h<;>cases h
 |r+1,ts,n,t,h=>by
  unfold yf at h;obtain⟨u,t1,_,h⟩:=bd_ok h;obtain⟨l,t2,e,h⟩:=bd_ok h;cases h;exact⟨_,l,rfl,zmd (λts n t=>zxQ (zme r)) _ _ _ _ _ (by simp) e⟩
theorem zhY{ts t:List Tk}{n:Nd}(h:Wl ts = .ok (n,t)):vT n:=by
 unfold Wl at h;split at h
 ·rename_i c;cases h;exact⟨rfl,.inl ⟨XM c,rfl⟩⟩
 split at h
 ·rename_i c;obtain⟨k,t1,e,h⟩:=bd_ok h;cases h;exact⟨rfl,.inr ⟨.inl (XM c),k,rfl,Vj e⟩⟩
 obtain⟨u,t1,em,h⟩:=bd_ok h;split at h
 ·obtain⟨k,t2,e,h⟩:=bd_ok h;cases h;exact⟨rfl,.inr ⟨.inr (.inr rfl),k,rfl,Vj e⟩⟩
 ·obtain⟨k,t2,e,h⟩:=bd_ok h;cases h;refine⟨rfl,.inr ⟨.inr (.inl ?_),k,rfl,Vj e⟩⟩;unfold zU at em;split at em
  ·rename_i c;exact XM c
  ·cases em
theorem zuB{ts t:List Tk}{n:Nd}(h:xC ts = .ok (n,t)):zdN n:=by
 obtain⟨m,t1,_,h⟩:=bd_ok h;obtain⟨u,t2,_,h⟩:=bd_ok h;obtain⟨k,t3,e,h⟩:=bd_ok h;cases h;exact⟨rfl,k,rfl,zhY e⟩
theorem zAX{ts t:List Tk}{n:Nd}{a:Int}(h:fnP a ts = .ok (n,t)):FnG n:=by
 rw[zsl] at h;obtain⟨m,t1,_,h⟩:=bd_ok h;obtain⟨u,t2,_,h⟩:=bd_ok h;obtain⟨ps,t3,e3,h⟩:=bd_ok h;obtain⟨r,t4,e4,h⟩:=bd_ok h;obtain⟨b,t5,e5,h⟩:=bd_ok h;cases h;obtain⟨p2,t6,e6,e3⟩:=bd_ok e3;obtain⟨u,t7,_,e3⟩:=bd_ok e3;cases e3;refine⟨rfl,ps,r,b,rfl,?_,?_,?_,zme _ _ _ _ e5⟩
 ·split at e6
  ·cases e6;simp
  ·exact zee (λ_ _ _=>zuB) e6
 ·unfold zl5 at e4;split at e4
  ·split at e4
   ·cases e4
   ·exact .inr (zhY e4)
  ·cases e4;exact .inl ⟨rfl,rfl⟩
 ·unfold zl5 at e4;split at e4
  ·split at e4
   ·cases e4
   ·exact(zhY e4).1
  grind
theorem zfC:∀(j:Nat) (acc:List Nd) (ts:List Tk) (l:List Nd) (t:List Tk),(∀x∈acc,wx x\/FnG x)->Yw j acc ts = .ok (l,t)->∀x∈l,wx x\/FnG x
 |0,acc,ts,l,t,h,e=>by cases e
 |j+1,acc,ts,l,t,h,e=>by
  have app:∀a,(wx a\/FnG a)->∀x∈acc++[a],wx x\/FnG x:=λa ha x hx=>by
   grind
  unfold Yw at e;split at e
  ·grind
  split at e
  ·obtain⟨a,t1,e1,e⟩:=bd_ok e;exact zfC j _ _ l t (app a (.inr (zAX e1))) e
  ·obtain⟨u,t0,_,e⟩:=bd_ok e;obtain⟨a,t1,e1,e⟩:=bd_ok e;exact zfC j _ _ l t (app a (.inl (zzn e1))) e
structure UnitG(n:Nd):Prop where
 eq:∃l,n=⟨0,lit [],0,0,mkS l⟩
 kid:∀k∈n.K_.xs,wx k\/FnG k
 size:zl n<=4096
theorem zmf{s:U0}(h:(Xa s).2.2=0):UnitG (Xa s).1:=by
 unfold Xa at h |-
 split at h
 ·grind
 rename_i hc;rw[jx hc];have hne:∀e,Yw (Z1 s).2.2.xs.length [] (Z1 s).2.2.xs = .error e->e.2≠0:=by
  intro e he h2;have hz:(Z1 s).2.1=0:=by
   grind
  obtain⟨g,hn⟩:=zdG hz;have gk:GK ⟨(Z1 s).2.2.xs.map toR,o⟩ 0 (Z1 s).2.2.xs:=⟨rfl,g,by have:=g.len;omega,zl7 s⟩;have:=zgI (z1:=(0,lit [],0,0)) (z2:=(0,lit [],0,0)) _ _ 0 [] gk (by have:=g.len;omega) (UJ _) (by have:=g.len;simp;omega);grind
 cases e:Yw (Z1 s).2.2.xs.length [] (Z1 s).2.2.xs with
 |error er=>grind
 |ok p=>
  obtain⟨l,t⟩:=p;rw[e] at h;simp only at h |-
  split at h
  ·simp at h
  ·rename_i hs;rw[jx hs];exact⟨⟨l,rfl⟩,zfC _ _ _ l t (by simp) e,by rw[zk];show zd l+1<=4096;omega⟩
theorem X2:∀{l:List Nd}{x:Nd},x∈l->zl x<=zd l
 |y::l,x,h=>by
  rcases Da.1 h with rfl | h
  ·simp[zd]
  ·have:=X2 h;simp only[zd];omega
theorem Wq:∀l:List Nd,l.length<=zd l
 |[]=>by simp
 |x::l=>by have:=zZ x;have:=Wq l;simp only[zd,jz];omega
theorem Zl{n:Nd}:n.K_.xs.length+1<=zl n:=by rw[zk];have:=Wq n.K_.xs;omega
theorem ZX{n k:Nd}(h:k∈n.K_.xs):zl k+1<=zl n:=by rw[zk n];have:=X2 h;omega
abbrev PP:=qj
abbrev PSg:=qf
theorem zuC(l:List U0)(s:U0)(hl:l.length<=1000):q2p (⟨l,o⟩,s)=d (idx (λw=>decide (s=w)) l):=by
 have:=Wo (f:=q1m) (xs:=l) (p:=λw=>decide (s=w)) (st:=λi=>(⟨l,o⟩,s,Sl.len (⟨l,o⟩:Sl U0),(i:Int))) (yes:=λi =>.inl (i:Int)) (no :=.inr ())
  (λi hi=>by
   unfold q1m;simp only[jl];simp only[zi,ze (s:=⟨l,o⟩) hi,jj];rw[jv (by omega),zx (by omega)]
   split<;>rfl)
  (by unfold q1m;simp only[jl];rw[jx (by show¬ ((l.length:Int) < (l.length:Int));omega)])
 show((lpO q1m (⟨l,o⟩,s,Sl.len (⟨l,o⟩:Sl U0),((0:Nat):Int))).bind _)=_;rw[this];unfold idx;cases l.findIdx? _<;>rfl
def zpv:List U0:=[lit [],lit [105,110,116],lit [111,119,110],lit [38],lit [38,109,117,116]]
def mI(s:U0):Int:=idx (λw=>decide (s=w)) zpv
def p0:PP:=⟨lit [],0,0⟩
def wy(t:List PT)(n:Nd):U3 PP:=
 if n.K_.xs=[] then d ⟨lit [],mI n.T_,0⟩ else if idT (zY n).T_ t < 0 then none else d ⟨lit [],mI n.T_,idT (zY n).T_ t⟩
def idP(n:U0)(l:List PP):Int:=idx (λx=>decide (x.n_=n)) l
def idM(ty:Int)(l:List PP):Int:=idx (λx=>decide (1 < x.M_) && decide (x.t_=ty)) l
def XN(t:List PT)(i:Int):Int:=(t[i.toNat]?).elim 0 qa.S_
def yt(t:List PT)(acc:List PP)(k:Nd):Except Er (List PP):=
 if 0<=idP k.T_ acc then .error (k.a_,30) else match wy t (zY k) with
  |none =>.error ((zY k).a_,31)
  |some p=>if(1 < p.M_/\XN t p.t_≠0)/\0<=idM p.t_ acc then .error ((zY k).a_,34) else .ok (acc++[⟨k.T_,p.M_,p.t_⟩])
def zhZ(n:Nd)(i:Nat):Nd:=n.K_.xs.getD i ve
def Xl(t:List PT)(n:Nd):Except Er PSg:=
 let c:=n.K_.xs.length - 2
 if 8 < c then .error (n.a_,22) else((n.K_.xs.take c).foldlM (yt t) []).bind λps=>match wy t (zhZ n c) with
  |none =>.error ((zhZ n c).a_,31)
  |some r =>.ok ⟨n.T_,mkS ps,r⟩
def zef(t:List PT)(l:List Nd):Except Er (List PSg):=l.foldlM (λs k=>if k.k_=6 then(Xl t k).bind λx =>.ok (s++[x]) else .ok s) []
theorem zgM{n:Nd}(h:vT n\/zfB n):n.K_=nilS\/∃k,n.K_=⟨[k],o⟩:=by
 rcases h with⟨_,⟨_,h⟩ | ⟨_,k,h,_⟩⟩ | ⟨_,h⟩ | ⟨_,⟨_,h⟩ | ⟨_,k,h,_⟩⟩
 ·exact .inl h
 all_goals grind
theorem zmg{t:Sl PT}{n:Nd}(h:vT n\/zfB n)(ht:t.xs.length<=100000):qak (n,t)=d (match wy t.xs n with | some p=>(p,0) | none=>(p0,31)):=by
 unfold qak qfh wy;rw[show(Sl.mk [lit [],lit [105,110,116],lit [111,119,110],lit [38],lit [38,109,117,116]] true:Sl U0)=⟨zpv,o⟩ from rfl,zuC zpv _ (by decide)];simp only[jj];rcases zgM h with hk | ⟨k,hk⟩
 ·simp (decide:=true) only [hk,show(nilS:Sl Nd).len=0 from rfl,jp,jq,jj,jm];rfl
 ·have e0:zY n=k:=by unfold zY;rw[hk];rfl
  rw[e0];simp (decide:=true) only [hk,show Sl.len (⟨[k],o⟩:Sl Nd)=1 from rfl,show za (⟨[k],o⟩:Sl Nd) 0=d k from rfl,jp,jq,jj,zcn t _ (show t.xs.length<=1000000 by omega),jl];by_cases h2:idT k.T_ t.xs < 0
  ·simp only[h2,jq,jj,jo];rfl
  ·simp only[h2,jp,jj,jm];rfl
theorem zsu {α γ:Type}{f:α×γ->U3 (Bool×γ)}{p:α->Bool}{c:γ}(hf:∀x,f (x,c)=d (p x,c)) (s:Sl α) (hs:s.xs.length<=1000000) {body:Int×Int×Sl α×γ->U3 (Step (Int×Int×Sl α×γ) (Int×Sl α×γ⊕Sl α×γ))}
    (hb:∀y0,body y0=if decide (y0.2.1 < y0.1)=o then(za y0.2.2.1 y0.2.1).bind λy1=>(za y0.2.2.1 y0.2.1).bind λy2=>(f (y2,y0.2.2.2)).bind λy3=>if y3.1=o then d (.done (.inl (y0.2.1,y0.2.2.1,y3.2))) else d (.next (y0.1,U4 (y0.2.1+1),y0.2.2.1,y3.2)) else d (.done (.inr y0.2.2))) :
    ((lpO body (s.len,0,s,c)).bind λy4=>Sum.elim (λy5=>d y5) (λy6=>d (-1,y6)) y4)=d (idx p s.xs,s,c):=by
 have:=Wo (f:=body) (xs:=s.xs) (p:=p) (st:=λi=>(s.len,(i:Int),s,c)) (yes:=λi =>.inl ((i:Int),s,c)) (no :=.inr (s,c))
  (λi hi=>by
    rw[hb];simp only[jl];simp only[zi,ze hi,jj,hf];rw[jv (by omega),zx (by omega)]
    split<;>rfl)
  (by rw[hb];simp only[jl];rw[jx (by rw[zi];omega)])
 rw[show((0:Int))=((0:Nat):Int) from rfl,this];unfold idx;cases s.xs.findIdx? p<;>rfl
theorem znP(l:Sl PP)(q:PP)(hl:l.xs.length<=1000000):q5h (l,q)=d (decide (0<=idP q.n_ l.xs),l,q):=by
 show(((lpO (qbd qam) (l.len,0,l,q)).bind _).bind _)=_;rw[zsu (body:=qbd qam) (f:=qam) (p:=λx:PP=>decide (x.n_=q.n_)) (λx=>rfl) l hl (λy=>rfl)];rfl
theorem zxR(l:Sl PP)(q:PP)(hl:l.xs.length<=1000000):q5i (l,q)=d (decide (0<=idM q.t_ l.xs),l,q):=by
 show(((lpO (qbe q8v) (l.len,0,l,q)).bind _).bind _)=_;rw[zsu (body:=qbe q8v) (f:=q8v) (p:=λx:PP=>decide (1 < x.M_) && decide (x.t_=q.t_)) (λx=>?_) l hl (λy=>rfl)];rfl;unfold q8v qel;grind
theorem zsv{t:Sl PT}{p:PP}(h:0<=p.t_/\p.t_ < t.xs.length\/p.M_<=1):q7m (p,t)=d (decide (1 < p.M_/\XN t.xs p.t_≠0)):=by
 unfold q7m qdu;by_cases h1:1 < p.M_
 ·obtain⟨h2,h3⟩ | h:=h
  ·obtain⟨j,hj⟩:∃j:Nat,p.t_=j:=⟨_,(DC h2).symm⟩
   have hlt:j < t.xs.length:=by omega
   simp only[h1,js,jq,hj,ze hlt,jj,XN,Int.toNat_natCast,UI hlt,Option.elim_some,UF]
  ·omega
 ·simp[h1]
theorem zAY(n:Nd)(h:n.K_=nilS)(hg:vT n\/zfB n):mI n.T_<=1:=by
 have a0:mI (lit [])=0:=by decide +kernel
 have a1:mI (lit [105,110,116])=1:=by decide +kernel
 rcases hg with⟨_,⟨h1,_⟩ | ⟨_,k,h2,_⟩⟩ | ⟨h1,_⟩ | ⟨_,⟨h1,_⟩ | ⟨_,k,h2,_⟩⟩
 ·grind
 all_goals grind
theorem ze3{t:List PT}{n:Nd}{p:PP}(hg:vT n\/zfB n)(h:wy t n=d p):0<=p.t_/\p.t_ < t.length\/p.M_<=1:=by
 unfold wy at h;split at h
 ·rename_i hk;cases h;refine .inr (zAY n ?_ hg);rcases zgM hg with h | ⟨k,h⟩
  all_goals grind
 split at h
 ·cases h
 ·cases h;have:idT (zY n).T_ t < t.length:=Yx.2.1;grind
abbrev SgH:=U0×U0×Int×Int
noncomputable abbrev zpw:=qda qak q5h q7m q5i
theorem zuD {t:Sl PT}(ht:t.xs.length<=20000) {ks:Sl Nd}(hk:ks.xs.length<=20000) (hg:∀p∈ks.xs,zdN p) (last:Int) (n:Nd) (z h:SgH) :
    lpO zpw (t,last,ks,ks.len,0,n,z,h,mkS [])=d (match ks.xs.foldlM (yt t.xs) [] with | .error e =>.inl (e.1,e.2,lit [],lit [],0,0) | .ok l =>.inr (t,last,n,z,h,mkS l)):=by
 have:=zl8 (f:=zpw) (xs:=ks.xs) (step:=yt t.xs) (st:=λi a=>(t,last,ks,ks.len,(i:Int),n,z,h,mkS a)) (fin:=λa =>.inr (t,last,n,z,h,mkS a)) (er:=λe =>.inl (e.1,e.2,lit [],lit [],0,0)) (I:=λi a=>a.length=i)
  (λi hi a ha=>by
    unfold zpw qda;have hw:=zx (k:=i) (by omega);obtain⟨_,m,hm,hmg⟩:=hg _ (gc hi);have e0:zY ks.xs[i]=m:=by unfold zY;rw[hm];rfl
    simp only[jl,zm];rw[jv (by rw[zi];omega),ze hi];have g0:za ks.xs[i].K_ 0=d m:=by rw[hm];rfl
    simp only[jj,g0,zm,zmg (.inl hmg) (show t.xs.length<=100000 by omega),yt,e0];cases hX:wy t.xs m with
    |none=>
     simp only[znP (mkS a) _ (show a.length<=1000000 by omega),jj,show(mkS a).xs=a from rfl,jl];by_cases h1:0<=idP ks.xs[i].T_ a
     ·grind
     grind
    |some p=>
     simp only[znP (mkS a) _ (show a.length<=1000000 by omega),jj,show(mkS a).xs=a from rfl,jl];by_cases h1:0<=idP ks.xs[i].T_ a
     ·grind
     simp (decide:=true) only [h1,jp,Di];rw[zsv (p:=⟨ks.xs[i].T_,p.M_,p.t_⟩) (show 0<=p.t_/\p.t_ < t.xs.length\/p.M_<=1 from ze3 (.inl hmg) hX)];simp only[jj,jl];by_cases h2:1 < p.M_/\XN t.xs p.t_≠0
     · simp only[eq_true h2,jq,UF,zxR (mkS a) _ (show a.length<=1000000 by omega),jj,show(mkS a).xs=a from rfl,jl];by_cases h3:0<=idM p.t_ a
       ·grind
       ·simp only[h3,jp,jj,jm];rw[xW (by omega) (by simp;omega)];grind
     · simp only[eq_false h2,jp,false_and,jj,jk,jm];rw[xW (by omega) (by simp;omega)]
       grind)
  (λi hi a a' ha e=>by
    unfold yt at e
    grind)
  (λa _=>by
    unfold zpw qda;simp only[jl,zm]
    rw[jx (by rw[zi];omega)])
  (a:=[]) rfl
 grind
theorem znQ{n:Nd}(h:FnG n):∃ps r b,n.K_=⟨ps++[r,b],o⟩/\n.K_.xs.length - 2=ps.length/\n.K_.xs.take (n.K_.xs.length - 2)=ps/\zhZ n (n.K_.xs.length - 2)=r/\(∀p∈ps,zdN p)/\zfB r/\VW b:=by
 obtain⟨_,ps,r,b,hk,hp,hr,_,hb⟩:=h;have hl:n.K_.xs.length - 2=ps.length:=by rw[hk];simp
 refine⟨ps,r,b,hk,hl,?_,?_,hp,hr,hb⟩
 ·grind
 ·unfold zhZ;grind
theorem zzq {t:Sl PT}{n:Nd}(hg:FnG n) (ht:t.xs.length<=20000) (hn:n.K_.xs.length<=20000) :
    qbf (n,t)=d (match Xl t.xs n with | .error e=>(⟨lit [],Sl.mk [] B,p0⟩,e.1,e.2) | .ok s=>(s,0,0)):=by
 obtain⟨ps,r,b,hk,hl,htk,hr,hp,hrg,_⟩:=znQ hg;unfold qbf qg5 Xl;have hw:U4 (n.K_.len - 2)=(ps.length:Int):=by
  have:n.K_.len=(ps.length:Int)+2:=by rw[hk];simp[Sl.len]
  rw[this,zD (by grind) (by grind)];omega
 have hpl:ps.length<=20000:=by grind
 simp only[hw,jl,htk,hl];rw[show n.K_.xs.take ps.length=ps by grind];have hr':zhZ n ps.length=r:=by grind
 by_cases h8:8 < ps.length
 ·simp only[h8,show(8:Int) < (ps.length:Int) by omega,jq];rfl
 simp only[h8,show¬ ((8:Int) < (ps.length:Int)) by omega,jp];rw[YR (by omega) (by omega) (by grind)];simp only[jj,zm,Int.toNat_zero,Dr,Int.toNat_natCast];rw[show n.K_.xs.take ps.length=ps by grind];have:=zuD ht (ks:=⟨ps,n.K_.nn⟩) hpl hp (ps.length:Int) n (lit [],lit [],0,0) (n.T_,lit [],0,0);rw[show(Sl.mk [] false:Sl PP)=mkS [] from rfl,show lpO (qda qak q5h q7m q5i) _=_ from this];simp only[jj];cases ps.foldlM (yt t.xs) [] with
 |error e=>rfl
 |ok l=>
  simp only[jm,A];have hg2:za n.K_ (ps.length:Int)=d r:=by rw[hk];rw[wO];simp
  simp only[hg2,jj,zm,zmg (.inr hrg) (show t.xs.length<=100000 by omega),hr'];cases wy t.xs r with
  |none=>rfl
  |some p=>rfl
theorem zxS {t:Sl PT}{n:Nd}(hg:∀k∈n.K_.xs,k.k_=6->FnG k/\k.K_.xs.length<=20000) (ht:t.xs.length<=20000) (hn:n.K_.xs.length<=20000) :
    q7a (n,t)=d (match zef t.xs n.K_.xs with | .error e=>(e.1,e.2,Sl.mk [] B) | .ok s=>(0,0,mkS s)):=by
 have hne:∀k e,Xl t.xs k = .error e->e.2≠0:=by
  intro k e h;unfold Xl at h;simp only at h;split at h
  ·cases h;simp
  generalize k.K_.xs.take (k.K_.xs.length - 2)=ps at h;have hf:∀(ps:List Nd) a e,ps.foldlM (yt t.xs) a = .error e->e.2≠0:=by
   intro ps
   induction ps with
   |nil=>intro a e h;cases h
   |cons x l ih=>
    intro a e h;rw[D] at h;cases hx:yt t.xs a x with
    |ok b=>rw[hx] at h;exact ih b e h
    |error er=>
     rw[hx] at h;cases h;unfold yt at hx;split at hx
     ·cases hx;simp
     grind
  cases e1:ps.foldlM (yt t.xs) [] with
  |error er=>rw[e1] at h;cases h;grind
  |ok l=>
   rw[e1] at h;simp only[A] at h;grind
 have:=zal (f:=qcg qbf) (xs:=n.K_.xs) (step:=λs k=>if k.k_=6 then(Xl t.xs k).bind λx =>.ok (s++[x]) else .ok s) (st:=λi a=>(t,n.K_,n.K_.len,(i:Int),mkS a)) (fin:=λa =>.inr (mkS a)) (er:=λ_ e =>.inl e) (I:=λi a=>a.length<=i)
  (λi hi a ha=>by
    unfold qcg;have hw:=zx (k:=i) (by omega);simp only[jl,zm];rw[jv (by rw[zi];omega),ze hi];simp only[jj,zm];by_cases h1:n.K_.xs[i].k_=6
    · obtain⟨g1,g2⟩:=hg _ (gc hi) h1;simp only[h1,Di,jt,jp,jq,zzq g1 ht g2,jj];cases e:Xl t.xs n.K_.xs[i] with
      |error e2=>have:=hne _ _ e;simp only[this,ju,jq,jj,jm,A]
      |ok x=>
       simp only[jt,jp,A];rw[xW (by omega) (by simp;omega)];grind
    grind)
  (λi hi a a' ha e=>by
    split at e
    · cases e1:Xl t.xs n.K_.xs[i] with
      |error er=>rw[e1] at e;cases e
      |ok x=>rw[e1] at e;cases e;simp;omega
    grind)
  (λa _=>by
    unfold qcg;simp only[jl]
    rw[jx (by rw[zi];omega)])
  (a:=[]) (by simp)
 unfold q7a qfi;show((lpO (qcg qbf) (t,n.K_,n.K_.len,((0:Nat):Int),mkS [])).bind _)=_;unfold zef;cases e:n.K_.xs.foldlM (m:=Except Er) (λs k=>if k.k_=6 then(Xl t.xs k).bind λx =>.ok (s++[x]) else .ok s) [] with
 |error er=>
  grind
 |ok s=>
  grind
abbrev RP:=qh
abbrev RSg:=qi
def rP(x:PP):RP:=⟨x.n_,x.M_,x.t_⟩
def rG(x:PSg):RSg:=⟨x.n_,slm rP x.P_,rP x.R_⟩
theorem zmh{t:List PT}{n:Nd}(h:vT n\/zfB n)(ht:t.length<=100000):q24 (rN n,mkS (t.map rT))=d (match wy t n with | some p=>(rP p,o) | none=>(rP p0,B)):=by
 have m0:mI (lit [])=0:=by decide +kernel
 have m1:mI (lit [105,110,116])=1:=by decide +kernel
 have m2:mI (lit [111,119,110])=2:=by decide +kernel
 have m3:mI (lit [38])=3:=by decide +kernel
 have m4:mI (lit [38,109,117,116])=4:=by decide +kernel
 obtain⟨kd,tx,nu,a,ks⟩:=n;have hc:(tx=lit []\/tx=lit [105,110,116])/\ks=nilS\/(tx=lit [111,119,110]\/tx=lit [38]\/tx=lit [38,109,117,116])/\∃k,ks=⟨[k],o⟩:=by
  rcases h with⟨_,⟨h1,h2⟩ | ⟨h1,k,h2,_⟩⟩ | ⟨h1,h2⟩ | ⟨_,⟨h1,h2⟩ | ⟨h1,k,h2,_⟩⟩
  ·grind
  ·grind
  all_goals grind
 unfold q24 q9d wy;have g0:∀(k:Nd),za (rN ⟨kd,tx,nu,a,⟨[k],o⟩⟩).K_ 0=d (rN k):=λk=>by rw[zH];rfl
 obtain⟨rfl | rfl,rfl⟩ | ⟨rfl | rfl | rfl,k,rfl⟩:=hc
 ·simp (decide:=true) only [zX,Z7,zj,jq,jp,jj,jm,m0];rfl
 ·simp (decide:=true) only [zX,Z7,zj,jq,jp,jj,jm,m1];rfl
 all_goals
  simp (decide:=true) only [zX,Z7,zj,jq,jp,jj,jm,m2,m3,m4,g0,zam t _ (show t.length<=1000000 by omega),zY,Dq,jl];by_cases h2:idT k.T_ t < 0
  ·simp only[h2,jq,jj,jo];rfl
  ·simp only[h2,jp,jj,jm];rfl
noncomputable abbrev og0:=q62 q24
noncomputable abbrev og1:=q63 q24
noncomputable abbrev og2:=q64 q24
theorem zsw{acc:List PP}{ks:List Nd}(h:acc.map qj.n_=ks.map q8.T_)(n:U0):idP n acc=idN n ks:=by
 have h1:=znM qj.n_ (λx=>decide (x=n)) acc;have h2:=znM q8.T_ (λx=>decide (x=n)) ks;unfold idP idN;grind
theorem zzr {n:Nd}{i:Nat}(hi:i<=n.K_.xs.length) (hn:n.K_.xs.length<=20000) (T:Sl RTy) (c:Int) (z h:SgH) (k:Nd) (s:Sl RP) :
    lpO og0 (T,c,(i:Int),0,rN n,z,h,rN k,s)=d (if 0<=idN k.T_ (n.K_.xs.take i) then .inl (k.a_,30,lit [],lit [],0,0) else .inr (T,c,(i:Int),rN n,z,h,rN k,s)):=by
 have hl:(n.K_.xs.take i).length=i:=by simp;omega
 have:=Wo (f:=og0) (xs:=n.K_.xs.take i) (p:=λx=>decide (x.T_=k.T_)) (st:=λj=>(T,c,(i:Int),(j:Int),rN n,z,h,rN k,s)) (yes:=λ_ =>.inl (k.a_,30,lit [],lit [],0,0)) (no :=.inr (T,c,(i:Int),rN n,z,h,rN k,s))
  (λj hj=>by
    rw[hl] at hj;unfold og0 q62;have hg:za (rN n).K_ (j:Int)=d (rN n.K_.xs[j]):=by rw[zH,ze (by simp;omega)];simp
    simp only[jl,zj];rw[jv (by omega),hg];simp only[jj,zX,YW,List.getElem_take];rw[zx (by omega)]
    grind)
  (by unfold og0 q62;simp only[jl,zj,hl];grind)
 rw[show(0:Int)=((0:Nat):Int) from rfl,this];unfold idN idx;cases(n.K_.xs.take i).findIdx? _ with
 |none=>simp
 |some j=>simp
theorem zzs {t:List PT}{acc:List PP}(ha:acc.length<=20000) {m:Nd}{p:PP}(hv:0<=p.t_/\p.t_ < t.length\/p.M_<=1) (c:Int) (n:RNd) (z h:SgH) {k:RNd}(hk:za k.K_ 0=d (rN m)) :
    lpO og1 (mkS (t.map rT),c,(acc.length:Int),0,n,z,h,k,rP p,mkS (acc.map rP))=d (if(1 < p.M_/\XN t p.t_≠0)/\0<=idM p.t_ acc then .inl (m.a_,34,lit [],lit [],0,0) else .inr (mkS (t.map rT),c,(acc.length:Int),n,z,h,k,rP p,mkS (acc.map rP))):=by
 have:=Wo (f:=og1) (xs:=acc) (p:=λx=>decide (1 < p.M_) && (decide (1 < x.M_) && (decide (p.t_=x.t_) && decide (XN t p.t_≠0)))) (st:=λj=>(mkS (t.map rT),c,(acc.length:Int),(j:Int),n,z,h,k,rP p,mkS (acc.map rP))) (yes:=λ_ =>.inl (m.a_,34,lit [],lit [],0,0)) (no :=.inr (mkS (t.map rT),c,(acc.length:Int),n,z,h,k,rP p,mkS (acc.map rP)))
  (λj hj=>by
    unfold og1 q63;simp only[jl,zj];rw[jv (by omega),Xb hj];have hw:=zx (k:=j) (by omega);simp only[jj,rP];by_cases h1:1 < p.M_
    case neg=>grind
    by_cases h2:1 < acc[j].M_
    case neg=>grind
    by_cases h3:p.t_=acc[j].t_
    case neg=>simp only[h1,h2,h3,jp,jq,jr,Bool.and_false,Bool.false_and,jk,jj,hw,rP]
    obtain⟨h4,h5⟩ | h4:=hv
    case inr=>omega
    obtain⟨q,hq⟩:∃q:Nat,p.t_=q:=⟨_,(DC h4).symm⟩
    have hlt:q < t.length:=by omega
    have hs:XN t p.t_=t[q].S_:=by unfold XN;grind
    simp only[h1,h2,eq_true h3,jq,js,Bool.true_and];rw[hs,show za (mkS (t.map rT)) p.t_=d (rT t[q]) by rw[hq];exact Xb hlt];simp only[jj,rT,jl,hw];by_cases h6:t[q].S_=0
    ·grind
    ·simp only[h6,Di,ju,jq,js,hk,jj,YW])
  (by unfold og1 q63;simp only[jl,zj];grind)
 rw[show(0:Int)=((0:Nat):Int) from rfl,this];by_cases hc:1 < p.M_/\XN t p.t_≠0
 · simp only[eq_true hc.1,eq_true hc.2,and_self,UF];unfold idM idx
   rw[show(λx:PP=>decide True && (decide (1 < x.M_) && (decide (p.t_=x.t_) && decide True)))=(λx:PP=>decide (1 < x.M_) && decide (x.t_=p.t_)) from by
    grind]
   cases acc.findIdx? _ with
   |none=>simp
   |some j=>simp[hc.2]
 · have:acc.findIdx? (λx=>decide (1 < p.M_) && (decide (1 < x.M_) && (decide (p.t_=x.t_) && decide (XN t p.t_≠0))))=none:=by
     rw[List.findIdx?_eq_none_iff];intro x _;simp only[Bool.and_eq_false_iff,decide_eq_false_iff_not];grind
   grind
theorem zAZ{acc:List PP}{x:PP}(h:acc.length<=50000):zo 32 (mkS (acc.map rP)) [rP x]=d (mkS ((acc++[x]).map rP)):=by
 rw[xW (by omega) (by simp;omega)];simp
theorem zzt {t:List PT}(ht:t.length<=20000) {n:Nd}{ps:List Nd}{c:Nat}(hc:c<=n.K_.xs.length) (hps:n.K_.xs.take c=ps) (hn:n.K_.xs.length<=20000) (hg:∀p∈ps,zdN p) (z h:SgH) :
    lpO og2 (mkS (t.map rT),(c:Int),0,rN n,z,h,mkS [])=d (match ps.foldlM (yt t) [] with | .error e =>.inl (e.1,e.2,lit [],lit [],0,0) | .ok l =>.inr (mkS (t.map rT),(c:Int),rN n,z,h,mkS (l.map rP))):=by
 have hl:ps.length=c:=by grind
 have:=zl8 (f:=og2) (xs:=ps) (step:=yt t) (st:=λi a=>(mkS (t.map rT),(c:Int),(i:Int),rN n,z,h,mkS (a.map rP))) (fin:=λa =>.inr (mkS (t.map rT),(c:Int),rN n,z,h,mkS (a.map rP))) (er:=λe =>.inl (e.1,e.2,lit [],lit [],0,0)) (I:=λi a=>a.map qj.n_=(n.K_.xs.take i).map q8.T_)
  (λi hi a ha=>by
    unfold og2 q64;have hw:=zx (k:=i) (by omega);have hal:a.length=i:=by have:=congrArg List.length ha;grind
    have hpi:ps[i]=n.K_.xs[i]:=by grind
    obtain⟨_,m,hm,hmg⟩:=hg _ (gc hi);have e0:zY ps[i]=m:=by unfold zY;rw[hm];rfl
    have hg0:za (rN n).K_ (i:Int)=d (rN ps[i]):=by rw[zH,ze (by simp;omega)];simp[hpi]
    have g0:za (rN ps[i]).K_ 0=d (rN m):=by rw[zH,hm];rfl
    simp only[jl,zj];rw[jv (by omega),hg0];simp only[jj];rw[show lpO (q62 q24) _=_ from zzr (n:=n) (i:=i) (by omega) hn (mkS (t.map rT)) (c:Int) z h ps[i] (mkS (a.map rP)),<- zsw ha];simp only[jj,yt,e0];by_cases h1:0<=idP ps[i].T_ a
    ·grind
    simp only[h1,jp,jm,g0,jj,zmh (.inl hmg) (show t.length<=100000 by omega)];cases hX:wy t m with
    |none=>simp only[D5,jq,jj,jo,YW]
    |some p=>
     simp only[Dn,jk,jp];have h1':=zzs (t:=t) (acc:=a) (by omega) (ze3 (.inl hmg) hX) (c:Int) (rN n) z h g0;rw[hal] at h1';rw[show lpO (q63 q24) _=_ from h1'];simp only[jj];by_cases h2:(1 < p.M_/\XN t p.t_≠0)/\0<=idM p.t_ a
     ·grind
     · simp only[eq_false h2,jp,jm,jj,zX,rP];rw[show(⟨ps[i].T_,p.M_,p.t_⟩:RP)=rP ⟨ps[i].T_,p.M_,p.t_⟩ from rfl,zAZ (by omega)]
       grind)
  (λi hi a a' ha e=>by
    have hpi:ps[i]=n.K_.xs[i]:=by grind
    unfold yt at e;split at e
    ·cases e
    split at e
    ·cases e
    split at e
    ·cases e
    · cases e
      rw[List.take_succ_eq_append_getElem (show i < n.K_.xs.length by omega),C,C,ha,<- hpi];rfl)
  (λa _=>by
    unfold og2 q64;simp only[jl,zj,hl]
    grind)
  (a:=[]) (by simp)
 rw[show(0:Int)=((0:Nat):Int) from rfl,show(mkS []:Sl RP)=mkS (([]:List PP).map rP) from rfl,this];grind
theorem zxT {t:List PT}{n:Nd}(hg:FnG n) (ht:t.length<=20000) (hn:n.K_.xs.length<=20000) :
    q4c (rN n,mkS (t.map rT))=d (match Xl t n with | .error e=>(⟨lit [],Sl.mk [] B,⟨lit [],0,0⟩⟩,e.1,e.2) | .ok s=>(rG s,0,0)):=by
 obtain⟨ps,r,b,hk,hl,htk,hr,hp,hrg,_⟩:=znQ hg;unfold q4c qac Xl;have hw:U4 ((rN n).K_.len - 2)=(ps.length:Int):=by
  have:(rN n).K_.len=(ps.length:Int)+2:=by rw[zH,hk];simp[Sl.len]
  rw[this,zD (by grind) (by grind)];omega
 have hpl:ps.length<=20000:=by grind
 have htk':n.K_.xs.take ps.length=ps:=by grind
 simp only[hw,jl,hl,zj,htk'];have hr':zhZ n ps.length=r:=by grind
 by_cases h8:8 < ps.length
 ·simp only[h8,show(8:Int) < (ps.length:Int) by omega,jq,YW]
 simp only[h8,show¬ ((8:Int) < (ps.length:Int)) by omega,jp];rw[show(Sl.mk [] false:Sl RP)=mkS [] from rfl,show lpO (q64 q24) _=_ from zzt ht (n:=n) (ps:=ps) (c:=ps.length) (by rw[hk];simp) htk' hn hp (lit [],lit [],0,0) ((rN n).T_,lit [],0,0)];simp only[jj,A];cases ps.foldlM (yt t) [] with
 |error e=>rfl
 |ok l=>
  simp only[jm];have hg2:za (rN n).K_ (ps.length:Int)=d (rN r):=by rw[zH,hk];rw[wO];simp
  simp only[hg2,jj,zmh (.inr hrg) (show t.length<=100000 by omega),hr'];cases wy t r with
  |none=>simp only[D5,jq,YW]
  |some p=>simp only[Dn,jk,jp,rG,zsr,zX]
theorem zxU{t:List PT}{k:Nd}{e:Er}(h:Xl t k = .error e):e.2≠0:=by
 unfold Xl at h;simp only at h;split at h
 ·cases h;simp
 generalize k.K_.xs.take (k.K_.xs.length - 2)=ps at h;have hf:∀(ps:List Nd) a e,ps.foldlM (yt t) a = .error e->e.2≠0:=by
  intro ps
  induction ps with
  |nil=>intro a e h;cases h
  |cons x l ih=>
   intro a e h;rw[D] at h;cases hx:yt t a x with
   |ok b=>rw[hx] at h;exact ih b e h
   |error er=>
    rw[hx] at h;cases h;unfold yt at hx;split at hx
    all_goals grind
 cases e1:ps.foldlM (yt t) [] with
 |error er=>rw[e1] at h;cases h;grind
 |ok l=>
  rw[e1] at h;simp only[A] at h;grind
theorem zuE {t:List PT}{n:Nd}(hg:∀k∈n.K_.xs,k.k_=6->FnG k/\k.K_.xs.length<=20000) (ht:t.length<=20000) (hn:n.K_.xs.length<=20000) :
    q2s (rN n,mkS (t.map rT))=d (match zef t n.K_.xs with | .error e=>(e.1,e.2,Sl.mk [] B) | .ok s=>(0,0,mkS (s.map rG))):=by
 have:=zal (f:=q5n q4c) (xs:=n.K_.xs) (step:=λs k=>if k.k_=6 then(Xl t k).bind λx =>.ok (s++[x]) else .ok s) (st:=λi a=>(mkS (t.map rT),(i:Int),rN n,mkS (a.map rG))) (fin:=λa =>.inr (mkS (a.map rG))) (er:=λ_ e =>.inl e) (I:=λi a=>a.length<=i)
  (λi hi a ha=>by
    unfold q5n;have hw:=zx (k:=i) (by omega);have hg0:za (rN n).K_ (i:Int)=d (rN n.K_.xs[i]):=by rw[zH,ze (by simpa using hi)];simp
    simp only[jl,zj];rw[jv (by rw[zH];simp[Sl.len];omega),hg0];simp only[jj,ZT];by_cases h1:n.K_.xs[i].k_=6
    · obtain⟨g1,g2⟩:=hg _ (gc hi) h1;simp only[h1,Di,jt,jp,jq,zxT g1 ht g2,jj];cases e:Xl t n.K_.xs[i] with
      |error e2=>have:=zxU e;simp only[this,ju,jq,jj,jm,A]
      |ok x=>
       simp only[jt,jp,A];rw[xW (by omega) (by simp;omega)];grind
    grind)
  (λi hi a a' ha e=>by
    split at e
    · cases e1:Xl t n.K_.xs[i] with
      |error er=>rw[e1] at e;cases e
      |ok x=>rw[e1] at e;cases e;simp;omega
    grind)
  (λa _=>by
    unfold q5n;simp only[jl]
    rw[jx (by rw[zH];simp[Sl.len])])
  (a:=[]) (by simp)
 unfold q2s q9e;simp only[zj];show((lpO (q5n q4c) (mkS (t.map rT),((0:Nat):Int),rN n,mkS (([]:List PSg).map rG))).bind _)=_;unfold zef;cases e:n.K_.xs.foldlM (m:=Except Er) (λs k=>if k.k_=6 then(Xl t k).bind λx =>.ok (s++[x]) else .ok s) [] with
 |error er=>
  grind
 |ok s=>
  grind
end Go.Px
