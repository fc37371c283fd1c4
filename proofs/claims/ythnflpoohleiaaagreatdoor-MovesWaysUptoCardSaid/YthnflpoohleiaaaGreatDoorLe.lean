/- Part Le. -/
import Derived.Test.YthnflpoohleiaaaGreatDoorLd
set_option linter.unusedVariables false
set_option linter.unusedSimpArgs false
namespace Go.Px
open Bool renaming true->o,false->B
open Except renaming bind->A
open _root_.Option renaming some->d
def ZQ(n:Nd):Prop:=n.K_=nilS/\n.k_=5
def zvn(n:Nd):Prop:=n.k_=28/\∀k∈n.K_.xs,ZQ k
inductive ExprG:Nd->Prop
 |term {n}:n.k_=5->zeu n->ExprG n
 |leaf {n}:(n.k_=23\/n.k_=24\/n.k_=26\/n.k_=27)->zeu n->ExprG n
 |call {n}:zvn n->ExprG n
 |load {n x}:n.k_=25->n.K_=⟨[x],o⟩->ZQ x->ExprG n
 |two {n x y}:(n.k_=21\/n.k_=22)->n.K_=⟨[x,y],o⟩->ZQ x->ZQ y->ExprG n
inductive StmtG:Nd->Prop
 |leaf {k:Int} {t n a}:(k=12\/k=13\/k=14\/k=17\/k=18)->StmtG ⟨k,t,n,a,nilS⟩
 |ite {op n a x y b1 a1 b2 a2}:ZQ x->ZQ y->(∀s∈b1,StmtG s)->(∀s∈b2,StmtG s)->StmtG ⟨15,op,n,a,⟨[x,y,⟨9,lit [],0,a1,mkS b1⟩,⟨9,lit [],0,a2,mkS b2⟩],o⟩⟩
 |whl {op n a x y b1 a1}:ZQ x->ZQ y->(∀s∈b1,StmtG s)->StmtG ⟨16,op,n,a,⟨[x,y,⟨9,lit [],0,a1,mkS b1⟩],o⟩⟩
 |ret {t n a x}:ZQ x->StmtG ⟨17,t,n,a,⟨[x],o⟩⟩
 |fork {t n a ks}:(∀k∈ks.xs,ZQ k)->StmtG ⟨19,t,n,a,ks⟩
 |call {t n a c}:zvn c->StmtG ⟨20,t,n,a,⟨[c],o⟩⟩
 |store {t n a x y}:ZQ x->ZQ y->StmtG ⟨11,t,n,a,⟨[x,y],o⟩⟩
 |set {t n a e}:ExprG e->StmtG ⟨10,t,n,a,⟨[e],o⟩⟩
def zaa(n:Nd):Prop:=∃a l,n=⟨9,lit [],0,a,mkS l⟩/\∀s∈l,StmtG s
def vo(n:Nd):Prop:=n.k_=8/\(n.T_=lit [105,110,116]/\n.K_=nilS\/(n.T_=lit [111,119,110]\/n.T_=lit [38]\/n.T_=lit [38,109,117,116])/\∃k,n.K_=⟨[k],o⟩/\ZQ k)
def zd1(n:Nd):Prop:=n.T_=lit []/\n.K_=nilS\/vo n
def zd2(n:Nd):Prop:=n.k_=7/\∃m,n.K_=⟨[m],o⟩/\vo m
def FnG(n:Nd):Prop:=n.k_=6/\∃ps r b,n.K_=⟨ps++[r,b],o⟩/\(∀p∈ps,zd2 p)/\zd1 r/\r.k_=8/\zaa b
theorem zgY{ts t:List Tk}{n:Nd}(h:Z4 ts = .ok (n,t)):n.k_=5:=by
 have b:∀(m:Nd) ts,m.k_=5->xW m ts = .ok (n,t)->n.k_=5:=by
  intro m ts b h;unfold xW at h;split at h
  ·obtain⟨v,a,_,h⟩:=bd_ok h;cases h;exact b
  split at h
  ·obtain⟨v,a,_,h⟩:=bd_ok h;cases h;exact b
  grind
 unfold Z4 at h;split at h
 ·obtain⟨v,a,_,h⟩:=bd_ok h;cases h;rfl
 split at h
 ·obtain⟨v,a,_,h⟩:=bd_ok h;cases h;rfl
 ·obtain⟨m,a,c,h⟩:=bd_ok h;obtain⟨_,t2,_,e⟩:=bd_ok c;grind
theorem zps{ts t:List Tk}{n:Nd}(h:Zc ts = .ok (n,t)):n.k_=5:=by
 obtain⟨v,a,_,h⟩:=bd_ok h;cases h;rfl
theorem vd{ts t:List Tk}{n:Nd}(h:Z4 ts = .ok (n,t)):ZQ n:=⟨X0 h,zgY h⟩
theorem Vw{ts t:List Tk}{n:Nd}(h:Zc ts = .ok (n,t)):ZQ n:=⟨zP h,zps h⟩
theorem zxj{ts t:List Tk}{n:Nd}(h:YI ts = .ok (n,t)):∃a b,n.K_=⟨[a,b],o⟩/\ZQ a/\ZQ b:=by
 obtain⟨a,g,e,h⟩:=bd_ok h;obtain⟨op,t2,f,h⟩:=bd_ok h;obtain⟨b,t3,c,h⟩:=bd_ok h;cases h;exact⟨a,b,rfl,vd e,vd c⟩
theorem zh2{ts t:List Tk}{ks:Sl Nd}(h:zav ts = .ok (ks,t)):∀k∈ks.xs,ZQ k:=by
 obtain⟨u,a,_,h⟩:=bd_ok h;split at h
 ·cases h;simp
 ·obtain⟨l,t2,e,h⟩:=bd_ok h;obtain⟨u,t3,_,h⟩:=bd_ok h;cases h;exact zew (λ_ _ _=>vd) e
theorem zxk{ts t:List Tk}{n:Nd}(h:v8 ts = .ok (n,t)):ExprG n:=by
 unfold v8 at h;split at h
 ·obtain⟨v,a,_,h⟩:=bd_ok h;cases h;exact .leaf (.inl rfl) rfl
 split at h
 ·obtain⟨v,a,_,h⟩:=bd_ok h;cases h;exact .leaf (.inr (.inl rfl)) rfl
 split at h
 ·split at h
  ·obtain⟨v,a,_,h⟩:=bd_ok h;cases h;exact .leaf (.inr (.inr (.inr rfl))) rfl
  ·obtain⟨v,a,_,h⟩:=bd_ok h;cases h;exact .leaf (.inr (.inr (.inl rfl))) rfl
 split at h
 ·exact .term (zgY h) (X0 h)
 obtain⟨m,a,f,h⟩:=bd_ok h;have g:=zP f;have b:=Vw f;obtain⟨_,t0,_,e⟩:=bd_ok f;cases e;split at h
 ·obtain⟨ks,t2,e,h⟩:=bd_ok h;cases h;exact .call ⟨rfl,zh2 e⟩
 split at h
 ·obtain⟨x,t2,e,h⟩:=bd_ok h;obtain⟨u,t3,_,h⟩:=bd_ok h;cases h;exact .load rfl rfl (vd e)
 split at h
 ·obtain⟨x,t2,e,h⟩:=bd_ok h;cases h;exact .two (.inl rfl) rfl b (Vw e)
 split at h
 ·obtain⟨x,t2,e,h⟩:=bd_ok h;cases h;exact .two (.inr rfl) rfl b (Vw e)
 ·have c:=zgJ g h;unfold xW at h;split at h
  ·obtain⟨v,a,_,h⟩:=bd_ok h;cases h;exact .term rfl c
  split at h
  ·obtain⟨v,a,_,h⟩:=bd_ok h;cases h;exact .term rfl c
  ·cases h;exact .term rfl c
theorem wW{n m:Nd}{ts t:List Tk}(h:W8 n ts = .ok (m,t)):m=n:=by
 obtain⟨u,a,_,h⟩:=bd_ok h;cases h;rfl
theorem zxl{f:List Tk->PR Nd}(hb:∀ts n t,f ts = .ok (n,t)->zaa n){ts t:List Tk}{n:Nd}(h:YZ f ts = .ok (n,t)):StmtG n:=by
 have r:∀k a ts n t,wS f k a ts = .ok (n,t)->∃op x y b,ZQ x/\ZQ y/\zaa b/\n=⟨k,op,0,a,⟨[x,y,b],o⟩⟩:=by
  intro k a ts n t h;obtain⟨m,c,p,h⟩:=bd_ok h;obtain⟨b,t2,C,h⟩:=bd_ok h;obtain⟨_,h0⟩:=znz p;obtain⟨x,y,z,g,i⟩:=zxj p;grind
 have at':∀k ts n t,atP k ts = .ok (n,t)->n.k_=k:=by
  intro k ts n t h;obtain⟨m,c,p,h⟩:=bd_ok h;obtain⟨u,t2,_,h⟩:=bd_ok h;obtain⟨v,t3,_,h⟩:=bd_ok h;obtain⟨u,t4,_,h⟩:=bd_ok h;cases h;rfl
 unfold YZ at h;split at h
 ·obtain⟨m,c,_,h⟩:=bd_ok h;rw[wW h];exact .leaf (.inl rfl)
 split at h
 ·obtain⟨m,c,e,h⟩:=bd_ok h;rw[wW h];exact .leaf (.inr (.inl (at' _ _ _ _ e)))
 split at h
 ·obtain⟨m,c,e,h⟩:=bd_ok h;rw[wW h];exact .leaf (.inr (.inr (.inl (at' _ _ _ _ e))))
 split at h
 ·obtain⟨m,c,e,h⟩:=bd_ok h;obtain⟨op,x,y,b,g,i,⟨w,s,rfl,h1⟩,rfl⟩:=r _ _ _ _ _ e;split at h
  ·obtain⟨b2,t2,l,h⟩:=bd_ok h;obtain⟨a2,l2,rfl,h2⟩:=hb _ _ _ l;cases h;exact .ite g i h1 h2
  ·cases h;exact .ite (b2:=[]) g i h1 je
 split at h
 ·obtain⟨op,x,y,b,g,i,⟨w,s,rfl,h1⟩,rfl⟩:=r _ _ _ _ _ h;exact .whl g i h1
 split at h
 ·split at h
  ·rw[wW h];exact .leaf (.inr (.inr (.inr (.inl rfl))))
  ·obtain⟨x,c,e,h⟩:=bd_ok h;rw[wW h];exact .ret (vd e)
 split at h
 ·rw[wW h];exact .leaf (.inr (.inr (.inr (.inr rfl))))
 split at h
 ·obtain⟨m,c,_,h⟩:=bd_ok h;obtain⟨ks,t2,e,h⟩:=bd_ok h;rw[wW h];exact .fork (zh2 e)
 obtain⟨m,c,_,h⟩:=bd_ok h;obtain⟨q,t2,e,h⟩:=bd_ok h;rw[wW h];unfold vG at e;split at e
 ·obtain⟨ks,t3,j,e⟩:=bd_ok e;cases e;exact .call ⟨rfl,zh2 j⟩
 split at e
 ·obtain⟨x,t3,j,e⟩:=bd_ok e;obtain⟨u,t4,_,e⟩:=bd_ok e;obtain⟨u,t5,_,e⟩:=bd_ok e;obtain⟨y,D,l,e⟩:=bd_ok e;cases e;exact .store (vd j) (vd l)
 ·obtain⟨u,t3,_,e⟩:=bd_ok e;obtain⟨x,t4,j,e⟩:=bd_ok e;cases e;exact .set (zxk j)
theorem zlY{one:List Tk->PR Nd}(b:∀ts n t,one ts = .ok (n,t)->StmtG n):∀(j:Nat) (acc:List Nd) (ts:List Tk) (l:List Nd) (t:List Tk),(∀x∈acc,StmtG x)->xG one j acc ts = .ok (l,t)->∀x∈l,StmtG x
 |0,acc,ts,l,t,h,e=>by cases e
 |j+1,acc,ts,l,t,h,e=>by
  unfold xG at e;split at e
  ·grind
  ·obtain⟨a,g,f,e⟩:=bd_ok e;refine zlY b j _ _ l t (λx c=>?_) e;grind
theorem zlZ:∀(r:Nat) (ts:List Tk) (n:Nd) (t:List Tk),yi r ts = .ok (n,t)->zaa n
 |0,ts,n,t,h=>by unfold yi at h;split at h<;>cases h
 |r+1,ts,n,t,h=>by
  unfold yi at h;obtain⟨u,a,_,h⟩:=bd_ok h;obtain⟨l,t2,e,h⟩:=bd_ok h;cases h;exact⟨_,l,rfl,zlY (λts n t=>zxl (zlZ r)) _ _ _ _ _ je e⟩
theorem zh3{ts t:List Tk}{n:Nd}(h:Wu ts = .ok (n,t)):vo n:=by
 unfold Wu at h;split at h
 ·rename_i c;cases h;exact⟨rfl,.inl ⟨XN c,rfl⟩⟩
 split at h
 ·rename_i c;obtain⟨k,b,e,h⟩:=bd_ok h;cases h;exact⟨rfl,.inr ⟨.inl (XN c),k,rfl,Vw e⟩⟩
 obtain⟨u,b,a,h⟩:=bd_ok h;split at h
 ·obtain⟨k,t2,e,h⟩:=bd_ok h;cases h;exact⟨rfl,.inr ⟨.inr (.inr rfl),k,rfl,Vw e⟩⟩
 ·obtain⟨k,t2,e,h⟩:=bd_ok h;cases h;refine⟨rfl,.inr ⟨.inr (.inl ?_),k,rfl,Vw e⟩⟩;unfold zY at a;split at a
  ·rename_i c;exact XN c
  ·cases a
theorem zuj{ts t:List Tk}{n:Nd}(h:xF ts = .ok (n,t)):zd2 n:=by
 obtain⟨m,a,_,h⟩:=bd_ok h;obtain⟨u,t2,_,h⟩:=bd_ok h;obtain⟨k,t3,e,h⟩:=bd_ok h;cases h;exact⟨rfl,k,rfl,zh3 e⟩
theorem zAs{ts t:List Tk}{n:Nd}{a:Int}(h:fnP a ts = .ok (n,t)):FnG n:=by
 rw[zrV] at h;obtain⟨m,j,_,h⟩:=bd_ok h;obtain⟨u,t2,_,h⟩:=bd_ok h;obtain⟨ps,t3,e,h⟩:=bd_ok h;obtain⟨r,t4,c,h⟩:=bd_ok h;obtain⟨b,t5,g,h⟩:=bd_ok h;cases h;obtain⟨k,l,f,e⟩:=bd_ok e;obtain⟨u,i,_,e⟩:=bd_ok e;cases e;refine⟨rfl,ps,r,b,rfl,?_,?_,?_,zlZ _ _ _ _ g⟩
 ·split at f
  ·cases f;simp
  ·exact zew (λ_ _ _=>zuj) f
 ·unfold zlQ at c;split at c
  ·split at c
   ·cases c
   ·exact .inr (zh3 c)
  ·cases c;exact .inl ⟨rfl,rfl⟩
 ·unfold zlQ at c;split at c
  ·split at c
   ·cases c
   ·exact(zh3 c).1
  grind
theorem zfM:∀(j:Nat) (acc:List Nd) (ts:List Tk) (l:List Nd) (t:List Tk),(∀x∈acc,wE x\/FnG x)->YD j acc ts = .ok (l,t)->∀x∈l,wE x\/FnG x
 |0,acc,ts,l,t,h,e=>by cases e
 |j+1,acc,ts,l,t,h,e=>by
  have b:∀a,(wE a\/FnG a)->∀x∈acc++[a],wE x\/FnG x:=λa i x g=>by
   grind
  unfold YD at e;split at e
  ·grind
  split at e
  ·obtain⟨a,f,c,e⟩:=bd_ok e;exact zfM j _ _ l t (b a (.inr (zAs c))) e
  ·obtain⟨u,t0,_,e⟩:=bd_ok e;obtain⟨a,f,c,e⟩:=bd_ok e;exact zfM j _ _ l t (b a (.inl (zyS c))) e
structure UnitG(n:Nd):Prop where
 eq:∃l,n=⟨0,lit [],0,0,mkS l⟩
 kid:∀k∈n.K_.xs,wE k\/FnG k
 size:zl n<=4096
theorem zl0{s:Ut}(h:(Xc s).2.2=0):UnitG (Xc s).1:=by
 unfold Xc at h |-
 split at h
 ·grind
 rename_i c;rw[jx c];have b:∀e,YD (Z2 s).2.2.xs.length [] (Z2 s).2.2.xs = .error e->e.2≠0:=by
  intro e i h2;have a:(Z2 s).2.1=0:=by
   grind
  obtain⟨g,j⟩:=zdU a;have f:GK ⟨(Z2 s).2.2.xs.map toR,o⟩ 0 (Z2 s).2.2.xs:=⟨rfl,g,by have:=g.len;omega,zlS s⟩;have:=zgV (z1:=(0,lit [],0,0)) (z2:=(0,lit [],0,0)) _ _ 0 [] f (by have:=g.len;omega) (UD _) (by have:=g.len;simp;omega);grind
 cases e:YD (Z2 s).2.2.xs.length [] (Z2 s).2.2.xs with
 |error er=>grind
 |ok p=>
  obtain⟨l,t⟩:=p;rw[e] at h;simp only at h |-
  split at h
  ·simp at h
  ·rename_i hs;rw[jx hs];exact⟨⟨l,rfl⟩,zfM _ _ _ l t je e,by rw[zk];show zd l+1<=4096;omega⟩
theorem X5:∀{l:List Nd}{x:Nd},x∈l->zl x<=zd l
 |y::l,x,h=>by
  rcases UU.1 h with rfl | h
  ·simp[zd]
  ·have:=X5 h;simp only[zd];omega
theorem Wx:∀l:List Nd,l.length<=zd l
 |[]=>je
 |x::l=>by have:=z7 x;have:=Wx l;simp only[zd,jz];omega
theorem Zm{n:Nd}:n.K_.xs.length+1<=zl n:=by rw[zk];have:=Wx n.K_.xs;omega
theorem ZY{n k:Nd}(h:k∈n.K_.xs):zl k+1<=zl n:=by rw[zk n];have:=X5 h;omega
abbrev PP:=qh
abbrev PSg:=qf
theorem zuk(l:List Ut)(s:Ut)(a:l.length<=1000):q2y (⟨l,o⟩,s)=d (idx (λw=>decide (s=w)) l):=by
 have:=wh (f:=q1q) (xs:=l) (p:=λw=>decide (s=w)) (st:=λi=>(⟨l,o⟩,s,Sl.len (⟨l,o⟩:Sl Ut),(i:Int))) (yes:=λi =>.inl (i:Int)) (no :=.inr ())
  (λi hi=>by
   unfold q1q;simp only[jl];simp only[zh,ze (s:=⟨l,o⟩) hi,jj];rw[jv Zd,zu Zd]
   split<;>rfl)
  (by unfold q1q;simp only[jl];rw[jx (by show¬ ((l.length:Int) < (l.length:Int));omega)])
 show((lpO q1q (⟨l,o⟩,s,Sl.len (⟨l,o⟩:Sl Ut),((0:Nat):Int))).bind _)=_;rw[this];unfold idx;cases l.findIdx? _<;>rfl
def zpt:List Ut:=[lit [],lit [105,110,116],lit [111,119,110],lit [38],lit [38,109,117,116]]
def mI(s:Ut):Int:=idx (λw=>decide (s=w)) zpt
def p0:PP:=⟨lit [],0,0⟩
def X6(t:List PT)(n:Nd):Uv PP:=
 if n.K_.xs=[] then d ⟨lit [],mI n.T_,0⟩ else if idT (zW n).T_ t < 0 then none else d ⟨lit [],mI n.T_,idT (zW n).T_ t⟩
def idP(n:Ut)(l:List PP):Int:=idx (λx=>decide (x.N_=n)) l
def idM(ty:Int)(l:List PP):Int:=idx (λx=>decide (1 < x.M_) && decide (x.t_=ty)) l
def XO(t:List PT)(i:Int):Int:=(t[i.toNat]?).elim 0 qa.S_
def ya(t:List PT)(acc:List PP)(k:Nd):Except Er (List PP):=
 if 0<=idP k.T_ acc then .error (k.a_,30) else match X6 t (zW k) with
  |none =>.error ((zW k).a_,31)
  |some p=>if(1 < p.M_/\XO t p.t_≠0)/\0<=idM p.t_ acc then .error ((zW k).a_,34) else .ok (acc++[⟨k.T_,p.M_,p.t_⟩])
def zd3(n:Nd)(i:Nat):Nd:=n.K_.xs.getD i vn
def xb(t:List PT)(n:Nd):Except Er PSg:=
 let c:=n.K_.xs.length - 2
 if 8 < c then .error (n.a_,22) else((n.K_.xs.take c).foldlM (ya t) []).bind λps=>match X6 t (zd3 n c) with
  |none =>.error ((zd3 n c).a_,31)
  |some r =>.ok ⟨n.T_,mkS ps,r⟩
def zcF(t:List PT)(l:List Nd):Except Er (List PSg):=l.foldlM (λs k=>if k.k_=6 then(xb t k).bind λx =>.ok (s++[x]) else .ok s) []
theorem zgZ{n:Nd}(h:vo n\/zd1 n):n.K_=nilS\/∃k,n.K_=⟨[k],o⟩:=by
 rcases h with⟨_,⟨_,h⟩ | ⟨_,k,h,_⟩⟩ | ⟨_,h⟩ | ⟨_,⟨_,h⟩ | ⟨_,k,h,_⟩⟩
 ·exact .inl h
 all_goals grind
theorem zl1{t:Sl PT}{n:Nd}(h:vo n\/zd1 n)(b:t.xs.length<=100000):qba (n,t)=d (match X6 t.xs n with | some p=>(p,0) | none=>(p0,31)):=by
 unfold qba qge X6;rw[show(Sl.mk [lit [],lit [105,110,116],lit [111,119,110],lit [38],lit [38,109,117,116]] true:Sl Ut)=⟨zpt,o⟩ from rfl,zuk zpt _ jI];simp only[jj];rcases zgZ h with a | ⟨k,a⟩
 ·simp (decide:=true) only [a,show(nilS:Sl Nd).len=0 from rfl,jp,jq,jj,jm];rfl
 ·have e0:zW n=k:=by unfold zW;rw[a];rfl
  rw[e0];simp (decide:=true) only [a,show Sl.len (⟨[k],o⟩:Sl Nd)=1 from rfl,show za (⟨[k],o⟩:Sl Nd) 0=d k from rfl,jp,jq,jj,zcD t _ (Zd:t.xs.length<=1000000),jl];by_cases h2:idT k.T_ t.xs < 0
  ·simp only[h2,jq,jj,jo];rfl
  ·simp only[h2,jp,jj,jm];rfl
theorem zr4 {α γ:Type}{f:α×γ->Uv (Bool×γ)}{p:α->Bool}{c:γ}(g:∀x,f (x,c)=d (p x,c)) (s:Sl α) (hs:s.xs.length<=1000000) {body:Int×Int×Sl α×γ->Uv (Step (Int×Int×Sl α×γ) (Int×Sl α×γ⊕Sl α×γ))}
    (hb:∀a,body a=if decide (a.2.1 < a.1)=o then(za a.2.2.1 a.2.1).bind λl=>(za a.2.2.1 a.2.1).bind λh=>(f (h,a.2.2.2)).bind λb=>if b.1=o then d (.done (.inl (a.2.1,a.2.2.1,b.2))) else d (.next (a.1,Uw (a.2.1+1),a.2.2.1,b.2)) else d (.done (.inr a.2.2))) :
    ((lpO body (s.len,0,s,c)).bind λe=>Sum.elim (λk=>d k) (λj=>d (-1,j)) e)=d (idx p s.xs,s,c):=by
 have:=wh (f:=body) (xs:=s.xs) (p:=p) (st:=λi=>(s.len,(i:Int),s,c)) (yes:=λi =>.inl ((i:Int),s,c)) (no :=.inr (s,c))
  (λi hi=>by
    rw[hb];simp only[jl];simp only[zh,ze hi,jj,g];rw[jv Zd,zu Zd]
    split<;>rfl)
  (by rw[hb];simp only[jl];rw[jx (by rw[zh];omega)])
 rw[show((0:Int))=((0:Nat):Int) from rfl,this];unfold idx;cases s.xs.findIdx? p<;>rfl
theorem znB(l:Sl PP)(q:PP)(a:l.xs.length<=1000000):q5t (l,q)=d (decide (0<=idP q.N_ l.xs),l,q):=by
 show(((lpO (qc7 qbc) (l.len,0,l,q)).bind _).bind _)=_;rw[zr4 (body:=qc7 qbc) (f:=qbc) (p:=λx:PP=>decide (x.N_=q.N_)) (λx=>rfl) l a (λy=>rfl)];rfl
theorem zxm(l:Sl PP)(q:PP)(a:l.xs.length<=1000000):q5u (l,q)=d (decide (0<=idM q.t_ l.xs),l,q):=by
 show(((lpO (qc8 q9i) (l.len,0,l,q)).bind _).bind _)=_;rw[zr4 (body:=qc8 q9i) (f:=q9i) (p:=λx:PP=>decide (1 < x.M_) && decide (x.t_=q.t_)) (λx=>?_) l a (λy=>rfl)];rfl;unfold q9i qfi;grind
theorem zr5{t:Sl PT}{p:PP}(h:0<=p.t_/\p.t_ < t.xs.length\/p.M_<=1):q89 (p,t)=d (decide (1 < p.M_/\XO t.xs p.t_≠0)):=by
 unfold q89 qer;by_cases h1:1 < p.M_
 ·obtain⟨h2,c⟩ | h:=h
  ·obtain⟨j,b⟩:∃j:Nat,p.t_=j:=⟨_,(D6 h2).symm⟩
   have a:j < t.xs.length:=Zd
   simp only[h1,js,jq,b,ze a,jj,XO,Int.toNat_natCast,UC a,Option.elim_some,U9]
  ·omega
 ·simp[h1]
theorem zAt(n:Nd)(h:n.K_=nilS)(a:vo n\/zd1 n):mI n.T_<=1:=by
 have a0:mI (lit [])=0:=ja
 have b:mI (lit [105,110,116])=1:=ja
 rcases a with⟨_,⟨h1,_⟩ | ⟨_,k,h2,_⟩⟩ | ⟨h1,_⟩ | ⟨_,⟨h1,_⟩ | ⟨_,k,h2,_⟩⟩
 ·grind
 all_goals grind
theorem za7{t:List PT}{n:Nd}{p:PP}(a:vo n\/zd1 n)(h:X6 t n=d p):0<=p.t_/\p.t_ < t.length\/p.M_<=1:=by
 unfold X6 at h;split at h
 ·rename_i b;cases h;refine .inr (zAt n ?_ a);rcases zgZ a with h | ⟨k,h⟩
  all_goals grind
 split at h
 ·cases h
 ·cases h;have:idT (zW n).T_ t < t.length:=yC.2.1;grind
abbrev SgH:=Ut×Ut×Int×Int
noncomputable abbrev zpu:=qe6 qba q5t q89 q5u
theorem zul {t:Sl PT}(u:t.xs.length<=20000) {ks:Sl Nd}(v:ks.xs.length<=20000) (q:∀p∈ks.xs,zd2 p) (b:Int) (n:Nd) (z h:SgH) :
    lpO zpu (t,b,ks,ks.len,0,n,z,h,mkS [])=d (match ks.xs.foldlM (ya t.xs) [] with | .error e =>.inl (e.1,e.2,lit [],lit [],0,0) | .ok l =>.inr (t,b,n,z,h,mkS l)):=by
 have:=zlT (f:=zpu) (xs:=ks.xs) (step:=ya t.xs) (st:=λi a=>(t,b,ks,ks.len,(i:Int),n,z,h,mkS a)) (fin:=λa =>.inr (t,b,n,z,h,mkS a)) (er:=λe =>.inl (e.1,e.2,lit [],lit [],0,0)) (I:=λi a=>a.length=i)
  (λi hi a j=>by
    unfold zpu qe6;have w:=zu (k:=i) Zd;obtain⟨_,m,g,c⟩:=q _ (gc hi);have e0:zW ks.xs[i]=m:=by unfold zW;rw[g];rfl
    simp only[jl,zm];rw[jv (by rw[zh];omega),ze hi];have g0:za ks.xs[i].K_ 0=d m:=by rw[g];rfl
    simp only[jj,g0,zm,zl1 (.inl c) (Zd:t.xs.length<=100000),ya,e0];cases s:X6 t.xs m with
    |none=>
     simp only[znB (mkS a) _ (Zd:a.length<=1000000),jj,show(mkS a).xs=a from rfl,jl];by_cases h1:0<=idP ks.xs[i].T_ a
     ·grind
     grind
    |some p=>
     simp only[znB (mkS a) _ (Zd:a.length<=1000000),jj,show(mkS a).xs=a from rfl,jl];by_cases h1:0<=idP ks.xs[i].T_ a
     ·grind
     simp (decide:=true) only [h1,jp,Dc];rw[zr5 (p:=⟨ks.xs[i].T_,p.M_,p.t_⟩) (show 0<=p.t_/\p.t_ < t.xs.length\/p.M_<=1 from za7 (.inl c) s)];simp only[jj,jl];by_cases h2:1 < p.M_/\XO t.xs p.t_≠0
     · simp only[eq_true h2,jq,U9,zxm (mkS a) _ (Zd:a.length<=1000000),jj,show(mkS a).xs=a from rfl,jl];by_cases r:0<=idM p.t_ a
       ·grind
       ·simp only[r,jp,jj,jm];rw[xZ Zd ji];grind
     · simp only[eq_false h2,jp,false_and,jj,jk,jm];rw[xZ Zd ji]
       grind)
  (λi hi a a' j e=>by
    unfold ya at e
    grind)
  (λa _=>by
    unfold zpu qe6;simp only[jl,zm]
    rw[jx (by rw[zh];omega)])
  (a:=[]) rfl
 grind
theorem znC{n:Nd}(h:FnG n):∃ps r b,n.K_=⟨ps++[r,b],o⟩/\n.K_.xs.length - 2=ps.length/\n.K_.xs.take (n.K_.xs.length - 2)=ps/\zd3 n (n.K_.xs.length - 2)=r/\(∀p∈ps,zd2 p)/\zd1 r/\zaa b:=by
 obtain⟨_,ps,r,b,a,hp,e,_,hb⟩:=h;have c:n.K_.xs.length - 2=ps.length:=by rw[a];simp
 refine⟨ps,r,b,a,c,?_,?_,hp,e,hb⟩
 ·grind
 ·unfold zd3;grind
theorem zyV {t:Sl PT}{n:Nd}(k:FnG n) (j:t.xs.length<=20000) (v:n.K_.xs.length<=20000) :
    qc9 (n,t)=d (match xb t.xs n with | .error e=>(⟨lit [],Sl.mk [] B,p0⟩,e.1,e.2) | .ok s=>(s,0,0)):=by
 obtain⟨ps,r,b,h,m,f,u,hp,c,_⟩:=znC k;unfold qc9 qh1 xb;have q:Uw (n.K_.len - 2)=(ps.length:Int):=by
  have:n.K_.len=(ps.length:Int)+2:=by rw[h];simp[Sl.len]
  rw[this,zF jE jE];omega
 have hpl:ps.length<=20000:=jE
 simp only[q,jl,f,m];rw[(jE:n.K_.xs.take ps.length=ps)];have g:zd3 n ps.length=r:=jE
 by_cases i:8 < ps.length
 ·simp only[i,(Zd:(8:Int) < (ps.length:Int)),jq];rfl
 simp only[i,(Zd:¬ ((8:Int) < (ps.length:Int))),jp];rw[Yr Zd Zd jE];simp only[jj,zm,Int.toNat_zero,Dk,Int.toNat_natCast];rw[(jE:n.K_.xs.take ps.length=ps)];have:=zul j (ks:=⟨ps,n.K_.nn⟩) hpl hp (ps.length:Int) n (lit [],lit [],0,0) (n.T_,lit [],0,0);rw[show(Sl.mk [] false:Sl PP)=mkS [] from rfl,show lpO (qe6 qba q5t q89 q5u) _=_ from this];simp only[jj];cases ps.foldlM (ya t.xs) [] with
 |error e=>rfl
 |ok l=>
  simp only[jm,A];have a:za n.K_ (ps.length:Int)=d r:=by rw[h];rw[wU];simp
  simp only[a,jj,zm,zl1 (.inr c) (Zd:t.xs.length<=100000),g];cases X6 t.xs r with
  |none=>rfl
  |some p=>rfl
theorem zxn {t:Sl PT}{n:Nd}(q:∀k∈n.K_.xs,k.k_=6->FnG k/\k.K_.xs.length<=20000) (p:t.xs.length<=20000) (C:n.K_.xs.length<=20000) :
    q7v (n,t)=d (match zcF t.xs n.K_.xs with | .error e=>(e.1,e.2,Sl.mk [] B) | .ok s=>(0,0,mkS s)):=by
 have j:∀k e,xb t.xs k = .error e->e.2≠0:=by
  intro k e h;unfold xb at h;simp only at h;split at h
  ·cases h;simp
  generalize k.K_.xs.take (k.K_.xs.length - 2)=ps at h;have w:∀(ps:List Nd) a e,ps.foldlM (ya t.xs) a = .error e->e.2≠0:=by
   intro ps
   induction ps with
   |nil=>intro a e h;cases h
   |cons x l v=>
    intro a e h;rw[List.foldlM_cons] at h;cases c:ya t.xs a x with
    |ok b=>rw[c] at h;exact v b e h
    |error er=>
     rw[c] at h;cases h;unfold ya at c;split at c
     ·cases c;simp
     grind
  cases g:ps.foldlM (ya t.xs) [] with
  |error er=>rw[g] at h;cases h;grind
  |ok l=>
   rw[g] at h;simp only[A] at h;grind
 have:=zaA (f:=qdc qc9) (xs:=n.K_.xs) (step:=λs k=>if k.k_=6 then(xb t.xs k).bind λx =>.ok (s++[x]) else .ok s) (st:=λi a=>(t,n.K_,n.K_.len,(i:Int),mkS a)) (fin:=λa =>.inr (mkS a)) (er:=λ_ e =>.inl e) (I:=λi a=>a.length<=i)
  (λi hi a u=>by
    unfold qdc;have z:=zu (k:=i) Zd;simp only[jl,zm];rw[jv (by rw[zh];omega),ze hi];simp only[jj,zm];by_cases h1:n.K_.xs[i].k_=6
    · obtain⟨r,g2⟩:=q _ (gc hi) h1;simp only[h1,Dc,jt,jp,jq,zyV r p g2,jj];cases e:xb t.xs n.K_.xs[i] with
      |error y=>have:=j _ _ e;simp only[this,ju,jq,jj,jm,A]
      |ok x=>
       simp only[jt,jp,A];rw[xZ Zd ji];grind
    grind)
  (λi hi a a' u e=>by
    split at e
    · cases g:xb t.xs n.K_.xs[i] with
      |error er=>rw[g] at e;cases e
      |ok x=>rw[g] at e;cases e;simp;omega
    grind)
  (λa _=>by
    unfold qdc;simp only[jl]
    rw[jx (by rw[zh];omega)])
  (a:=[]) je
 unfold q7v qgf;show((lpO (qdc qc9) (t,n.K_,n.K_.len,((0:Nat):Int),mkS [])).bind _)=_;unfold zcF;cases e:n.K_.xs.foldlM (m:=Except Er) (λs k=>if k.k_=6 then(xb t.xs k).bind λx =>.ok (s++[x]) else .ok s) [] with
 |error er=>
  grind
 |ok s=>
  grind
abbrev RP:=qi
abbrev RSg:=qj
def rP(x:PP):RP:=⟨x.N_,x.M_,x.t_⟩
def rG(x:PSg):RSg:=⟨x.N_,slm rP x.P_,rP x.R_⟩
theorem zl2{t:List PT}{n:Nd}(h:vo n\/zd1 n)(q:t.length<=100000):q2d (rN n,mkS (t.map rT))=d (match X6 t n with | some p=>(rP p,o) | none=>(rP p0,B)):=by
 have j:mI (lit [])=0:=ja
 have e:mI (lit [105,110,116])=1:=ja
 have m:mI (lit [111,119,110])=2:=ja
 have c:mI (lit [38])=3:=ja
 have i:mI (lit [38,109,117,116])=4:=ja
 obtain⟨f,b,l,a,ks⟩:=n;have g:(b=lit []\/b=lit [105,110,116])/\ks=nilS\/(b=lit [111,119,110]\/b=lit [38]\/b=lit [38,109,117,116])/\∃k,ks=⟨[k],o⟩:=by
  rcases h with⟨_,⟨h1,h2⟩ | ⟨h1,k,h2,_⟩⟩ | ⟨h1,h2⟩ | ⟨_,⟨h1,h2⟩ | ⟨h1,k,h2,_⟩⟩
  ·grind
  ·grind
  all_goals grind
 unfold q2d q9z X6;have g0:∀(k:Nd),za (rN ⟨f,b,l,a,⟨[k],o⟩⟩).K_ 0=d (rN k):=λk=>by rw[zJ];rfl
 obtain⟨rfl | rfl,rfl⟩ | ⟨rfl | rfl | rfl,k,rfl⟩:=g
 ·simp (decide:=true) only [z6,Z9,zj,jq,jp,jj,jm,j];rfl
 ·simp (decide:=true) only [z6,Z9,zj,jq,jp,jj,jm,e];rfl
 all_goals
  simp (decide:=true) only [z6,Z9,zj,jq,jp,jj,jm,m,c,i,g0,zaB t _ (Zd:t.length<=1000000),zW,Dj,jl];by_cases h2:idT k.T_ t < 0
  ·simp only[h2,jq,jj,jo];rfl
  ·simp only[h2,jp,jj,jm];rfl
noncomputable abbrev og0:=q6h q2d
noncomputable abbrev og1:=q6i q2d
noncomputable abbrev og2:=q6j q2d
theorem zr6{acc:List PP}{ks:List Nd}(h:acc.map qh.N_=ks.map q8.T_)(n:Ut):idP n acc=idN n ks:=by
 have h1:=zny qh.N_ (λx=>decide (x=n)) acc;have h2:=zny q8.T_ (λx=>decide (x=n)) ks;unfold idP idN;grind
theorem zyW {n:Nd}{i:Nat}(hi:i<=n.K_.xs.length) (g:n.K_.xs.length<=20000) (T:Sl RTy) (c:Int) (z h:SgH) (k:Nd) (s:Sl RP) :
    lpO og0 (T,c,(i:Int),0,rN n,z,h,rN k,s)=d (if 0<=idN k.T_ (n.K_.xs.take i) then .inl (k.a_,30,lit [],lit [],0,0) else .inr (T,c,(i:Int),rN n,z,h,rN k,s)):=by
 have a:(n.K_.xs.take i).length=i:=ji
 have:=wh (f:=og0) (xs:=n.K_.xs.take i) (p:=λx=>decide (x.T_=k.T_)) (st:=λj=>(T,c,(i:Int),(j:Int),rN n,z,h,rN k,s)) (yes:=λ_ =>.inl (k.a_,30,lit [],lit [],0,0)) (no :=.inr (T,c,(i:Int),rN n,z,h,rN k,s))
  (λj e=>by
    rw[a] at e;unfold og0 q6h;have b:za (rN n).K_ (j:Int)=d (rN n.K_.xs[j]):=by rw[zJ,ze ji];simp
    simp only[jl,zj];rw[jv Zd,b];simp only[jj,z6,Y1,List.getElem_take];rw[zu Zd]
    grind)
  (by unfold og0 q6h;simp only[jl,zj,a];grind)
 rw[show(0:Int)=((0:Nat):Int) from rfl,this];unfold idN idx;cases(n.K_.xs.take i).findIdx? _ with
 |none=>simp
 |some j=>simp
theorem zyX {t:List PT}{acc:List PP}(y:acc.length<=20000) {m:Nd}{p:PP}(v:0<=p.t_/\p.t_ < t.length\/p.M_<=1) (c:Int) (n:RNd) (z h:SgH) {k:RNd}(s:za k.K_ 0=d (rN m)) :
    lpO og1 (mkS (t.map rT),c,(acc.length:Int),0,n,z,h,k,rP p,mkS (acc.map rP))=d (if(1 < p.M_/\XO t p.t_≠0)/\0<=idM p.t_ acc then .inl (m.a_,34,lit [],lit [],0,0) else .inr (mkS (t.map rT),c,(acc.length:Int),n,z,h,k,rP p,mkS (acc.map rP))):=by
 have:=wh (f:=og1) (xs:=acc) (p:=λx=>decide (1 < p.M_) && (decide (1 < x.M_) && (decide (p.t_=x.t_) && decide (XO t p.t_≠0)))) (st:=λj=>(mkS (t.map rT),c,(acc.length:Int),(j:Int),n,z,h,k,rP p,mkS (acc.map rP))) (yes:=λ_ =>.inl (m.a_,34,lit [],lit [],0,0)) (no :=.inr (mkS (t.map rT),c,(acc.length:Int),n,z,h,k,rP p,mkS (acc.map rP)))
  (λj r=>by
    unfold og1 q6i;simp only[jl,zj];rw[jv Zd,Xd r];have g:=zu (k:=j) Zd;simp only[jj,rP];by_cases h1:1 < p.M_
    case neg=>grind
    by_cases h2:1 < acc[j].M_
    case neg=>grind
    by_cases i:p.t_=acc[j].t_
    case neg=>simp only[h1,h2,i,jp,jq,jr,Bool.and_false,Bool.false_and,jk,jj,g,rP]
    obtain⟨e,w⟩ | e:=v
    case inr=>omega
    obtain⟨q,l⟩:∃q:Nat,p.t_=q:=⟨_,(D6 e).symm⟩
    have a:q < t.length:=Zd
    have hs:XO t p.t_=t[q].S_:=by unfold XO;grind
    simp only[h1,h2,eq_true i,jq,js,Bool.true_and];rw[hs,show za (mkS (t.map rT)) p.t_=d (rT t[q]) by rw[l];exact Xd a];simp only[jj,rT,jl,g];by_cases u:t[q].S_=0
    ·grind
    ·simp only[u,Dc,ju,jq,js,s,jj,Y1])
  (by unfold og1 q6i;simp only[jl,zj];grind)
 rw[show(0:Int)=((0:Nat):Int) from rfl,this];by_cases b:1 < p.M_/\XO t p.t_≠0
 · simp only[eq_true b.1,eq_true b.2,and_self,U9];unfold idM idx
   rw[show(λx:PP=>decide True && (decide (1 < x.M_) && (decide (p.t_=x.t_) && decide True)))=(λx:PP=>decide (1 < x.M_) && decide (x.t_=p.t_)) from by
    grind]
   cases acc.findIdx? _ with
   |none=>simp
   |some j=>simp[b.2]
 · have:acc.findIdx? (λx=>decide (1 < p.M_) && (decide (1 < x.M_) && (decide (p.t_=x.t_) && decide (XO t p.t_≠0))))=none:=by
     rw[List.findIdx?_eq_none_iff];intro x _;simp only[Bool.and_eq_false_iff,decide_eq_false_iff_not];grind
   grind
theorem zAu{acc:List PP}{x:PP}(h:acc.length<=50000):zo 32 (mkS (acc.map rP)) [rP x]=d (mkS ((acc++[x]).map rP)):=by
 rw[xZ Zd ji];simp
theorem zyY {t:List PT}(C:t.length<=20000) {n:Nd}{ps:List Nd}{c:Nat}(E:c<=n.K_.xs.length) (v:n.K_.xs.take c=ps) (x:n.K_.xs.length<=20000) (u:∀p∈ps,zd2 p) (z h:SgH) :
    lpO og2 (mkS (t.map rT),(c:Int),0,rN n,z,h,mkS [])=d (match ps.foldlM (ya t) [] with | .error e =>.inl (e.1,e.2,lit [],lit [],0,0) | .ok l =>.inr (mkS (t.map rT),(c:Int),rN n,z,h,mkS (l.map rP))):=by
 have w:ps.length=c:=jE
 have:=zlT (f:=og2) (xs:=ps) (step:=ya t) (st:=λi a=>(mkS (t.map rT),(c:Int),(i:Int),rN n,z,h,mkS (a.map rP))) (fin:=λa =>.inr (mkS (t.map rT),(c:Int),rN n,z,h,mkS (a.map rP))) (er:=λe =>.inl (e.1,e.2,lit [],lit [],0,0)) (I:=λi a=>a.map qh.N_=(n.K_.xs.take i).map q8.T_)
  (λi hi a j=>by
    unfold og2 q6j;have D:=zu (k:=i) Zd;have q:a.length=i:=by have:=congrArg List.length j;grind
    have b:ps[i]=n.K_.xs[i]:=jE
    obtain⟨_,m,s,g⟩:=u _ (gc hi);have e0:zW ps[i]=m:=by unfold zW;rw[s];rfl
    have r:za (rN n).K_ (i:Int)=d (rN ps[i]):=by rw[zJ,ze ji];simp[b]
    have g0:za (rN ps[i]).K_ 0=d (rN m):=by rw[zJ,s];rfl
    simp only[jl,zj];rw[jv Zd,r];simp only[jj];rw[show lpO (q6h q2d) _=_ from zyW (n:=n) (i:=i) Zd x (mkS (t.map rT)) (c:Int) z h ps[i] (mkS (a.map rP)),<- zr6 j];simp only[jj,ya,e0];by_cases h1:0<=idP ps[i].T_ a
    ·grind
    simp only[h1,jp,jm,g0,jj,zl2 (.inl g) (Zd:t.length<=100000)];cases y:X6 t m with
    |none=>simp only[Dy,jq,jj,jo,Y1]
    |some p=>
     simp only[Dg,jk,jp];have h1':=zyX (t:=t) (acc:=a) Zd (za7 (.inl g) y) (c:Int) (rN n) z h g0;rw[q] at h1';rw[show lpO (q6i q2d) _=_ from h1'];simp only[jj];by_cases h2:(1 < p.M_/\XO t p.t_≠0)/\0<=idM p.t_ a
     ·grind
     · simp only[eq_false h2,jp,jm,jj,z6,rP];rw[show(⟨ps[i].T_,p.M_,p.t_⟩:RP)=rP ⟨ps[i].T_,p.M_,p.t_⟩ from rfl,zAu Zd]
       grind)
  (λi hi a a' j e=>by
    have b:ps[i]=n.K_.xs[i]:=jE
    unfold ya at e;split at e
    ·cases e
    split at e
    ·cases e
    split at e
    ·cases e
    · cases e
      rw[List.take_succ_eq_append_getElem (Zd:i < n.K_.xs.length),D2,D2,j,<- b];rfl)
  (λa _=>by
    unfold og2 q6j;simp only[jl,zj,w]
    grind)
  (a:=[]) je
 rw[show(0:Int)=((0:Nat):Int) from rfl,show(mkS []:Sl RP)=mkS (([]:List PP).map rP) from rfl,this];grind
theorem zxo {t:List PT}{n:Nd}(m:FnG n) (k:t.length<=20000) (v:n.K_.xs.length<=20000) :
    q4q (rN n,mkS (t.map rT))=d (match xb t n with | .error e=>(⟨lit [],Sl.mk [] B,⟨lit [],0,0⟩⟩,e.1,e.2) | .ok s=>(rG s,0,0)):=by
 obtain⟨ps,r,b,h,q,w,x,hp,g,_⟩:=znC m;unfold q4q qaz xb;have u:Uw ((rN n).K_.len - 2)=(ps.length:Int):=by
  have:(rN n).K_.len=(ps.length:Int)+2:=by rw[zJ,h];simp[Sl.len]
  rw[this,zF jE jE];omega
 have hpl:ps.length<=20000:=jE
 have a:n.K_.xs.take ps.length=ps:=jE
 simp only[u,jl,q,zj,a];have i:zd3 n ps.length=r:=jE
 by_cases j:8 < ps.length
 ·simp only[j,(Zd:(8:Int) < (ps.length:Int)),jq,Y1]
 simp only[j,(Zd:¬ ((8:Int) < (ps.length:Int))),jp];rw[show(Sl.mk [] false:Sl RP)=mkS [] from rfl,show lpO (q6j q2d) _=_ from zyY k (n:=n) (ps:=ps) (c:=ps.length) (by rw[h];simp) a v hp (lit [],lit [],0,0) ((rN n).T_,lit [],0,0)];simp only[jj,A];cases ps.foldlM (ya t) [] with
 |error e=>rfl
 |ok l=>
  simp only[jm];have f:za (rN n).K_ (ps.length:Int)=d (rN r):=by rw[zJ,h];rw[wU];simp
  simp only[f,jj,zl2 (.inr g) (Zd:t.length<=100000),i];cases X6 t r with
  |none=>simp only[Dy,jq,Y1]
  |some p=>simp only[Dg,jk,jp,rG,zr1,z6]
theorem zxp{t:List PT}{k:Nd}{e:Er}(h:xb t k = .error e):e.2≠0:=by
 unfold xb at h;simp only at h;split at h
 ·cases h;simp
 generalize k.K_.xs.take (k.K_.xs.length - 2)=ps at h;have i:∀(ps:List Nd) a e,ps.foldlM (ya t) a = .error e->e.2≠0:=by
  intro ps
  induction ps with
  |nil=>intro a e h;cases h
  |cons x l g=>
   intro a e h;rw[List.foldlM_cons] at h;cases c:ya t a x with
   |ok b=>rw[c] at h;exact g b e h
   |error er=>
    rw[c] at h;cases h;unfold ya at c;split at c
    all_goals grind
 cases f:ps.foldlM (ya t) [] with
 |error er=>rw[f] at h;cases h;grind
 |ok l=>
  rw[f] at h;simp only[A] at h;grind
theorem zum {t:List PT}{n:Nd}(h:∀k∈n.K_.xs,k.k_=6->FnG k/\k.K_.xs.length<=20000) (g:t.length<=20000) (r:n.K_.xs.length<=20000) :
    q31 (rN n,mkS (t.map rT))=d (match zcF t n.K_.xs with | .error e=>(e.1,e.2,Sl.mk [] B) | .ok s=>(0,0,mkS (s.map rG))):=by
 have:=zaA (f:=q60 q4q) (xs:=n.K_.xs) (step:=λs k=>if k.k_=6 then(xb t k).bind λx =>.ok (s++[x]) else .ok s) (st:=λi a=>(mkS (t.map rT),(i:Int),rN n,mkS (a.map rG))) (fin:=λa =>.inr (mkS (a.map rG))) (er:=λ_ e =>.inl e) (I:=λi a=>a.length<=i)
  (λi hi a l=>by
    unfold q60;have q:=zu (k:=i) Zd;have b:za (rN n).K_ (i:Int)=d (rN n.K_.xs[i]):=by rw[zJ,ze (by simpa using hi)];simp
    simp only[jl,zj];rw[jv (by rw[zJ];simp[Sl.len];omega),b];simp only[jj,ZU];by_cases h1:n.K_.xs[i].k_=6
    · obtain⟨j,g2⟩:=h _ (gc hi) h1;simp only[h1,Dc,jt,jp,jq,zxo j g g2,jj];cases e:xb t n.K_.xs[i] with
      |error p=>have:=zxp e;simp only[this,ju,jq,jj,jm,A]
      |ok x=>
       simp only[jt,jp,A];rw[xZ Zd ji];grind
    grind)
  (λi hi a a' l e=>by
    split at e
    · cases c:xb t n.K_.xs[i] with
      |error er=>rw[c] at e;cases e
      |ok x=>rw[c] at e;cases e;simp;omega
    grind)
  (λa _=>by
    unfold q60;simp only[jl]
    rw[jx (by rw[zJ];simp[Sl.len])])
  (a:=[]) je
 unfold q31 qa0;simp only[zj];show((lpO (q60 q4q) (mkS (t.map rT),((0:Nat):Int),rN n,mkS (([]:List PSg).map rG))).bind _)=_;unfold zcF;cases e:n.K_.xs.foldlM (m:=Except Er) (λs k=>if k.k_=6 then(xb t k).bind λx =>.ok (s++[x]) else .ok s) [] with
 |error er=>
  grind
 |ok s=>
  grind
end Go.Px
