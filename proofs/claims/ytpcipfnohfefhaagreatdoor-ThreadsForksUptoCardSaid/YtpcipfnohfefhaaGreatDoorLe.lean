/- Part Le: Px22PU Px22PV Px22PW. -/
import Derived.Test.YtpcipfnohfefhaaGreatDoorLd
set_option linter.unusedVariables false
set_option linter.unusedSimpArgs false
namespace Go.Px
open Bool renaming true->o,false->B
open Except renaming bind->A
open _root_.Option renaming some->d
def yr(n:Nd):Prop:=n.K_=nilS/\n.k_=5
def zu1(n:Nd):Prop:=n.k_=28/\∀k∈n.K_.xs,yr k
inductive ExprG:Nd->Prop
 |term {n}:n.k_=5->zdV n->ExprG n
 |leaf {n}:(n.k_=23\/n.k_=24\/n.k_=26\/n.k_=27)->zdV n->ExprG n
 |call {n}:zu1 n->ExprG n
 |load {n x}:n.k_=25->n.K_=⟨[x],o⟩->yr x->ExprG n
 |two {n x y}:(n.k_=21\/n.k_=22)->n.K_=⟨[x,y],o⟩->yr x->yr y->ExprG n
inductive StmtG:Nd->Prop
 |leaf {k:Int} {t n a}:(k=12\/k=13\/k=14\/k=17\/k=18)->StmtG ⟨k,t,n,a,nilS⟩
 |ite {op n a x y b1 a1 b2 a2}:yr x->yr y->(∀s∈b1,StmtG s)->(∀s∈b2,StmtG s)->StmtG ⟨15,op,n,a,⟨[x,y,⟨9,lit [],0,a1,mkS b1⟩,⟨9,lit [],0,a2,mkS b2⟩],o⟩⟩
 |whl {op n a x y b1 a1}:yr x->yr y->(∀s∈b1,StmtG s)->StmtG ⟨16,op,n,a,⟨[x,y,⟨9,lit [],0,a1,mkS b1⟩],o⟩⟩
 |ret {t n a x}:yr x->StmtG ⟨17,t,n,a,⟨[x],o⟩⟩
 |fork {t n a ks}:(∀k∈ks.xs,yr k)->StmtG ⟨19,t,n,a,ks⟩
 |call {t n a c}:zu1 c->StmtG ⟨20,t,n,a,⟨[c],o⟩⟩
 |store {t n a x y}:yr x->yr y->StmtG ⟨11,t,n,a,⟨[x,y],o⟩⟩
 |set {t n a e}:ExprG e->StmtG ⟨10,t,n,a,⟨[e],o⟩⟩
def VI(n:Nd):Prop:=∃a l,n=⟨9,lit [],0,a,mkS l⟩/\∀s∈l,StmtG s
def WU(n:Nd):Prop:=n.k_=8/\(n.T_=lit [105,110,116]/\n.K_=nilS\/(n.T_=lit [111,119,110]\/n.T_=lit [38]\/n.T_=lit [38,109,117,116])/\∃k,n.K_=⟨[k],o⟩/\yr k)
def zfk(n:Nd):Prop:=n.T_=lit []/\n.K_=nilS\/WU n
def zdt(n:Nd):Prop:=n.k_=7/\∃m,n.K_=⟨[m],o⟩/\WU m
def FnG(n:Nd):Prop:=n.k_=6/\∃ps r b,n.K_=⟨ps++[r,b],o⟩/\(∀p∈ps,zdt p)/\zfk r/\r.k_=8/\VI b
theorem zgq{ts t:List Tk}{n:Nd}(h:Z2 ts = .ok (n,t)):n.k_=5:=by
 have hm:∀(m:Nd) ts,m.k_=5->xN m ts = .ok (n,t)->n.k_=5:=by
  intro m ts hm h;unfold xN at h;split at h
  ·obtain⟨v,t1,_,h⟩:=bd_ok h;cases h;exact hm
  split at h
  ·obtain⟨v,t1,_,h⟩:=bd_ok h;cases h;exact hm
  grind
 unfold Z2 at h;split at h
 ·obtain⟨v,t1,_,h⟩:=bd_ok h;cases h;rfl
 split at h
 ·obtain⟨v,t1,_,h⟩:=bd_ok h;cases h;rfl
 ·obtain⟨m,t1,em,h⟩:=bd_ok h;obtain⟨_,t2,_,e⟩:=bd_ok em;grind
theorem zoV{ts t:List Tk}{n:Nd}(h:Za ts = .ok (n,t)):n.k_=5:=by
 obtain⟨v,t1,_,h⟩:=bd_ok h;cases h;rfl
theorem WI{ts t:List Tk}{n:Nd}(h:Z2 ts = .ok (n,t)):yr n:=⟨XO h,zgq h⟩
theorem vV{ts t:List Tk}{n:Nd}(h:Za ts = .ok (n,t)):yr n:=⟨zN h,zoV h⟩
theorem zxa{ts t:List Tk}{n:Nd}(h:Yy ts = .ok (n,t)):∃a b,n.K_=⟨[a,b],o⟩/\yr a/\yr b:=by
 obtain⟨a,t1,ea,h⟩:=bd_ok h;obtain⟨op,t2,eo,h⟩:=bd_ok h;obtain⟨b,t3,eb,h⟩:=bd_ok h;cases h;exact⟨a,b,rfl,WI ea,WI eb⟩
theorem zhw{ts t:List Tk}{ks:Sl Nd}(h:V6 ts = .ok (ks,t)):∀k∈ks.xs,yr k:=by
 obtain⟨u,t1,_,h⟩:=bd_ok h;split at h
 ·cases h;simp
 ·obtain⟨l,t2,e,h⟩:=bd_ok h;obtain⟨u,t3,_,h⟩:=bd_ok h;cases h;exact zdX (λ_ _ _=>WI) e
theorem zxb{ts t:List Tk}{n:Nd}(h:vy ts = .ok (n,t)):ExprG n:=by
 unfold vy at h;split at h
 ·obtain⟨v,t1,_,h⟩:=bd_ok h;cases h;exact .leaf (.inl rfl) rfl
 split at h
 ·obtain⟨v,t1,_,h⟩:=bd_ok h;cases h;exact .leaf (.inr (.inl rfl)) rfl
 split at h
 ·split at h
  ·obtain⟨v,t1,_,h⟩:=bd_ok h;cases h;exact .leaf (.inr (.inr (.inr rfl))) rfl
  ·obtain⟨v,t1,_,h⟩:=bd_ok h;cases h;exact .leaf (.inr (.inr (.inl rfl))) rfl
 split at h
 ·exact .term (zgq h) (XO h)
 obtain⟨m,t1,em,h⟩:=bd_ok h;have hm:=zN em;have hm':=vV em;obtain⟨_,t0,_,e⟩:=bd_ok em;cases e;split at h
 ·obtain⟨ks,t2,e,h⟩:=bd_ok h;cases h;exact .call ⟨rfl,zhw e⟩
 split at h
 ·obtain⟨x,t2,e,h⟩:=bd_ok h;obtain⟨u,t3,_,h⟩:=bd_ok h;cases h;exact .load rfl rfl (WI e)
 split at h
 ·obtain⟨x,t2,e,h⟩:=bd_ok h;cases h;exact .two (.inl rfl) rfl hm' (vV e)
 split at h
 ·obtain⟨x,t2,e,h⟩:=bd_ok h;cases h;exact .two (.inr rfl) rfl hm' (vV e)
 ·have hk:=zgb hm h;unfold xN at h;split at h
  ·obtain⟨v,t1,_,h⟩:=bd_ok h;cases h;exact .term rfl hk
  split at h
  ·obtain⟨v,t1,_,h⟩:=bd_ok h;cases h;exact .term rfl hk
  ·cases h;exact .term rfl hk
theorem wH{n m:Nd}{ts t:List Tk}(h:WE n ts = .ok (m,t)):m=n:=by
 obtain⟨u,t1,_,h⟩:=bd_ok h;cases h;rfl
theorem zxc{blk:List Tk->PR Nd}(hb:∀ts n t,blk ts = .ok (n,t)->VI n){ts t:List Tk}{n:Nd}(h:YQ blk ts = .ok (n,t)):StmtG n:=by
 have br:∀k a ts n t,wD blk k a ts = .ok (n,t)->∃op x y b,yr x/\yr y/\VI b/\n=⟨k,op,0,a,⟨[x,y,b],o⟩⟩:=by
  intro k a ts n t h;obtain⟨m,t1,em,h⟩:=bd_ok h;obtain⟨b,t2,eb,h⟩:=bd_ok h;obtain⟨_,h0⟩:=zm1 em;obtain⟨x,y,hk,hx,hy⟩:=zxa em;grind
 have at':∀k ts n t,atP k ts = .ok (n,t)->n.k_=k:=by
  intro k ts n t h;obtain⟨m,t1,em,h⟩:=bd_ok h;obtain⟨u,t2,_,h⟩:=bd_ok h;obtain⟨v,t3,_,h⟩:=bd_ok h;obtain⟨u,t4,_,h⟩:=bd_ok h;cases h;rfl
 unfold YQ at h;split at h
 ·obtain⟨m,t1,_,h⟩:=bd_ok h;rw[wH h];exact .leaf (.inl rfl)
 split at h
 ·obtain⟨m,t1,e,h⟩:=bd_ok h;rw[wH h];exact .leaf (.inr (.inl (at' _ _ _ _ e)))
 split at h
 ·obtain⟨m,t1,e,h⟩:=bd_ok h;rw[wH h];exact .leaf (.inr (.inr (.inl (at' _ _ _ _ e))))
 split at h
 ·obtain⟨m,t1,e,h⟩:=bd_ok h;obtain⟨op,x,y,b,hx,hy,⟨a1,l1,rfl,h1⟩,rfl⟩:=br _ _ _ _ _ e;split at h
  ·obtain⟨b2,t2,e2,h⟩:=bd_ok h;obtain⟨a2,l2,rfl,h2⟩:=hb _ _ _ e2;cases h;exact .ite hx hy h1 h2
  ·cases h;exact .ite (b2:=[]) hx hy h1 (by simp)
 split at h
 ·obtain⟨op,x,y,b,hx,hy,⟨a1,l1,rfl,h1⟩,rfl⟩:=br _ _ _ _ _ h;exact .whl hx hy h1
 split at h
 ·split at h
  ·rw[wH h];exact .leaf (.inr (.inr (.inr (.inl rfl))))
  ·obtain⟨x,t1,e,h⟩:=bd_ok h;rw[wH h];exact .ret (WI e)
 split at h
 ·rw[wH h];exact .leaf (.inr (.inr (.inr (.inr rfl))))
 split at h
 ·obtain⟨m,t1,_,h⟩:=bd_ok h;obtain⟨ks,t2,e,h⟩:=bd_ok h;rw[wH h];exact .fork (zhw e)
 obtain⟨m,t1,_,h⟩:=bd_ok h;obtain⟨q,t2,e,h⟩:=bd_ok h;rw[wH h];unfold W8 at e;split at e
 ·obtain⟨ks,t3,e1,e⟩:=bd_ok e;cases e;exact .call ⟨rfl,zhw e1⟩
 split at e
 ·obtain⟨x,t3,e1,e⟩:=bd_ok e;obtain⟨u,t4,_,e⟩:=bd_ok e;obtain⟨u,t5,_,e⟩:=bd_ok e;obtain⟨y,t6,e2,e⟩:=bd_ok e;cases e;exact .store (WI e1) (WI e2)
 ·obtain⟨u,t3,_,e⟩:=bd_ok e;obtain⟨x,t4,e1,e⟩:=bd_ok e;cases e;exact .set (zxb e1)
theorem zlu{one:List Tk->PR Nd}(hg:∀ts n t,one ts = .ok (n,t)->StmtG n):∀(j:Nat) (acc:List Nd) (ts:List Tk) (l:List Nd) (t:List Tk),(∀x∈acc,StmtG x)->xz one j acc ts = .ok (l,t)->∀x∈l,StmtG x
 |0,acc,ts,l,t,h,e=>by cases e
 |j+1,acc,ts,l,t,h,e=>by
  unfold xz at e;split at e
  ·grind
  ·obtain⟨a,t1,e1,e⟩:=bd_ok e;refine zlu hg j _ _ l t (λx hx=>?_) e;grind
theorem zlv:∀(r:Nat) (ts:List Tk) (n:Nd) (t:List Tk),ye r ts = .ok (n,t)->VI n
 |0,ts,n,t,h=>by unfold ye at h;split at h<;>cases h
 |r+1,ts,n,t,h=>by
  unfold ye at h;obtain⟨u,t1,_,h⟩:=bd_ok h;obtain⟨l,t2,e,h⟩:=bd_ok h;cases h;exact⟨_,l,rfl,zlu (λts n t=>zxc (zlv r)) _ _ _ _ _ (by simp) e⟩
theorem zhx{ts t:List Tk}{n:Nd}(h:w8 ts = .ok (n,t)):WU n:=by
 unfold w8 at h;split at h
 ·rename_i c;cases h;exact⟨rfl,.inl ⟨XC c,rfl⟩⟩
 split at h
 ·rename_i c;obtain⟨k,t1,e,h⟩:=bd_ok h;cases h;exact⟨rfl,.inr ⟨.inl (XC c),k,rfl,vV e⟩⟩
 obtain⟨u,t1,em,h⟩:=bd_ok h;split at h
 ·obtain⟨k,t2,e,h⟩:=bd_ok h;cases h;exact⟨rfl,.inr ⟨.inr (.inr rfl),k,rfl,vV e⟩⟩
 ·obtain⟨k,t2,e,h⟩:=bd_ok h;cases h;refine⟨rfl,.inr ⟨.inr (.inl ?_),k,rfl,vV e⟩⟩;unfold zY at em;split at em
  ·rename_i c;exact XC c
  ·cases em
theorem ztZ{ts t:List Tk}{n:Nd}(h:xy ts = .ok (n,t)):zdt n:=by
 obtain⟨m,t1,_,h⟩:=bd_ok h;obtain⟨u,t2,_,h⟩:=bd_ok h;obtain⟨k,t3,e,h⟩:=bd_ok h;cases h;exact⟨rfl,k,rfl,zhx e⟩
theorem zAF{ts t:List Tk}{n:Nd}{a:Int}(h:fnP a ts = .ok (n,t)):FnG n:=by
 rw[zrD] at h;obtain⟨m,t1,_,h⟩:=bd_ok h;obtain⟨u,t2,_,h⟩:=bd_ok h;obtain⟨ps,t3,e3,h⟩:=bd_ok h;obtain⟨r,t4,e4,h⟩:=bd_ok h;obtain⟨b,t5,e5,h⟩:=bd_ok h;cases h;obtain⟨p2,t6,e6,e3⟩:=bd_ok e3;obtain⟨u,t7,_,e3⟩:=bd_ok e3;cases e3;refine⟨rfl,ps,r,b,rfl,?_,?_,?_,zlv _ _ _ _ e5⟩
 ·split at e6
  ·cases e6;simp
  ·exact zdX (λ_ _ _=>ztZ) e6
 ·unfold zlm at e4;split at e4
  ·split at e4
   ·cases e4
   ·exact .inr (zhx e4)
  ·cases e4;exact .inl ⟨rfl,rfl⟩
 ·unfold zlm at e4;split at e4
  ·split at e4
   ·cases e4
   ·exact(zhx e4).1
  grind
theorem zfl:∀(j:Nat) (acc:List Nd) (ts:List Tk) (l:List Nd) (t:List Tk),(∀x∈acc,wd x\/FnG x)->Yv j acc ts = .ok (l,t)->∀x∈l,wd x\/FnG x
 |0,acc,ts,l,t,h,e=>by cases e
 |j+1,acc,ts,l,t,h,e=>by
  have app:∀a,(wd a\/FnG a)->∀x∈acc++[a],wd x\/FnG x:=λa ha x hx=>by
   grind
  unfold Yv at e;split at e
  ·grind
  split at e
  ·obtain⟨a,t1,e1,e⟩:=bd_ok e;exact zfl j _ _ l t (app a (.inr (zAF e1))) e
  ·obtain⟨u,t0,_,e⟩:=bd_ok e;obtain⟨a,t1,e1,e⟩:=bd_ok e;exact zfl j _ _ l t (app a (.inl (zy1 e1))) e
structure UnitG(n:Nd):Prop where
 eq:∃l,n=⟨0,lit [],0,0,mkS l⟩
 kid:∀k∈n.K_.xs,wd k\/FnG k
 size:zm n<=4096
theorem zlw{s:Uq}(h:(xX s).2.2=0):UnitG (xX s).1:=by
 unfold xX at h |-
 split at h
 ·grind
 rename_i hc;rw[jv hc];have hne:∀e,Yv (ZY s).2.2.xs.length [] (ZY s).2.2.xs = .error e->e.2≠0:=by
  intro e he h2;have hz:(ZY s).2.1=0:=by
   grind
  obtain⟨g,hn⟩:=zdm hz;have gk:GK ⟨(ZY s).2.2.xs.map toR,o⟩ 0 (ZY s).2.2.xs:=⟨rfl,g,by have:=g.len;omega,zlo s⟩;have:=zgn (z1:=(0,lit [],0,0)) (z2:=(0,lit [],0,0)) _ _ 0 [] gk (by have:=g.len;omega) (U7 _) (by have:=g.len;simp;omega);grind
 cases e:Yv (ZY s).2.2.xs.length [] (ZY s).2.2.xs with
 |error er=>grind
 |ok p=>
  obtain⟨l,t⟩:=p;rw[e] at h;simp only at h |-
  split at h
  ·simp at h
  ·rename_i hs;rw[jv hs];exact⟨⟨l,rfl⟩,zfl _ _ _ l t (by simp) e,by rw[zl];show zf l+1<=4096;omega⟩
theorem XR:∀{l:List Nd}{x:Nd},x∈l->zm x<=zf l
 |y::l,x,h=>by
  rcases UO.1 h with rfl | h
  ·simp[zf]
  ·have:=XR h;simp only[zf];omega
theorem Wb:∀l:List Nd,l.length<=zf l
 |[]=>by simp
 |x::l=>by have:=Zh x;have:=Wb l;simp only[zf,jy];omega
theorem Zl{n:Nd}:n.K_.xs.length+1<=zm n:=by rw[zl];have:=Wb n.K_.xs;omega
theorem yF{n k:Nd}(h:k∈n.K_.xs):zm k+1<=zm n:=by rw[zl n];have:=XR h;omega
abbrev PP:=qf
abbrev PSg:=qd
theorem zt0(l:List Uq)(s:Uq)(hl:l.length<=1000):q2k (⟨l,o⟩,s)=d (idx (λw=>decide (s=w)) l):=by
 have:=XB (f:=q1i) (xs:=l) (p:=λw=>decide (s=w)) (st:=λi=>(⟨l,o⟩,s,Sl.len (⟨l,o⟩:Sl Uq),(i:Int))) (yes:=λi =>.inl (i:Int)) (no :=.inr ())
  (λi hi=>by
   unfold q1i;simp only[jk];simp only[zo,zh (s:=⟨l,o⟩) hi,ji];rw[ju (by omega),zw (by omega)]
   split<;>rfl)
  (by unfold q1i;simp only[jk];rw[jv (by show¬ ((l.length:Int) < (l.length:Int));omega)])
 show((lpO q1i (⟨l,o⟩,s,Sl.len (⟨l,o⟩:Sl Uq),((0:Nat):Int))).bind _)=_;rw[this];unfold idx;cases l.findIdx? _<;>rfl
def zoW:List Uq:=[lit [],lit [105,110,116],lit [111,119,110],lit [38],lit [38,109,117,116]]
def mI(s:Uq):Int:=idx (λw=>decide (s=w)) zoW
def p0:PP:=⟨lit [],0,0⟩
def we(t:List PT)(n:Nd):Us PP:=
 if n.K_.xs=[] then d ⟨lit [],mI n.T_,0⟩ else if idT (zQ n).T_ t < 0 then none else d ⟨lit [],mI n.T_,idT (zQ n).T_ t⟩
def idP(n:Uq)(l:List PP):Int:=idx (λx=>decide (x.N_=n)) l
def idM(ty:Int)(l:List PP):Int:=idx (λx=>decide (1 < x.M_) && decide (x.t_=ty)) l
def Z7(t:List PT)(i:Int):Int:=(t[i.toNat]?).elim 0 qa.S_
def yt(t:List PT)(acc:List PP)(k:Nd):Except Er (List PP):=
 if 0<=idP k.T_ acc then .error (k.a_,30) else match we t (zQ k) with
  |none =>.error ((zQ k).a_,31)
  |some p=>if(1 < p.M_/\Z7 t p.t_≠0)/\0<=idM p.t_ acc then .error ((zQ k).a_,34) else .ok (acc++[⟨k.T_,p.M_,p.t_⟩])
def zhy(n:Nd)(i:Nat):Nd:=n.K_.xs.getD i wc
def Xd(t:List PT)(n:Nd):Except Er PSg:=
 let c:=n.K_.xs.length - 2
 if 8 < c then .error (n.a_,22) else((n.K_.xs.take c).foldlM (yt t) []).bind λps=>match we t (zhy n c) with
  |none =>.error ((zhy n c).a_,31)
  |some r =>.ok ⟨n.T_,mkS ps,r⟩
def zdY(t:List PT)(l:List Nd):Except Er (List PSg):=l.foldlM (λs k=>if k.k_=6 then(Xd t k).bind λx =>.ok (s++[x]) else .ok s) []
theorem zgr{n:Nd}(h:WU n\/zfk n):n.K_=nilS\/∃k,n.K_=⟨[k],o⟩:=by
 rcases h with⟨_,⟨_,h⟩ | ⟨_,k,h,_⟩⟩ | ⟨_,h⟩ | ⟨_,⟨_,h⟩ | ⟨_,k,h,_⟩⟩
 ·exact .inl h
 all_goals grind
theorem zlx{t:Sl PT}{n:Nd}(h:WU n\/zfk n)(ht:t.xs.length<=100000):qad (n,t)=d (match we t.xs n with | some p=>(p,0) | none=>(p0,31)):=by
 unfold qad qfn we;rw[show(Sl.mk [lit [],lit [105,110,116],lit [111,119,110],lit [38],lit [38,109,117,116]] true:Sl Uq)=⟨zoW,o⟩ from rfl,zt0 zoW _ (by decide)];simp only[ji];rcases zgr h with hk | ⟨k,hk⟩
 ·simp (decide:=true) only [hk,show(nilS:Sl Nd).len=0 from rfl,jo,jp,ji,jl];rfl
 ·have e0:zQ n=k:=by unfold zQ;rw[hk];rfl
  rw[e0];simp (decide:=true) only [hk,show Sl.len (⟨[k],o⟩:Sl Nd)=1 from rfl,show zb (⟨[k],o⟩:Sl Nd) 0=d k from rfl,jo,jp,ji,VG t _ (show t.xs.length<=1000000 by omega),jk];by_cases h2:idT k.T_ t.xs < 0
  ·simp only[h2,jp,ji,jm];rfl
  ·simp only[h2,jo,ji,jl];rfl
theorem zrM {α γ:Type}{f:α×γ->Us (Bool×γ)}{p:α->Bool}{c:γ}(hf:∀x,f (x,c)=d (p x,c)) (s:Sl α) (hs:s.xs.length<=1000000) {body:Int×Int×Sl α×γ->Us (Step (Int×Int×Sl α×γ) (Int×Sl α×γ⊕Sl α×γ))}
    (hb:∀y0,body y0=if decide (y0.2.1 < y0.1)=o then(zb y0.2.2.1 y0.2.1).bind λy1=>(zb y0.2.2.1 y0.2.1).bind λy2=>(f (y2,y0.2.2.2)).bind λy3=>if y3.1=o then d (.done (.inl (y0.2.1,y0.2.2.1,y3.2))) else d (.next (y0.1,Ut (y0.2.1+1),y0.2.2.1,y3.2)) else d (.done (.inr y0.2.2))) :
    ((lpO body (s.len,0,s,c)).bind λy4=>Sum.elim (λy5=>d y5) (λy6=>d (-1,y6)) y4)=d (idx p s.xs,s,c):=by
  have:=XB (f:=body) (xs:=s.xs) (p:=p) (st:=λi=>(s.len,(i:Int),s,c)) (yes:=λi =>.inl ((i:Int),s,c)) (no :=.inr (s,c))
    (λi hi=>by
      rw[hb];simp only[jk];simp only[zo,zh hi,ji,hf];rw[ju (by omega),zw (by omega)]
      split<;>rfl)
    (by rw[hb];simp only[jk];rw[jv (by rw[zo];omega)])
  rw[show((0:Int))=((0:Nat):Int) from rfl,this];unfold idx;cases s.xs.findIdx? p<;>rfl
theorem zm3(l:Sl PP)(q:PP)(hl:l.xs.length<=1000000):q57 (l,q)=d (decide (0<=idP q.N_ l.xs),l,q):=by
 show(((lpO (qb1 qag) (l.len,0,l,q)).bind _).bind _)=_;rw[zrM (body:=qb1 qag) (f:=qag) (p:=λx:PP=>decide (x.N_=q.N_)) (λx=>rfl) l hl (λy=>rfl)];rfl
theorem zxd(l:Sl PP)(q:PP)(hl:l.xs.length<=1000000):q58 (l,q)=d (decide (0<=idM q.t_ l.xs),l,q):=by
 show(((lpO (qb2 q8q) (l.len,0,l,q)).bind _).bind _)=_;rw[zrM (body:=qb2 q8q) (f:=q8q) (p:=λx:PP=>decide (1 < x.M_) && decide (x.t_=q.t_)) (λx=>?_) l hl (λy=>rfl)];rfl;unfold q8q qep;grind
theorem zrN{t:Sl PT}{p:PP}(h:0<=p.t_/\p.t_ < t.xs.length\/p.M_<=1):q7c (p,t)=d (decide (1 < p.M_/\Z7 t.xs p.t_≠0)):=by
 unfold q7c qdv;by_cases h1:1 < p.M_
 ·obtain⟨h2,h3⟩ | h:=h
  ·obtain⟨j,hj⟩:∃j:Nat,p.t_=j:=⟨_,(Dz h2).symm⟩
   have hlt:j < t.xs.length:=by omega
   simp only[h1,jr,jp,hj,zh hlt,ji,Z7,Int.toNat_natCast,U6 hlt,Option.elim_some,U4]
  ·omega
 ·simp[h1]
theorem zAG(n:Nd)(h:n.K_=nilS)(hg:WU n\/zfk n):mI n.T_<=1:=by
 have a0:mI (lit [])=0:=by decide +kernel
 have a1:mI (lit [105,110,116])=1:=by decide +kernel
 rcases hg with⟨_,⟨h1,_⟩ | ⟨_,k,h2,_⟩⟩ | ⟨h1,_⟩ | ⟨_,⟨h1,_⟩ | ⟨_,k,h2,_⟩⟩
 ·grind
 all_goals grind
theorem zeN{t:List PT}{n:Nd}{p:PP}(hg:WU n\/zfk n)(h:we t n=d p):0<=p.t_/\p.t_ < t.length\/p.M_<=1:=by
 unfold we at h;split at h
 ·rename_i hk;cases h;refine .inr (zAG n ?_ hg);rcases zgr hg with h | ⟨k,h⟩
  all_goals grind
 split at h
 ·cases h
 ·cases h;have:idT (zQ n).T_ t < t.length:=xB.2.1;grind
abbrev SgH:=Uq×Uq×Int×Int
noncomputable abbrev zoX:=qd3 qad q57 q7c q58
theorem zt1 {t:Sl PT}(ht:t.xs.length<=20000) {ks:Sl Nd}(hk:ks.xs.length<=20000) (hg:∀p∈ks.xs,zdt p) (last:Int) (n:Nd) (z h:SgH) :
    lpO zoX (t,last,ks,ks.len,0,n,z,h,mkS [])=d (match ks.xs.foldlM (yt t.xs) [] with | .error e =>.inl (e.1,e.2,lit [],lit [],0,0) | .ok l =>.inr (t,last,n,z,h,mkS l)):=by
  have:=zlp (f:=zoX) (xs:=ks.xs) (step:=yt t.xs) (st:=λi a=>(t,last,ks,ks.len,(i:Int),n,z,h,mkS a)) (fin:=λa =>.inr (t,last,n,z,h,mkS a)) (er:=λe =>.inl (e.1,e.2,lit [],lit [],0,0)) (I:=λi a=>a.length=i)
    (λi hi a ha=>by
      unfold zoX qd3;have hw:=zw (k:=i) (by omega);obtain⟨_,m,hm,hmg⟩:=hg _ (g9 hi);have e0:zQ ks.xs[i]=m:=by unfold zQ;rw[hm];rfl
      simp only[jk,zn];rw[ju (by rw[zo];omega),zh hi];have g0:zb ks.xs[i].K_ 0=d m:=by rw[hm];rfl
      simp only[ji,g0,zn,zlx (.inl hmg) (show t.xs.length<=100000 by omega),yt,e0];cases hX:we t.xs m with
      |none=>
        simp only[zm3 (mkS a) _ (show a.length<=1000000 by omega),ji,show(mkS a).xs=a from rfl,jk];by_cases h1:0<=idP ks.xs[i].T_ a
        ·grind
        grind
      |some p=>
        simp only[zm3 (mkS a) _ (show a.length<=1000000 by omega),ji,show(mkS a).xs=a from rfl,jk];by_cases h1:0<=idP ks.xs[i].T_ a
        ·grind
        simp (decide:=true) only [h1,jo,UW];rw[zrN (p:=⟨ks.xs[i].T_,p.M_,p.t_⟩) (show 0<=p.t_/\p.t_ < t.xs.length\/p.M_<=1 from zeN (.inl hmg) hX)];simp only[ji,jk];by_cases h2:1 < p.M_/\Z7 t.xs p.t_≠0
        · simp only[eq_true h2,jp,U4,zxd (mkS a) _ (show a.length<=1000000 by omega),ji,show(mkS a).xs=a from rfl,jk];by_cases h3:0<=idM p.t_ a
          ·grind
          ·simp only[h3,jo,ji,jl];rw[xQ (by omega) (by simp;omega)];grind
        · simp only[eq_false h2,jo,false_and,ji,jj,jl];rw[xQ (by omega) (by simp;omega)]
          grind)
    (λi hi a a' ha e=>by
      unfold yt at e
      grind)
    (λa _=>by
      unfold zoX qd3;simp only[jk,zn]
      rw[jv (by rw[zo];omega)])
    (a:=[]) rfl
  grind
theorem zm4{n:Nd}(h:FnG n):∃ps r b,n.K_=⟨ps++[r,b],o⟩/\n.K_.xs.length - 2=ps.length/\n.K_.xs.take (n.K_.xs.length - 2)=ps/\zhy n (n.K_.xs.length - 2)=r/\(∀p∈ps,zdt p)/\zfk r/\VI b:=by
 obtain⟨_,ps,r,b,hk,hp,hr,_,hb⟩:=h;have hl:n.K_.xs.length - 2=ps.length:=by rw[hk];simp
 refine⟨ps,r,b,hk,hl,?_,?_,hp,hr,hb⟩
 ·grind
 ·unfold zhy;grind
theorem zy4 {t:Sl PT}{n:Nd}(hg:FnG n) (ht:t.xs.length<=20000) (hn:n.K_.xs.length<=20000) :
    qb3 (n,t)=d (match Xd t.xs n with | .error e=>(⟨lit [],Sl.mk [] B,p0⟩,e.1,e.2) | .ok s=>(s,0,0)):=by
  obtain⟨ps,r,b,hk,hl,htk,hr,hp,hrg,_⟩:=zm4 hg;unfold qb3 qgf Xd;have hw:Ut (n.K_.len - 2)=(ps.length:Int):=by
    have:n.K_.len=(ps.length:Int)+2:=by rw[hk];simp[Sl.len]
    rw[this,zK (by grind) (by grind)];omega
  have hpl:ps.length<=20000:=by grind
  simp only[hw,jk,htk,hl];rw[show n.K_.xs.take ps.length=ps by grind];have hr':zhy n ps.length=r:=by grind
  by_cases h8:8 < ps.length
  ·simp only[h8,show(8:Int) < (ps.length:Int) by omega,jp];rfl
  simp only[h8,show¬ ((8:Int) < (ps.length:Int)) by omega,jo];rw[Yk (by omega) (by omega) (by grind)];simp only[ji,zn,Int.toNat_zero,De,Int.toNat_natCast];rw[show n.K_.xs.take ps.length=ps by grind];have:=zt1 ht (ks:=⟨ps,n.K_.nn⟩) hpl hp (ps.length:Int) n (lit [],lit [],0,0) (n.T_,lit [],0,0);rw[show(Sl.mk [] false:Sl PP)=mkS [] from rfl,show lpO (qd3 qad q57 q7c q58) _=_ from this];simp only[ji];cases ps.foldlM (yt t.xs) [] with
  |error e=>rfl
  |ok l=>
    simp only[jl,A];have hg2:zb n.K_ (ps.length:Int)=d r:=by rw[hk];rw[wF];simp
    simp only[hg2,ji,zn,zlx (.inr hrg) (show t.xs.length<=100000 by omega),hr'];cases we t.xs r with
    |none=>rfl
    |some p=>rfl
theorem zxe {t:Sl PT}{n:Nd}(hg:∀k∈n.K_.xs,k.k_=6->FnG k/\k.K_.xs.length<=20000) (ht:t.xs.length<=20000) (hn:n.K_.xs.length<=20000) :
    q6b (n,t)=d (match zdY t.xs n.K_.xs with | .error e=>(e.1,e.2,Sl.mk [] B) | .ok s=>(0,0,mkS s)):=by
  have hne:∀k e,Xd t.xs k = .error e->e.2≠0:=by
    intro k e h;unfold Xd at h;simp only at h;split at h
    ·cases h;simp
    generalize k.K_.xs.take (k.K_.xs.length - 2)=ps at h;have hf:∀(ps:List Nd) a e,ps.foldlM (yt t.xs) a = .error e->e.2≠0:=by
      intro ps
      induction ps with
      |nil=>intro a e h;cases h
      |cons x l ih=>
        intro a e h;rw[List.foldlM_cons] at h;cases hx:yt t.xs a x with
        |ok b=>rw[hx] at h;exact ih b e h
        |error er=>
          rw[hx] at h;cases h;unfold yt at hx;split at hx
          ·cases hx;simp
          grind
    cases e1:ps.foldlM (yt t.xs) [] with
    |error er=>rw[e1] at h;cases h;grind
    |ok l=>
      rw[e1] at h;simp only[A] at h;grind
  have:=zab (f:=qbz qb3) (xs:=n.K_.xs) (step:=λs k=>if k.k_=6 then(Xd t.xs k).bind λx =>.ok (s++[x]) else .ok s) (st:=λi a=>(t,n.K_,n.K_.len,(i:Int),mkS a)) (fin:=λa =>.inr (mkS a)) (er:=λ_ e =>.inl e) (I:=λi a=>a.length<=i)
    (λi hi a ha=>by
      unfold qbz;have hw:=zw (k:=i) (by omega);simp only[jk,zn];rw[ju (by rw[zo];omega),zh hi];simp only[ji,zn];by_cases h1:n.K_.xs[i].k_=6
      · obtain⟨g1,g2⟩:=hg _ (g9 hi) h1;simp only[h1,UW,js,jo,jp,zy4 g1 ht g2,ji];cases e:Xd t.xs n.K_.xs[i] with
        |error e2=>have:=hne _ _ e;simp only[this,jt,jp,ji,jl,A]
        |ok x=>
          simp only[js,jo,A];rw[xQ (by omega) (by simp;omega)];grind
      grind)
    (λi hi a a' ha e=>by
      split at e
      · cases e1:Xd t.xs n.K_.xs[i] with
        |error er=>rw[e1] at e;cases e
        |ok x=>rw[e1] at e;cases e;simp;omega
      grind)
    (λa _=>by
      unfold qbz;simp only[jk]
      rw[jv (by rw[zo];omega)])
    (a:=[]) (by simp)
  unfold q6b qfo;show((lpO (qbz qb3) (t,n.K_,n.K_.len,((0:Nat):Int),mkS [])).bind _)=_;unfold zdY;cases e:n.K_.xs.foldlM (m:=Except Er) (λs k=>if k.k_=6 then(Xd t.xs k).bind λx =>.ok (s++[x]) else .ok s) [] with
  |error er=>
    grind
  |ok s=>
    grind
abbrev RP:=qh
abbrev RSg:=qg
def rP(x:PP):RP:=⟨x.N_,x.M_,x.t_⟩
def rG(x:PSg):RSg:=⟨x.N_,slm rP x.P_,rP x.R_⟩
theorem zly{t:List PT}{n:Nd}(h:WU n\/zfk n)(ht:t.length<=100000):q20 (rN n,mkS (t.map rT))=d (match we t n with | some p=>(rP p,o) | none=>(rP p0,B)):=by
 have m0:mI (lit [])=0:=by decide +kernel
 have m1:mI (lit [105,110,116])=1:=by decide +kernel
 have m2:mI (lit [111,119,110])=2:=by decide +kernel
 have m3:mI (lit [38])=3:=by decide +kernel
 have m4:mI (lit [38,109,117,116])=4:=by decide +kernel
 obtain⟨kd,tx,nu,a,ks⟩:=n;have hc:(tx=lit []\/tx=lit [105,110,116])/\ks=nilS\/(tx=lit [111,119,110]\/tx=lit [38]\/tx=lit [38,109,117,116])/\∃k,ks=⟨[k],o⟩:=by
  rcases h with⟨_,⟨h1,h2⟩ | ⟨h1,k,h2,_⟩⟩ | ⟨h1,h2⟩ | ⟨_,⟨h1,h2⟩ | ⟨h1,k,h2,_⟩⟩
  ·grind
  ·grind
  all_goals grind
 unfold q20 q95 we;have g0:∀(k:Nd),zb (rN ⟨kd,tx,nu,a,⟨[k],o⟩⟩).K_ 0=d (rN k):=λk=>by rw[zD];rfl
 obtain⟨rfl | rfl,rfl⟩ | ⟨rfl | rfl | rfl,k,rfl⟩:=hc
 ·simp (decide:=true) only [zX,Zy,zk,jp,jo,ji,jl,m0];rfl
 ·simp (decide:=true) only [zX,Zy,zk,jp,jo,ji,jl,m1];rfl
 all_goals
  simp (decide:=true) only [zX,Zy,zk,jp,jo,ji,jl,m2,m3,m4,g0,zac t _ (show t.length<=1000000 by omega),zQ,Dd,jk];by_cases h2:idT k.T_ t < 0
  ·simp only[h2,jp,ji,jm];rfl
  ·simp only[h2,jo,ji,jl];rfl
noncomputable abbrev og0:=q5s q20
noncomputable abbrev og1:=q5t q20
noncomputable abbrev og2:=q5u q20
theorem zrO{acc:List PP}{ks:List Nd}(h:acc.map qf.N_=ks.map q6.T_)(n:Uq):idP n acc=idN n ks:=by
 have h1:=zdU qf.N_ (λx=>decide (x=n)) acc;have h2:=zdU q6.T_ (λx=>decide (x=n)) ks;unfold idP idN;grind
theorem zy5 {n:Nd}{i:Nat}(hi:i<=n.K_.xs.length) (hn:n.K_.xs.length<=20000) (T:Sl RTy) (c:Int) (z h:SgH) (k:Nd) (s:Sl RP) :
    lpO og0 (T,c,(i:Int),0,rN n,z,h,rN k,s)=d (if 0<=idN k.T_ (n.K_.xs.take i) then .inl (k.a_,30,lit [],lit [],0,0) else .inr (T,c,(i:Int),rN n,z,h,rN k,s)):=by
  have hl:(n.K_.xs.take i).length=i:=by simp;omega
  have:=XB (f:=og0) (xs:=n.K_.xs.take i) (p:=λx=>decide (x.T_=k.T_)) (st:=λj=>(T,c,(i:Int),(j:Int),rN n,z,h,rN k,s)) (yes:=λ_ =>.inl (k.a_,30,lit [],lit [],0,0)) (no :=.inr (T,c,(i:Int),rN n,z,h,rN k,s))
    (λj hj=>by
      rw[hl] at hj;unfold og0 q5s;have hg:zb (rN n).K_ (j:Int)=d (rN n.K_.xs[j]):=by rw[zD,zh (by simp;omega)];simp
      simp only[jk,zk];rw[ju (by omega),hg];simp only[ji,zX,YS,List.getElem_take];rw[zw (by omega)]
      grind)
    (by unfold og0 q5s;simp only[jk,zk,hl];grind)
  rw[show(0:Int)=((0:Nat):Int) from rfl,this];unfold idN idx;cases(n.K_.xs.take i).findIdx? _ with
  |none=>simp
  |some j=>simp
theorem zy6 {t:List PT}{acc:List PP}(ha:acc.length<=20000) {m:Nd}{p:PP}(hv:0<=p.t_/\p.t_ < t.length\/p.M_<=1) (c:Int) (n:RNd) (z h:SgH) {k:RNd}(hk:zb k.K_ 0=d (rN m)) :
    lpO og1 (mkS (t.map rT),c,(acc.length:Int),0,n,z,h,k,rP p,mkS (acc.map rP))=d (if(1 < p.M_/\Z7 t p.t_≠0)/\0<=idM p.t_ acc then .inl (m.a_,34,lit [],lit [],0,0) else .inr (mkS (t.map rT),c,(acc.length:Int),n,z,h,k,rP p,mkS (acc.map rP))):=by
  have:=XB (f:=og1) (xs:=acc) (p:=λx=>decide (1 < p.M_) && (decide (1 < x.M_) && (decide (p.t_=x.t_) && decide (Z7 t p.t_≠0)))) (st:=λj=>(mkS (t.map rT),c,(acc.length:Int),(j:Int),n,z,h,k,rP p,mkS (acc.map rP))) (yes:=λ_ =>.inl (m.a_,34,lit [],lit [],0,0)) (no :=.inr (mkS (t.map rT),c,(acc.length:Int),n,z,h,k,rP p,mkS (acc.map rP)))
    (λj hj=>by
      unfold og1 q5t;simp only[jk,zk];rw[ju (by omega),xY hj];have hw:=zw (k:=j) (by omega);simp only[ji,rP];by_cases h1:1 < p.M_
      case neg=>grind
      by_cases h2:1 < acc[j].M_
      case neg=>grind
      by_cases h3:p.t_=acc[j].t_
      case neg=>simp only[h1,h2,h3,jo,jp,jq,Bool.and_false,Bool.false_and,jj,ji,hw,rP]
      obtain⟨h4,h5⟩ | h4:=hv
      case inr=>omega
      obtain⟨q,hq⟩:∃q:Nat,p.t_=q:=⟨_,(Dz h4).symm⟩
      have hlt:q < t.length:=by omega
      have hs:Z7 t p.t_=t[q].S_:=by unfold Z7;grind
      simp only[h1,h2,eq_true h3,jp,jr,Dr];rw[hs,show zb (mkS (t.map rT)) p.t_=d (rT t[q]) by rw[hq];exact xY hlt];simp only[ji,rT,jk,hw];by_cases h6:t[q].S_=0
      ·grind
      ·simp only[h6,UW,jt,jp,jr,hk,ji,YS])
    (by unfold og1 q5t;simp only[jk,zk];grind)
  rw[show(0:Int)=((0:Nat):Int) from rfl,this];by_cases hc:1 < p.M_/\Z7 t p.t_≠0
  · simp only[eq_true hc.1,eq_true hc.2,and_self,U4];unfold idM idx
    rw[show(λx:PP=>decide True && (decide (1 < x.M_) && (decide (p.t_=x.t_) && decide True)))=(λx:PP=>decide (1 < x.M_) && decide (x.t_=p.t_)) from by
      grind]
    cases acc.findIdx? _ with
    |none=>simp
    |some j=>simp[hc.2]
  · have:acc.findIdx? (λx=>decide (1 < p.M_) && (decide (1 < x.M_) && (decide (p.t_=x.t_) && decide (Z7 t p.t_≠0))))=none:=by
      rw[List.findIdx?_eq_none_iff];intro x _;simp only[Bool.and_eq_false_iff,decide_eq_false_iff_not];grind
    grind
theorem zAH{acc:List PP}{x:PP}(h:acc.length<=50000):zp 32 (mkS (acc.map rP)) [rP x]=d (mkS ((acc++[x]).map rP)):=by
 rw[xQ (by omega) (by simp;omega)];simp
theorem zy7 {t:List PT}(ht:t.length<=20000) {n:Nd}{ps:List Nd}{c:Nat}(hc:c<=n.K_.xs.length) (hps:n.K_.xs.take c=ps) (hn:n.K_.xs.length<=20000) (hg:∀p∈ps,zdt p) (z h:SgH) :
    lpO og2 (mkS (t.map rT),(c:Int),0,rN n,z,h,mkS [])=d (match ps.foldlM (yt t) [] with | .error e =>.inl (e.1,e.2,lit [],lit [],0,0) | .ok l =>.inr (mkS (t.map rT),(c:Int),rN n,z,h,mkS (l.map rP))):=by
  have hl:ps.length=c:=by grind
  have:=zlp (f:=og2) (xs:=ps) (step:=yt t) (st:=λi a=>(mkS (t.map rT),(c:Int),(i:Int),rN n,z,h,mkS (a.map rP))) (fin:=λa =>.inr (mkS (t.map rT),(c:Int),rN n,z,h,mkS (a.map rP))) (er:=λe =>.inl (e.1,e.2,lit [],lit [],0,0)) (I:=λi a=>a.map qf.N_=(n.K_.xs.take i).map q6.T_)
    (λi hi a ha=>by
      unfold og2 q5u;have hw:=zw (k:=i) (by omega);have hal:a.length=i:=by have:=congrArg List.length ha;grind
      have hpi:ps[i]=n.K_.xs[i]:=by grind
      obtain⟨_,m,hm,hmg⟩:=hg _ (g9 hi);have e0:zQ ps[i]=m:=by unfold zQ;rw[hm];rfl
      have hg0:zb (rN n).K_ (i:Int)=d (rN ps[i]):=by rw[zD,zh (by simp;omega)];simp[hpi]
      have g0:zb (rN ps[i]).K_ 0=d (rN m):=by rw[zD,hm];rfl
      simp only[jk,zk];rw[ju (by omega),hg0];simp only[ji];rw[show lpO (q5s q20) _=_ from zy5 (n:=n) (i:=i) (by omega) hn (mkS (t.map rT)) (c:Int) z h ps[i] (mkS (a.map rP)),<- zrO ha];simp only[ji,yt,e0];by_cases h1:0<=idP ps[i].T_ a
      ·grind
      simp only[h1,jo,jl,g0,ji,zly (.inl hmg) (show t.length<=100000 by omega)];cases hX:we t m with
      |none=>simp only[Dq,jp,ji,jm,YS]
      |some p=>
        simp only[Da,jj,jo];have h1':=zy6 (t:=t) (acc:=a) (by omega) (zeN (.inl hmg) hX) (c:Int) (rN n) z h g0;rw[hal] at h1';rw[show lpO (q5t q20) _=_ from h1'];simp only[ji];by_cases h2:(1 < p.M_/\Z7 t p.t_≠0)/\0<=idM p.t_ a
        ·grind
        · simp only[eq_false h2,jo,jl,ji,zX,rP];rw[show(⟨ps[i].T_,p.M_,p.t_⟩:RP)=rP ⟨ps[i].T_,p.M_,p.t_⟩ from rfl,zAH (by omega)]
          grind)
    (λi hi a a' ha e=>by
      have hpi:ps[i]=n.K_.xs[i]:=by grind
      unfold yt at e;split at e
      ·cases e
      split at e
      ·cases e
      split at e
      ·cases e
      · cases e
        rw[List.take_succ_eq_append_getElem (show i < n.K_.xs.length by omega),Dv,Dv,ha,<- hpi];rfl)
    (λa _=>by
      unfold og2 q5u;simp only[jk,zk,hl]
      grind)
    (a:=[]) (by simp)
  rw[show(0:Int)=((0:Nat):Int) from rfl,show(mkS []:Sl RP)=mkS (([]:List PP).map rP) from rfl,this];grind
theorem zxf {t:List PT}{n:Nd}(hg:FnG n) (ht:t.length<=20000) (hn:n.K_.xs.length<=20000) :
    q47 (rN n,mkS (t.map rT))=d (match Xd t n with | .error e=>(⟨lit [],Sl.mk [] B,⟨lit [],0,0⟩⟩,e.1,e.2) | .ok s=>(rG s,0,0)):=by
  obtain⟨ps,r,b,hk,hl,htk,hr,hp,hrg,_⟩:=zm4 hg;unfold q47 qa5 Xd;have hw:Ut ((rN n).K_.len - 2)=(ps.length:Int):=by
    have:(rN n).K_.len=(ps.length:Int)+2:=by rw[zD,hk];simp[Sl.len]
    rw[this,zK (by grind) (by grind)];omega
  have hpl:ps.length<=20000:=by grind
  have htk':n.K_.xs.take ps.length=ps:=by grind
  simp only[hw,jk,hl,zk,htk'];have hr':zhy n ps.length=r:=by grind
  by_cases h8:8 < ps.length
  ·simp only[h8,show(8:Int) < (ps.length:Int) by omega,jp,YS]
  simp only[h8,show¬ ((8:Int) < (ps.length:Int)) by omega,jo];rw[show(Sl.mk [] false:Sl RP)=mkS [] from rfl,show lpO (q5u q20) _=_ from zy7 ht (n:=n) (ps:=ps) (c:=ps.length) (by rw[hk];simp) htk' hn hp (lit [],lit [],0,0) ((rN n).T_,lit [],0,0)];simp only[ji,A];cases ps.foldlM (yt t) [] with
  |error e=>rfl
  |ok l=>
    simp only[jl];have hg2:zb (rN n).K_ (ps.length:Int)=d (rN r):=by rw[zD,hk];rw[wF];simp
    simp only[hg2,ji,zly (.inr hrg) (show t.length<=100000 by omega),hr'];cases we t r with
    |none=>simp only[Dq,jp,YS]
    |some p=>simp only[Da,jj,jo,rG,zrJ,zX]
theorem zxg{t:List PT}{k:Nd}{e:Er}(h:Xd t k = .error e):e.2≠0:=by
 unfold Xd at h;simp only at h;split at h
 ·cases h;simp
 generalize k.K_.xs.take (k.K_.xs.length - 2)=ps at h;have hf:∀(ps:List Nd) a e,ps.foldlM (yt t) a = .error e->e.2≠0:=by
  intro ps
  induction ps with
  |nil=>intro a e h;cases h
  |cons x l ih=>
   intro a e h;rw[List.foldlM_cons] at h;cases hx:yt t a x with
   |ok b=>rw[hx] at h;exact ih b e h
   |error er=>
    rw[hx] at h;cases h;unfold yt at hx;split at hx
    all_goals grind
 cases e1:ps.foldlM (yt t) [] with
 |error er=>rw[e1] at h;cases h;grind
 |ok l=>
  rw[e1] at h;simp only[A] at h;grind
theorem zt2 {t:List PT}{n:Nd}(hg:∀k∈n.K_.xs,k.k_=6->FnG k/\k.K_.xs.length<=20000) (ht:t.length<=20000) (hn:n.K_.xs.length<=20000) :
    q2e (rN n,mkS (t.map rT))=d (match zdY t n.K_.xs with | .error e=>(e.1,e.2,Sl.mk [] B) | .ok s=>(0,0,mkS (s.map rG))):=by
  have:=zab (f:=q5d q47) (xs:=n.K_.xs) (step:=λs k=>if k.k_=6 then(Xd t k).bind λx =>.ok (s++[x]) else .ok s) (st:=λi a=>(mkS (t.map rT),(i:Int),rN n,mkS (a.map rG))) (fin:=λa =>.inr (mkS (a.map rG))) (er:=λ_ e =>.inl e) (I:=λi a=>a.length<=i)
    (λi hi a ha=>by
      unfold q5d;have hw:=zw (k:=i) (by omega);have hg0:zb (rN n).K_ (i:Int)=d (rN n.K_.xs[i]):=by rw[zD,zh (by simpa using hi)];simp
      simp only[jk,zk];rw[ju (by rw[zD];simp[Sl.len];omega),hg0];simp only[ji,ZT];by_cases h1:n.K_.xs[i].k_=6
      · obtain⟨g1,g2⟩:=hg _ (g9 hi) h1;simp only[h1,UW,js,jo,jp,zxf g1 ht g2,ji];cases e:Xd t n.K_.xs[i] with
        |error e2=>have:=zxg e;simp only[this,jt,jp,ji,jl,A]
        |ok x=>
          simp only[js,jo,A];rw[xQ (by omega) (by simp;omega)];grind
      grind)
    (λi hi a a' ha e=>by
      split at e
      · cases e1:Xd t n.K_.xs[i] with
        |error er=>rw[e1] at e;cases e
        |ok x=>rw[e1] at e;cases e;simp;omega
      grind)
    (λa _=>by
      unfold q5d;simp only[jk]
      rw[jv (by rw[zD];simp[Sl.len])])
    (a:=[]) (by simp)
  unfold q2e q96;simp only[zk];show((lpO (q5d q47) (mkS (t.map rT),((0:Nat):Int),rN n,mkS (([]:List PSg).map rG))).bind _)=_;unfold zdY;cases e:n.K_.xs.foldlM (m:=Except Er) (λs k=>if k.k_=6 then(Xd t k).bind λx =>.ok (s++[x]) else .ok s) [] with
  |error er=>
    grind
  |ok s=>
    grind
end Go.Px
