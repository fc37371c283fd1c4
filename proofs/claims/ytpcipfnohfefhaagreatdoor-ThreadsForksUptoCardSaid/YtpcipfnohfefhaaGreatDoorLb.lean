/- Part Lb: Px22QA Px22QB Px22QC Px22QD Px22QE Px22QF Px2 -/
import Derived.Test.YtpcipfnohfefhaaGreatDoorLa
set_option linter.unusedVariables false
set_option linter.unusedSimpArgs false
namespace Go.Px
open Bool renaming true->j,false->C
open _root_.Option renaming some->o
open Sl renaming mk->D
open Sum renaming inl->A,inr->B,elim->E
variable{k:Int}{s:List UInt8}{α β:Type}{m:Us β}
section
abbrev Tk:=qn
abbrev Nd:=q6
abbrev nilS:Sl α:=⟨[],C⟩
def hd:List Tk->Tk
 |[]=>⟨0,lit [],0,0⟩
 |t::_=>t
abbrev PR(α:Type):=Except (Int×Int) (α×List Tk)
def PR.bd(r:PR α)(f:α->List Tk->PR β):PR β:=match r with
 | .error e =>.error e
 | .ok (a,ts)=>f a ts
def isP(s:List UInt8)(ts:List Tk):Bool:=(decide ((hd ts).k_=2) || decide ((hd ts).k_=4)) && decide ((hd ts).T_=lit s)
def xM(e:Int)(ts:List Tk):PR α :=.error ((hd ts).a_,e)
def zY(s:List UInt8)(ts:List Tk):PR Unit:=if isP s ts=j then .ok ((),ts.tail) else xM 20 ts
def wa(k:Int)(ts:List Tk):PR Tk:=if(hd ts).k_=k then .ok (hd ts,ts.tail) else xM 20 ts
def Za(ts:List Tk):PR Nd:=(wa 1 ts).bd λt ts =>.ok (⟨5,t.T_,0,t.a_,nilS⟩,ts)
def Ym(sg:Int)(ts:List Tk):PR Int:=(wa 3 ts).bd λt ts =>.ok (sg * t.n_,ts)
def Nd.num(n:Nd)(v:Int):Nd:=⟨n.k_,n.T_,v,n.a_,n.K_⟩
def xN(n:Nd)(ts:List Tk):PR Nd:=
 if isP [43] ts=j then(Ym 1 ts.tail).bd λv ts =>.ok (Nd.num n v,ts)
 else if isP [45] ts=j then(Ym (-1) ts.tail).bd λv ts =>.ok (Nd.num n v,ts)
 else .ok (n,ts)
def Z2(ts:List Tk):PR Nd:=
 if(hd ts).k_=3 then(Ym 1 ts).bd λv t1 =>.ok (⟨5,lit [],v,(hd ts).a_,nilS⟩,t1)
 else if isP [45] ts=j then(Ym (-1) ts.tail).bd λv t1 =>.ok (⟨5,lit [],v,(hd ts).a_,nilS⟩,t1)
 else(Za ts).bd xN
def zb1(ts:List Tk):PR Uq:=
 if isP [60] ts=j then .ok (lit [60],ts.tail) else if isP [60,61] ts=j then .ok (lit [60,61],ts.tail) else if isP [61,61] ts=j then .ok (lit [61,61],ts.tail) else xM 20 ts
def Zr(one:List Tk->PR Nd):Nat->List Nd->List Tk->PR (List Nd)
 |0,acc,ts =>.ok (acc,ts)
 |k+1,acc,ts=>if isP [44] ts=j then(one ts.tail).bd λa ts=>Zr one k (acc++[a]) ts else .ok (acc,ts)
def Z9(one:List Tk->PR Nd)(ts:List Tk):PR (List Nd):=(one ts).bd λa t1=>Zr one ts.length [a] t1
def V6(ts:List Tk):PR (Sl Nd):=(zY [40] ts).bd λ_ t1=>
 if isP [41] t1=j then .ok (nilS,t1.tail) else(Z9 Z2 t1).bd λl t2=>(zY [41] t2).bd λ_ t3 =>.ok (⟨l,j⟩,t3)
def WT(ts:List Tk):PR Nd:=
 if isP [111,119,110] ts=j then .ok (⟨2,(hd ts).T_,0,(hd ts).a_,nilS⟩,ts.tail)
 else if isP [99,101,108,108] ts=j then .ok (⟨2,(hd ts).T_,0,(hd ts).a_,nilS⟩,ts.tail)
 else if isP [99,111,117,110,116,101,100] ts=j then(Za ts.tail).bd λk t1 =>.ok (⟨2,(hd ts).T_,0,(hd ts).a_,⟨[k],j⟩⟩,t1)
 else if isP [108,111,99,107] ts=j then(Za ts.tail).bd λk t1 =>.ok (⟨2,(hd ts).T_,0,(hd ts).a_,⟨[k],j⟩⟩,t1)
 else if isP [103,117,97,114,100] ts=j then(Za ts.tail).bd λk t1 =>.ok (⟨2,(hd ts).T_,0,(hd ts).a_,⟨[k],j⟩⟩,t1)
 else xM 20 ts
def xx(ts:List Tk):PR Nd:=(Za ts).bd λn t1=>
 if isP [91] t1=j then(Za t1.tail).bd λk t2=>(zY [93] t2).bd λ_ t3 =>.ok (⟨3,n.T_,n.n_,n.a_,⟨[k],j⟩⟩,t3)
 else .ok (⟨3,n.T_,n.n_,n.a_,nilS⟩,t1)
def Yy(ts:List Tk):PR Nd:=(Z2 ts).bd λa t1=>(zb1 t1).bd λop t2=>(Z2 t2).bd λb t3 =>.ok (⟨4,op,0,a.a_,⟨[a,b],j⟩⟩,t3)
def zdi(at_:Int)(ts:List Tk):PR Nd:=(Za ts).bd λn t1=>(WT t1).bd λs t2=>
 (if isP [123] t2=j then(Z9 xx t2.tail).bd λl t3=>(zY [125] t3).bd λ_ t4 =>.ok ([s]++l,t4) else .ok ([s],t2):PR (List Nd)).bd λks t5=>
 (if isP [119,104,101,114,101] t5=j then(Z9 Yy t5.tail).bd λl t6 =>.ok (ks++l,t6) else .ok (ks,t5):PR (List Nd)).bd λks t7=>
 (zY [59] t7).bd λ_ t8 =>.ok (⟨1,n.T_,n.n_,at_,⟨ks,j⟩⟩,t8)
def w8(ts:List Tk):PR Nd:=
 if isP [105,110,116] ts=j then .ok (⟨8,(hd ts).T_,0,(hd ts).a_,nilS⟩,ts.tail)
 else if isP [111,119,110] ts=j then(Za ts.tail).bd λk t1 =>.ok (⟨8,(hd ts).T_,0,(hd ts).a_,⟨[k],j⟩⟩,t1)
 else(zY [38] ts).bd λ_ t1=>
  if isP [109,117,116] t1=j then(Za t1.tail).bd λk t2 =>.ok (⟨8,lit [38,109,117,116],0,(hd ts).a_,⟨[k],j⟩⟩,t2)
  else(Za t1).bd λk t2 =>.ok (⟨8,(hd ts).T_,0,(hd ts).a_,⟨[k],j⟩⟩,t2)
def xy(ts:List Tk):PR Nd:=(Za ts).bd λn t1=>(zY [58] t1).bd λ_ t2=>(w8 t2).bd λm t3 =>.ok (⟨7,n.T_,n.n_,n.a_,⟨[m],j⟩⟩,t3)
def atP(k:Int)(ts:List Tk):PR Nd:=(Za ts).bd λn t1=>(zY [91] t1).bd λ_ t2=>(Ym 1 t2).bd λv t3=>(zY [93] t3).bd λ_ t4 =>.ok (⟨k,n.T_,v,n.a_,nilS⟩,t4)
def vy(ts:List Tk):PR Nd:=
 if isP [110,101,119] ts=j then(Ym 1 ts.tail).bd λv t1 =>.ok (⟨23,lit [],v,(hd ts).a_,nilS⟩,t1)
 else if isP [97,114,114,97,121] ts=j then(Za ts.tail).bd λk t1 =>.ok (⟨24,k.T_,0,(hd ts).a_,nilS⟩,t1)
 else if isP [38] ts=j then
  (if isP [109,117,116] ts.tail=j then(Za ts.tail.tail).bd λk t1 =>.ok (⟨27,k.T_,0,(hd ts).a_,nilS⟩,t1) else(Za ts.tail).bd λk t1 =>.ok (⟨26,k.T_,0,(hd ts).a_,nilS⟩,t1))
 else if(hd ts).k_≠1 then Z2 ts
 else(Za ts).bd λn t1=>
  if isP [40] t1=j then(V6 t1).bd λks t2 =>.ok (⟨28,n.T_,n.n_,n.a_,ks⟩,t2)
  else if isP [91] t1=j then(Z2 t1.tail).bd λa t2=>(zY [93] t2).bd λ_ t3 =>.ok (⟨25,n.T_,n.n_,n.a_,⟨[a],j⟩⟩,t3)
  else if isP [43] t1=j/\(hd t1.tail).k_=1 then(Za t1.tail).bd λb t2 =>.ok (⟨21,lit [],0,n.a_,⟨[n,b],j⟩⟩,t2)
  else if isP [45] t1=j/\(hd t1.tail).k_=1 then(Za t1.tail).bd λb t2 =>.ok (⟨22,lit [],0,n.a_,⟨[n,b],j⟩⟩,t2)
  else xN n t1
def W8(n:Nd)(ts:List Tk):PR Nd:=
 if isP [40] ts=j then(V6 ts).bd λks t1 =>.ok (⟨20,lit [],0,n.a_,⟨[⟨28,n.T_,n.n_,n.a_,ks⟩],j⟩⟩,t1)
 else if isP [91] ts=j then(Z2 ts.tail).bd λa t1=>(zY [93] t1).bd λ_ t2=>(zY [61] t2).bd λ_ t3=>(Z2 t3).bd λb t4 =>.ok (⟨11,n.T_,n.n_,n.a_,⟨[a,b],j⟩⟩,t4)
 else(zY [61] ts).bd λ_ t1=>(vy t1).bd λe t2 =>.ok (⟨10,n.T_,n.n_,n.a_,⟨[e],j⟩⟩,t2)
def WE(n:Nd)(ts:List Tk):PR Nd:=(zY [59] ts).bd λ_ t1 =>.ok (n,t1)
def wD(blk:List Tk->PR Nd)(k at_:Int)(ts:List Tk):PR Nd:=(Yy ts).bd λn t1=>(blk t1).bd λb t2 =>.ok (⟨k,n.T_,n.n_,at_,⟨n.K_.xs++[b],j⟩⟩,t2)
def YQ(blk:List Tk->PR Nd)(ts:List Tk):PR Nd:=
 if isP [102,114,101,101] ts=j then(Za ts.tail).bd λn t1=>WE ⟨12,n.T_,n.n_,(hd ts).a_,nilS⟩ t1
 else if isP [108,111,99,107] ts=j then(atP 13 ts.tail).bd λn t1=>WE ⟨n.k_,n.T_,n.n_,(hd ts).a_,nilS⟩ t1
 else if isP [117,110,108,111,99,107] ts=j then(atP 14 ts.tail).bd λn t1=>WE ⟨n.k_,n.T_,n.n_,(hd ts).a_,nilS⟩ t1
 else if isP [105,102] ts=j then(wD blk 15 (hd ts).a_ ts.tail).bd λn t1=>
  if isP [101,108,115,101] t1=j then(blk t1.tail).bd λb t2 =>.ok (⟨n.k_,n.T_,n.n_,n.a_,⟨n.K_.xs++[b],j⟩⟩,t2)
  else .ok (⟨n.k_,n.T_,n.n_,n.a_,⟨n.K_.xs++[⟨9,lit [],0,(hd ts).a_,nilS⟩],j⟩⟩,t1)
 else if isP [119,104,105,108,101] ts=j then wD blk 16 (hd ts).a_ ts.tail
 else if isP [114,101,116,117,114,110] ts=j then
  (if isP [59] ts.tail=j then WE ⟨17,lit [],0,(hd ts).a_,nilS⟩ ts.tail else(Z2 ts.tail).bd λa t1=>WE ⟨17,lit [],0,(hd ts).a_,⟨[a],j⟩⟩ t1)
 else if isP [97,98,111,114,116] ts=j then WE ⟨18,lit [],0,(hd ts).a_,nilS⟩ ts.tail
 else if isP [102,111,114,107] ts=j then(Za ts.tail).bd λn t1=>(V6 t1).bd λks t2=>WE ⟨19,n.T_,n.n_,(hd ts).a_,ks⟩ t2
 else(Za ts).bd λn t1=>(W8 n t1).bd WE
def xz(one:List Tk->PR Nd):Nat->List Nd->List Tk->PR (List Nd)
 |0,acc,ts=>xM 20 ts
 |k+1,acc,ts=>if isP [125] ts=j then .ok (acc,ts.tail) else(one ts).bd λa t1=>xz one k (acc++[a]) t1
def mkS(l:List α):Sl α:=⟨l, !l.isEmpty⟩
def ye:Nat->List Tk->PR Nd
 |0,ts=>if isP [123] ts=j then xM 21 ts else xM 20 ts
 |r+1,ts=>(zY [123] ts).bd λ_ t1=>(xz (YQ (ye r)) t1.length [] t1).bd λl t2 =>.ok (⟨9,lit [],0,(hd ts).a_,mkS l⟩,t2)
def fnP(at_:Int)(ts:List Tk):PR Nd:=(Za ts).bd λn t1=>(zY [40] t1).bd λ_ t2=>
 (if isP [41] t2=j then .ok ([],t2) else Z9 xy t2:PR (List Nd)).bd λps t3=>(zY [41] t3).bd λ_ t4=>
 (if isP [45,62] t4=j then(if isP [38] t4.tail=j then xM 20 t4.tail else w8 t4.tail) else .ok (⟨8,lit [],0,(hd t4).a_,nilS⟩,t4):PR Nd).bd λret t5=>
 (ye 8 t5).bd λb t6 =>.ok (⟨6,n.T_,n.n_,at_,⟨ps++[ret,b],j⟩⟩,t6)
def Yv:Nat->List Nd->List Tk->PR (List Nd)
 |0,acc,ts=>xM 20 ts
 |k+1,acc,ts=>if(hd ts).k_=0 then .ok (acc,ts)
  else if isP [102,110] ts=j then(fnP (hd ts).a_ ts.tail).bd λa t1=>Yv k (acc++[a]) t1
  else(zY [116,121,112,101] ts).bd λ_ t1=>(zdi (hd ts).a_ t1).bd λa t2=>Yv k (acc++[a]) t2
structure TGood(ts:List Tk):Prop where
 ne:ts≠[]
 last:∀h:ts≠[],(ts.getLast h).k_=0
 len:ts.length<=20000
 num:∀t∈ts,0<=t.n_/\t.n_<=1099511627776
theorem TGood.tail{ts:List Tk}(g:TGood ts)(h:(hd ts).k_≠0):TGood ts.tail:=by
 match ts,g,h with
 |[],g,_=>grind
 |[t],g,h=>exact absurd (g.last (by simp)) h
 |t::u::r,g,h=>
  refine⟨by simp,λ_=>?_,?_,λx hx=>g.num x (Do _ hx)⟩
  ·have:=g.last (by simp);grind
  ·have:=g.len;grind
theorem TGood.hd_idx{ts:List Tk}(g:TGood ts)(b:Bool):zb (⟨ts,b⟩:Sl Tk) 0=o (hd ts):=by
 match ts,g with
 |[],g=>exact absurd rfl g.ne
 |t::r,_=>rfl
theorem TGood.tl{ts:List Tk}(g:TGood ts)(b:Bool):Zd (⟨ts,b⟩:Sl Tk) 1 (Sl.len (⟨ts,b⟩:Sl Tk))=o ⟨ts.tail,b⟩:=by
 match ts,g with
 |[],g=>exact absurd rfl g.ne
 |t::r,_=>
  unfold Zd;rw[ju ⟨by omega,by simp[Sl.len];omega,by simp[Sl.len]⟩];simp[Sl.len]
theorem zfe{ts:List Tk}(h:isP s ts=j):(hd ts).k_≠0:=by
 unfold isP at h;grind
theorem TGood.is{ts:List Tk}(g:TGood ts)(h:isP s ts=j):TGood ts.tail:=g.tail (zfe h)
theorem TGood.tail_len{ts:List Tk}(g:TGood ts):ts.tail.length+1=ts.length:=by
 match ts,g with
 |[],g=>exact absurd rfl g.ne
 |t::r,_=>simp
abbrev PSt:=q8
def Sm(d:Int)(n:Nat)(r:PR α)(m:Us β)(er:(Int×Int)×PSt->β)(ok:α->PSt->β):Prop:=match r with
 | .error e=>∃st,m=o (er (e,st))
 | .ok (a,ts)=>m=o (ok a ⟨⟨ts,j⟩,d⟩)/\TGood ts/\ts.length<=n
theorem Sm.bd {γ δ:Type}{d:Int}{n n':Nat}{r:PR α}{f:α->List Tk->PR γ}{K:β->Us δ}{er:(Int×Int)×PSt->β}{ok:α->PSt->β}{er':(Int×Int)×PSt->δ}{ok':γ->PSt->δ}
    (h:Sm d n r m er ok) (he:∀e,K (er e)=o (er' e)) (hk:∀a ts,r = .ok (a,ts)->TGood ts->ts.length<=n->Sm d n' (f a ts) (K (ok a ⟨⟨ts,j⟩,d⟩)) er' ok'):Sm d n' (r.bd f) (m.bind K) er' ok':=by
  cases r with
  |error e=>
    obtain⟨st,rfl⟩:=h;exact⟨st,he _⟩
  |ok p=>
    obtain⟨a,ts⟩:=p;obtain⟨rfl,g,l⟩:=h;exact hk a ts rfl g l
theorem Sm.ok{d:Int}{n:Nat}{a:α}{ts:List Tk}{er:(Int×Int)×PSt->β}{ok:α->PSt->β}(g:TGood ts)(l:ts.length<=n)(h:m=o (ok a ⟨⟨ts,j⟩,d⟩)):Sm d n (.ok (a,ts)) m er ok:=⟨h,g,l⟩
theorem Sm.mono{d:Int}{n n':Nat}{r:PR α}{er:(Int×Int)×PSt->β}{ok:α->PSt->β}(h:Sm d n r m er ok)(l:n<=n'):Sm d n' r m er ok:=by
 cases r with
 |error e=>exact h
 |ok p=>exact⟨h.1,h.2.1,U9 h.2.2 l⟩
variable {d:Int}{n:Nat}{ts:List Tk}
theorem ZL(g:TGood ts):q11 ⟨⟨ts,j⟩,d⟩=o (hd ts,⟨⟨ts,j⟩,d⟩):=by
 show((zb (⟨ts,j⟩:Sl Tk) 0).bind λy0=>o (y0,(⟨⟨ts,j⟩,d⟩:PSt)))=_;rw[g.hd_idx];rfl
theorem Y5(g:TGood ts)(s:List UInt8):q23 (lit s,⟨⟨ts,j⟩,d⟩)=o (isP s ts,⟨⟨ts,j⟩,d⟩):=by
 show((q11 ⟨⟨ts,j⟩,d⟩).bind _)=_;rw[ZL g,ji];simp only[jk];unfold isP;by_cases h2:(hd ts).k_=2
 ·grind
 grind
theorem z6(g:TGood ts)(s:List UInt8):qx (lit s,⟨⟨ts,j⟩,d⟩)=o (isP s ts,if isP s ts=j then⟨⟨ts.tail,j⟩,d⟩ else⟨⟨ts,j⟩,d⟩):=by
 show((q23 (lit s,⟨⟨ts,j⟩,d⟩)).bind _)=_;rw[Y5 g,ji];cases h:isP s ts with
 |false=>rfl
 |true=>
  simp only[Da,jj,jo,jp];rw[g.tl];rfl
theorem vT(g:TGood ts)(e:Int):q1m (e,⟨⟨ts,j⟩,d⟩)=o (((hd ts).a_,e),⟨⟨ts,j⟩,d⟩):=by
 show((q11 ⟨⟨ts,j⟩,d⟩).bind _)=_;rw[ZL g];rfl
theorem za1 (g:TGood ts) {K:Bool×PSt->Us β}{p q:PR α}{er:(Int×Int)×PSt->β}{ok:α->PSt->β}(h1:isP s ts=j->TGood ts.tail->ts.tail.length+1=ts.length->Sm d n p (K (j,⟨⟨ts.tail,j⟩,d⟩)) er ok)
    (h0:isP s ts=C->Sm d n q (K (C,⟨⟨ts,j⟩,d⟩)) er ok):Sm d n (if isP s ts=j then p else q) ((qx (lit s,⟨⟨ts,j⟩,d⟩)).bind K) er ok:=by
  rw[z6 g,ji];cases h:isP s ts with
  |true=>simp only[jp];exact h1 h (g.is h) g.tail_len
  |false=>grind
theorem ZM(g:TGood ts)(s:List UInt8):Sm d (ts.length - 1) (zY s ts) (q13 (lit s,⟨⟨ts,j⟩,d⟩)) A (λ_ st=>B st):=by
 show Sm d _ _ ((qx (lit s,⟨⟨ts,j⟩,d⟩)).bind _) _ _;unfold zY;refine za1 g (λh g1 l=>?_) λh=>?_
 ·exact .ok g1 (by omega) rfl
 ·refine⟨⟨⟨ts,j⟩,d⟩,?_⟩;show((q1m (20,⟨⟨ts,j⟩,d⟩)).bind _)=_;rw[vT g];rfl
theorem zmR(g:TGood ts)(k:Int)(hk:k≠0):Sm d (ts.length - 1) (wa k ts) (q5l (k,⟨⟨ts,j⟩,d⟩)) A (λt st=>B (t,st)):=by
 show Sm d _ _ ((q11 ⟨⟨ts,j⟩,d⟩).bind _) _ _;rw[ZL g,ji];unfold wa;simp only[jk];by_cases h:(hd ts).k_=k
 ·rw[ju h,jv (by simpa using h),g.tl];exact .ok (g.tail (by omega)) (by grind) rfl
 ·rw[jv h,ju h,vT g];exact⟨_,rfl⟩
theorem zif{ts t1:List Tk}{t:Tk}(g:TGood ts)(h:wa k ts = .ok (t,t1)):0<=t.n_/\t.n_<=1099511627776:=by
 unfold wa at h;split at h
 ·cases h
  match ts,g with
  |[],g=>exact absurd rfl g.ne
  |t::r,g=>exact g.num t (by simp[hd])
 ·cases h
def ndT(n:Nd):Int×Uq×Int×Int:=(n.k_,n.T_,n.n_,n.a_)
theorem ZS(g:TGood ts):Sm d (ts.length - 1) (Za ts) (q18 ⟨⟨ts,j⟩,d⟩) A (λn st=>B (ndT n,st)):=by
 show Sm d _ _ ((q5l (1,⟨⟨ts,j⟩,d⟩)).bind _) _ _;exact(zmR g 1 (by omega)).bd (λe=>rfl) λt t1 _ g1 l =>.ok g1 l rfl
theorem XN(g:TGood ts)(sg:Int)(hs:sg=1\/sg = -1):Sm d (ts.length - 1) (Ym sg ts) (q4s (sg,⟨⟨ts,j⟩,d⟩)) A (λv st=>B (v,st)):=by
 show Sm d _ _ ((q5l (3,⟨⟨ts,j⟩,d⟩)).bind _) _ _;refine(zmR g 3 (by omega)).bd (λe=>rfl) λt t1 ht g1 l =>.ok g1 l ?_
 have:=zif g ht;show o (B (Ut (sg * t.n_),_))=_;rw[zK (by grind) (by grind)]
end
section
variable {d:Int}{n:Nat}{ts:List Tk}
theorem Sm.out{r:PR α}{er:(Int×Int)×PSt->β}{ok:α->PSt->β}(h:Sm d n r m er ok){a:α}{t1:List Tk}(e:r = .ok (a,t1)):m=o (ok a ⟨⟨t1,j⟩,d⟩)/\TGood t1/\t1.length<=n:=by
 rw[e] at h;exact h
theorem Sm.err{r:PR α}{er:(Int×Int)×PSt->β}{ok:α->PSt->β}(h:Sm d n r m er ok){e:Int×Int}(he:r = .error e):∃st,m=o (er (e,st)):=by
 rw[he] at h;exact h
theorem bd_ok{r:PR α}{f:α->List Tk->PR β}{b:β}{t:List Tk}(h:r.bd f = .ok (b,t)):∃a t1,r = .ok (a,t1)/\f a t1 = .ok (b,t):=by
 cases r with
 |error e=>cases h
 |ok p=>exact⟨p.1,p.2,rfl,h⟩
theorem Sm.map{γ:Type}{r:PR α}{K:β->Us γ}{er:(Int×Int)×PSt->β}{ok:α->PSt->β}{er':(Int×Int)×PSt->γ}{ok':α->PSt->γ}(h:Sm d n r m er ok)(he:∀e,K (er e)=o (er' e))(hk:∀a t1,r = .ok (a,t1)->TGood t1->K (ok a ⟨⟨t1,j⟩,d⟩)=o (ok' a ⟨⟨t1,j⟩,d⟩)):Sm d n r (m.bind K) er' ok':=by
 cases r with
 |error e=>obtain⟨st,rfl⟩:=h;exact⟨st,he _⟩
 |ok p=>obtain⟨rfl,g,l⟩:=h;exact⟨hk _ _ rfl g,g,l⟩
theorem zN{ts t1:List Tk}{n:Nd}(h:Za ts = .ok (n,t1)):n.K_=nilS:=by
 obtain⟨a,t,_,h⟩:=bd_ok h;cases h;rfl
theorem XA{a:Nd}(h:a.K_=nilS):q6.mk a.k_ a.T_ a.n_ a.a_ (D [] C)=a:=by cases a;grind
theorem zn(a:Nd):kg a=a:=by cases a;rfl
theorem zmS{n0:Nd}(g:TGood ts):Sm d ts.length (xN n0 ts) (q5m (n0,⟨⟨ts,j⟩,d⟩)) A (λn st=>B (n,st)):=by
 show Sm d _ _ ((qx (lit [43],⟨⟨ts,j⟩,d⟩)).bind _) _ _;unfold xN;refine za1 g (λh g1 l=>?_) λh=>?_
 ·simp only[jp,gh];exact(XN g1 1 (.inl rfl)).bd (λe=>rfl) λv t1 _ g2 l2 =>.ok g2 (by omega) rfl
 ·simp only[jj,jo,gh];refine za1 g (λh g1 l=>?_) λh=>?_
  ·simp only[jp,gh];exact(XN g1 (-1) (.inr rfl)).bd (λe=>rfl) λv t1 _ g2 l2 =>.ok g2 (by omega) rfl
  ·exact .ok g (by omega) (by simp only[jj,jo,ji,zn,jl])
theorem zgb{ts t1:List Tk}{n n0:Nd}(h0:n0.K_=nilS)(h:xN n0 ts = .ok (n,t1)):n.K_=nilS:=by
 unfold xN at h;split at h
 ·obtain⟨a,t,_,h⟩:=bd_ok h;cases h;exact h0
 ·split at h
  ·obtain⟨a,t,_,h⟩:=bd_ok h;cases h;exact h0
  grind
theorem XO{ts t1:List Tk}{n:Nd}(h:Z2 ts = .ok (n,t1)):n.K_=nilS:=by
 unfold Z2 at h;split at h
 ·obtain⟨a,t,_,h⟩:=bd_ok h;cases h;rfl
 ·split at h
  ·obtain⟨a,t,_,h⟩:=bd_ok h;cases h;rfl
  ·obtain⟨a,t,h1,h⟩:=bd_ok h;exact zgb (zN h1) h
theorem XP(g:TGood ts):Sm d (ts.length - 1) (Z2 ts) (q2d ⟨⟨ts,j⟩,d⟩) A (λn st=>B (n,st)):=by
 show Sm d _ _ ((q11 ⟨⟨ts,j⟩,d⟩).bind _) _ _;rw[ZL g,ji,ZL g,ji];unfold Z2;simp only[jk];by_cases h3:(hd ts).k_=3
 ·rw[ju h3,ju h3];simp only[gh];exact(XN g 1 (.inl rfl)).bd (λe=>rfl) λv t1 _ g2 l2 =>.ok g2 (by omega) rfl
 ·rw[jv h3,jv h3];simp only[gh];refine za1 g (λh g1 l=>?_) λh=>?_
  ·simp only[jp,gh];exact(XN g1 (-1) (.inr rfl)).bd (λe=>rfl) λv t1 _ g2 l2 =>.ok g2 (by omega) rfl
  ·show Sm d _ _ ((q18 ⟨⟨ts,j⟩,d⟩).bind _) _ _;refine(ZS g).bd (λe=>rfl) λn t1 en g1 l1=>?_
   show Sm d _ _ (((q5m (q6.mk n.k_ n.T_ n.n_ n.a_ (D [] C),⟨⟨t1,j⟩,d⟩)).bind _).bind _) _ _;rw[gh,XA (zN en)];refine Sm.mono ?_ l1;exact Sm.map (zmS g1) (λe=>rfl) λa t2 _ _=>by simp only[jl,ji,zn]
theorem zyR(g:TGood ts):Sm d (ts.length - 1) (zb1 ts) (qd4 ⟨⟨ts,j⟩,d⟩) B (λs st=>A (s,st)):=by
  have body:∀(i:Int) (s:List UInt8),0<=i->i < 3->ve [lit [60],lit [60,61],lit [61,61]] i=o (lit s)->
      q72 qx q1m ((lit [60],lit [60,61],lit [61,61]),i,⟨⟨ts,j⟩,d⟩)=if isP s ts=j then o (.done (.inl (lit s,⟨⟨ts.tail,j⟩,d⟩))) else o (.next ((lit [60],lit [60,61],lit [61,61]),i+1,⟨⟨ts,j⟩,d⟩)):=by
    intro i s h0 h3 hn;unfold q72;simp only[jk,ju h3,hn,ji,z6 g];cases h:isP s ts with
    |true=>grind
    |false=>simp only[jj,jo];rw[zK (by omega) (by omega)]
  have e0:=body 0 [60] (by omega) (by omega) rfl;have e1:=body 1 [60,61] (by omega) (by omega) rfl;have e2:=body 2 [61,61] (by omega) (by omega) rfl;show Sm d _ _ ((lpO (q72 qx q1m) ((lit [60],lit [60,61],lit [61,61]),0,⟨⟨ts,j⟩,d⟩)).bind _) _ _;unfold zb1;rw[Zs,e0];cases h0:isP [60] ts with
  |true=>exact .ok (g.is h0) (by grind) rfl
  |false=>
    simp only[jj,jo,ji];rw[Zs,show(0:Int)+1=1 from rfl,e1];cases h1:isP [60,61] ts with
    |true=>exact .ok (g.is h1) (by grind) rfl
    |false=>
      simp only[jj,jo,ji];rw[Zs,show(1:Int)+1=2 from rfl,e2];cases h2:isP [61,61] ts with
      |true=>exact .ok (g.is h2) (by grind) rfl
      |false=>
        simp only[jj,jo,ji];rw[Zs,show(2:Int)+1=3 from rfl];have e3:q72 qx q1m ((lit [60],lit [60,61],lit [61,61]),3,⟨⟨ts,j⟩,d⟩)=o (.done (.inr ⟨⟨ts,j⟩,d⟩)):=rfl;rw[e3];simp only[ji,jl,vT g];exact⟨_,rfl⟩
theorem VC{acc:List Nd}{a:Nd}(h:acc.length<=30000)(b:Bool):zp 64 (⟨acc,b⟩:Sl Nd) [a]=o ⟨acc++[a],j⟩:=by
 rw[yP (by simp;omega) (by simp;omega)];simp
abbrev zoO:=Step (PSt×Sl Nd) (((Int×Int)×PSt)⊕(PSt×Sl Nd))
def zdR(d:Int)(one:List Tk->PR Nd)(f:PSt×Sl Nd->Us zoO):Prop:=∀(ts:List Tk) (acc:List Nd),TGood ts->acc.length<=30000->
 (isP [44] ts=C->f (⟨⟨ts,j⟩,d⟩,⟨acc,j⟩)=o (.done (.inr (⟨⟨ts,j⟩,d⟩,⟨acc,j⟩))))/\
 (isP [44] ts=j->match one ts.tail with
  | .error e=>∃st,f (⟨⟨ts,j⟩,d⟩,⟨acc,j⟩)=o (.done (.inl (e,st)))
  | .ok (a,t1)=>TGood t1/\t1.length+1<=ts.length/\f (⟨⟨ts,j⟩,d⟩,⟨acc,j⟩)=o (.next (⟨⟨t1,j⟩,d⟩,⟨acc++[a],j⟩)))
theorem zdj {one:List Tk->PR Nd}{f:PSt×Sl Nd->Us zoO}(hf:zdR d one f):∀(k:Nat) (ts:List Tk) (acc:List Nd),TGood ts->ts.length<=k->acc.length+ts.length<=30000->
    Sm d ts.length (Zr one k acc ts) (lpO f (⟨⟨ts,j⟩,d⟩,⟨acc,j⟩)) A (λl st=>B (st,⟨l,j⟩))/\∀l t1,Zr one k acc ts = .ok (l,t1)->l.length+t1.length<=acc.length+ts.length
  |0,ts,acc,g,hk,ha=>absurd (UD (by omega)) g.ne
  |k+1,ts,acc,g,hk,ha=>by
    obtain⟨h0,h1⟩:=hf ts acc g (by omega);rw[Zs];show Sm d _ (if isP [44] ts=j then _ else _) _ _ _/\∀l t1,(if isP [44] ts=j then _ else _)=_->_
    cases h:isP [44] ts with
    |false=>
      rw[h0 h];simp only[jj,jo,ji];exact⟨.ok g (U7 _) rfl,λl t1 e=>by grind⟩
    |true=>
      have h1:=h1 h;simp only[jp];cases e:one ts.tail with
      |error er=>
        rw[e] at h1;obtain⟨st,h1⟩:=h1;rw[h1];exact⟨⟨st,rfl⟩,λl t1 e=>by cases e⟩
      |ok p=>
        obtain⟨a,t1⟩:=p;rw[e] at h1;obtain⟨g1,l1,h1⟩:=h1;rw[h1];have ih:=zdj hf k t1 (acc++[a]) g1 (by omega) (by simp;omega);exact⟨ih.1.mono (by omega),λl t2 e2=>by have:=ih.2 l t2 e2;grind⟩
theorem zhp:zdR d Z2 (q9q q2d qx):=by
 intro ts acc g ha;unfold q9q;simp only[z6 g,ji];refine⟨λh=>by rw[h];rfl,λh=>?_⟩;rw[h];simp only[jp];have s:=XP (d:=d) (g.is h);cases e:Z2 ts.tail with
 |error er=>obtain⟨st,s⟩:=s.err e;grind
 |ok p=>
  obtain⟨a,t1⟩:=p;obtain⟨s,g1,l1⟩:=s.out e;have:=g.tail_len;refine⟨g1,by omega,?_⟩;have hk:=XO e;rw[s];simp only[ji,jl,zn,VC ha]
end
section
variable {d:Int}{n:Nat}{ts:List Tk}
theorem zb2 {one:List Tk->PR Nd}{f:PSt×Sl Nd->Us zoO}(hf:zdR d one f) {er:(Int×Int)×PSt->β}{ok:Nd->PSt->β}{K:β->Us (((Int×Int)×PSt)⊕(PSt×Sl Nd))}(g:TGood ts) (h:Sm d (ts.length - 1) (one ts) m er ok)
    (he:∀e,K (er e)=o (A e)) (hk:∀a t1,one ts = .ok (a,t1)->K (ok a ⟨⟨t1,j⟩,d⟩)=(lpO f (⟨⟨t1,j⟩,d⟩,⟨[a],j⟩)).bind λy9=>E (λy10=>o (A y10)) (λy11=>o (B y11)) y9) :
    Sm d (ts.length - 1) (Z9 one ts) (m.bind K) A (λl st=>B (st,⟨l,j⟩))/\∀l t1,Z9 one ts = .ok (l,t1)->l.length+t1.length<=ts.length:=by
  have hlen:=g.len;have h0:=g.tail_len;constructor
  · refine h.bd he λa t1 e g1 l1=>?_
    rw[hk a t1 e];have:=(zdj hf ts.length t1 [a] g1 (by omega) (by simp;omega)).1;refine Sm.mono ?_ l1;exact Sm.map this (λe=>rfl) λl t2 _ _=>rfl
  ·intro l t2 e;obtain⟨a,t1,e1,e2⟩:=bd_ok e;obtain⟨_,g1,l1⟩:=h.out e1;have:=(zdj hf ts.length t1 [a] g1 (by omega) (by simp;omega)).2 l t2 e2;grind
theorem zk3(g:TGood ts):Sm d (ts.length - 1) (Z9 Z2 ts) (q9x ⟨⟨ts,j⟩,d⟩) A (λl st=>B (st,⟨l,j⟩))/\∀l t1,Z9 Z2 ts = .ok (l,t1)->l.length+t1.length<=ts.length:=by
 refine zb2 zhp g (XP g) (λe=>rfl) λa t1 e=>?_
 simp only[jl,zn]
theorem zhq(g:TGood ts):Sm d (ts.length - 1) (V6 ts) (q5n ⟨⟨ts,j⟩,d⟩) A (λl st=>B (st,l)):=by
 show Sm d _ _ ((q13 (lit [40],⟨⟨ts,j⟩,d⟩)).bind _) _ _;refine(ZM g [40]).bd (λe=>rfl) λ_ t1 _ g1 l1=>?_
 refine za1 g1 (λh g2 l=>?_) λh=>?_
 ·exact .ok g2 (by omega) rfl
 ·refine(zk3 g1).1.bd (λe=>rfl) λl t2 _ g2 l2=>?_
  refine(ZM g2 [41]).bd (λe=>rfl) λ_ t3 _ g3 l3 =>.ok g3 (by omega) rfl
def ndK(n:Nd)(st:PSt):(Int×Uq×Int×Int)×PSt×Sl Nd:=(ndT n,st,n.K_)
theorem zwR(g:TGood ts):Sm d (ts.length - 1) (WT ts) (qce ⟨⟨ts,j⟩,d⟩) B (λn st=>A (ndK n st)):=by
  show Sm d _ _ ((q11 ⟨⟨ts,j⟩,d⟩).bind _) _ _;rw[ZL g,ji,ZL g,ji,z6 g,ji];have ht:=g.tail_len;unfold WT
  have nm:∀{K:((Int×Int)×PSt⊕(Int×Uq×Int×Int)×PSt)->Us ((Int×Uq×Int×Int)×PSt×Sl Nd⊕(Int×Int)×PSt)},TGood ts.tail->
      (∀e,K (A e)=o (B e))->(∀k t1,Za ts.tail = .ok (k,t1)->K (B (ndT k,⟨⟨t1,j⟩,d⟩))=o (A (ndK ⟨2,(hd ts).T_,0,(hd ts).a_,⟨[k],j⟩⟩ ⟨⟨t1,j⟩,d⟩)))->
      Sm d (ts.length - 1) ((Za ts.tail).bd λk t1 =>.ok (⟨2,(hd ts).T_,0,(hd ts).a_,⟨[k],j⟩⟩,t1)) ((q18 ⟨⟨ts.tail,j⟩,d⟩).bind K) B (λn st=>A (ndK n st)):=
    λ{K} g1 h1 h2=>(ZS g1).bd h1 λk t1 e g2 l2 =>.ok g2 (by omega) (h2 k t1 e)
  have kk:∀k t1,Za ts.tail = .ok (k,t1)->q6.mk (ndT k).1 (ndT k).2.1 (ndT k).2.2.1 (ndT k).2.2.2 (D [] C)=k:=λk t1 e=>XA (zN e)
  cases h1:isP [111,119,110] ts with
  |true=>exact .ok (g.is h1) (by omega) rfl
  |false=>
    simp only[jj,jo,z6 g,ji];cases h2:isP [99,101,108,108] ts with
    |true=>exact .ok (g.is h2) (by omega) rfl
    |false=>
      simp only[jj,jo,z6 g,ji];cases h3:isP [99,111,117,110,116,101,100] ts with
      |true=>
        simp only[jp,ji,gh];exact nm (g.is h3) (λe=>rfl) λk t1 e=>by
          simp only[jl,ji,kk k t1 e];rfl
      |false=>
        simp only[jj,jo,z6 g,ji];cases h4:isP [108,111,99,107] ts with
        |true=>
          simp only[jp,ji,gh];exact nm (g.is h4) (λe=>rfl) λk t1 e=>by
            simp only[jl,ji,kk k t1 e];rfl
        |false=>
          simp only[jj,jo,z6 g,ji];cases h5:isP [103,117,97,114,100] ts with
          |true=>
            simp only[jp,ji,gh];exact nm (g.is h5) (λe=>rfl) λk t1 e=>by
              simp only[jl,ji,kk k t1 e];rfl
          |false=>
            simp only[jj,jo,ji,vT g];exact⟨_,rfl⟩
theorem zk4(g:TGood ts):Sm d (ts.length - 1) (xx ts) (q8s ⟨⟨ts,j⟩,d⟩) A (λn st=>B (ndK n st)):=by
 show Sm d _ _ ((q18 ⟨⟨ts,j⟩,d⟩).bind _) _ _;refine(ZS g).bd (λe=>rfl) λn t1 _ g1 l1=>?_
 refine za1 g1 (λh g2 l=>?_) λh=>?_
 ·simp only[jp,gh];refine(ZS g2).bd (λe=>rfl) λk t2 e g3 l3=>?_
  show Sm d _ _ (((q13 (lit [93],⟨⟨t2,j⟩,d⟩)).bind _).bind _) _ _;rw[gh];refine(ZM g3 [93]).bd (λe=>rfl) λ_ t4 _ g4 l4 =>.ok g4 (by omega) ?_
  have:=XA (zN e);simp only[jl,ji,ndT,this];rfl
 ·exact .ok g1 (by omega) rfl
theorem zhr(g:TGood ts):Sm d (ts.length - 1) (Yy ts) (q4l ⟨⟨ts,j⟩,d⟩) A (λn st=>B (ndK n st)):=by
 show Sm d _ _ ((q2d ⟨⟨ts,j⟩,d⟩).bind _) _ _;refine(XP g).bd (λe=>rfl) λa t1 ea g1 l1=>?_
 refine(zyR g1).bd (λe=>rfl) λop t2 _ g2 l2=>?_
 refine(XP g2).bd (λe=>rfl) λb t3 eb g3 l3 =>.ok g3 (by omega) ?_
 simp only[jl,zn];rfl
theorem zgc:zdR d xx (q8l q8s qx):=by
 intro ts acc g ha;unfold q8l;simp only[z6 g,ji];refine⟨λh=>by rw[h];rfl,λh=>?_⟩;rw[h];simp only[jp];have s:=zk4 (d:=d) (g.is h);cases e:xx ts.tail with
 |error er=>obtain⟨st,s⟩:=s.err e;grind
 |ok p=>
  obtain⟨a,t1⟩:=p;obtain⟨s,g1,l1⟩:=s.out e;have:=g.tail_len;refine⟨g1,by omega,?_⟩;rw[s];simp only[ji,jl,ndK,ndT,zn,VC ha]
theorem zhs:zdR d Yy (q9r q4l qx):=by
 intro ts acc g ha;unfold q9r;simp only[z6 g,ji];refine⟨λh=>by rw[h];rfl,λh=>?_⟩;rw[h];simp only[jp];have s:=zhr (d:=d) (g.is h);cases e:Yy ts.tail with
 |error er=>obtain⟨st,s⟩:=s.err e;grind
 |ok p=>
  obtain⟨a,t1⟩:=p;obtain⟨s,g1,l1⟩:=s.out e;have:=g.tail_len;refine⟨g1,by omega,?_⟩;rw[s];simp only[ji,jl,ndK,ndT,zn,VC ha]
theorem zcz(g:TGood ts):Sm d (ts.length - 1) (Z9 xx ts) (q9s ⟨⟨ts,j⟩,d⟩) A (λl st=>B (st,⟨l,j⟩))/\∀l t1,Z9 xx ts = .ok (l,t1)->l.length+t1.length<=ts.length:=by
 refine zb2 zgc g (zk4 g) (λe=>rfl) λa t1 e=>?_
 simp only[jl,ndK,ndT,zn]
theorem zk5(g:TGood ts):Sm d (ts.length - 1) (Z9 Yy ts) (q9y ⟨⟨ts,j⟩,d⟩) A (λl st=>B (st,⟨l,j⟩))/\∀l t1,Z9 Yy ts = .ok (l,t1)->l.length+t1.length<=ts.length:=by
 refine zb2 zhs g (zhr g) (λe=>rfl) λa t1 e=>?_
 simp only[jl,ndK,ndT,zn]
theorem zmT{xs l:List Nd}(h:xs.length+l.length<=60000):zp 64 (⟨xs,j⟩:Sl Nd) l=o ⟨xs++l,j⟩:=by
 rw[yP (by simp;omega) (by simp;omega)];simp
theorem zyS(g:TGood ts)(at_:Int):Sm d (ts.length - 1) (zdi at_ ts) (qak (at_,⟨⟨ts,j⟩,d⟩)) A (λn st=>B (ndK n st)):=by
 have hlen:=g.len;show Sm d _ _ ((q18 ⟨⟨ts,j⟩,d⟩).bind _) _ _;refine(ZS g).bd (λe=>rfl) λn t1 _ g1 l1=>?_
 refine(zwR g1).bd (λe=>rfl) λs t2 _ g2 l2=>?_
 show Sm d _ _ ((qx (lit [123],⟨⟨t2,j⟩,d⟩)).bind _) _ _;rw[z6 g2,ji];have hs:q6.mk (ndK s ⟨⟨t2,j⟩,d⟩).1.1 (ndK s ⟨⟨t2,j⟩,d⟩).1.2.1 (ndK s ⟨⟨t2,j⟩,d⟩).1.2.2.1 (ndK s ⟨⟨t2,j⟩,d⟩).1.2.2.2 (ndK s ⟨⟨t2,j⟩,d⟩).2.2=s:=zn s;simp only[hs];have hlen2:=g2.len;refine Sm.bd (er:=A) (ok:=λ(l:List Nd) (st:PSt)=>B (st,(0,lit [],0,0),(1,n.T_,n.n_,at_),(⟨l,j⟩:Sl Nd))) (n:=t2.length) ?_ (λe=>rfl) λks t5 e5 g5 l5=>?_
 ·cases h:isP [123] t2 with
  |false=>exact .ok g2 (U7 _) rfl
  |true=>
   simp only[jp];have g3:=g2.is h;have hl3:=g2.tail_len;obtain⟨k1,k2⟩:=zcz (d:=d) g3;refine k1.bd (λe=>rfl) λl t3 e g4 l4=>?_
   have:=k2 l t3 e;simp only[jl];rw[zmT (by simp;omega),ji];exact(ZM g4 [125]).bd (λe=>rfl) λ_ t4 _ g5 l5 =>.ok g5 (by omega) rfl
 have hks:ks.length<=20001:=by
  split at e5
  ·rename_i h;have hl3:=g2.tail_len;obtain⟨l,t3,e1,e2⟩:=bd_ok e5;obtain⟨_,t4,_,e3⟩:=bd_ok e2;cases e3;have:=(zcz (d:=d) (g2.is h)).2 l t3 e1;simp;omega
  grind
 show Sm d _ _ ((qx (lit [119,104,101,114,101],⟨⟨t5,j⟩,d⟩)).bind _) _ _;rw[z6 g5,ji];have hlen5:=g5.len;refine Sm.bd (er:=A) (ok:=λ(l:List Nd) (st:PSt)=>B (st,(0,lit [],0,0),(1,n.T_,n.n_,at_),(⟨l,j⟩:Sl Nd))) (n:=t5.length) ?_ (λe=>rfl) λks2 t7 e7 g7 l7=>?_
 ·cases h:isP [119,104,101,114,101] t5 with
  |false=>exact .ok g5 (U7 _) rfl
  |true=>
   simp only[jp];have g3:=g5.is h;have hl3:=g5.tail_len;obtain⟨k1,k2⟩:=zk5 (d:=d) g3;refine k1.bd (λe=>rfl) λl t3 e g4 l4=>?_
   have:=k2 l t3 e;simp only[jl];rw[zmT (by omega),ji];exact .ok g4 (by omega) rfl
 exact(ZM g7 [59]).bd (λe=>rfl) λ_ t8 _ g8 l8 =>.ok g8 (by omega) rfl
end
section
variable {d:Int}{n:Nat}{ts:List Tk}
theorem zmU(g:TGood ts):Sm d (ts.length - 1) (w8 ts) (q9z ⟨⟨ts,j⟩,d⟩) B (λn st=>A (n,st)):=by
 show Sm d _ _ ((q11 ⟨⟨ts,j⟩,d⟩).bind _) _ _;rw[ZL g,ji,ZL g,ji,z6 g,ji];have ht:=g.tail_len;unfold w8;cases h1:isP [105,110,116] ts with
 |true=>exact .ok (g.is h1) (by omega) rfl
 |false=>
  simp only[jj,jo,z6 g,ji];cases h2:isP [111,119,110] ts with
  |true=>
   simp only[jp,ji,jm];refine(ZS (g.is h2)).bd (λe=>rfl) λk t1 e g1 l1 =>.ok g1 (by omega) ?_
   have:=XA (zN e);simp only[jl,ndT,this]
  |false=>
   simp only[jj,jo,gh];refine(ZM g [38]).bd (λe=>rfl) λ_ t1 _ g1 l1=>?_
   simp only[jl,z6 g1,ji,gh];cases h3:isP [109,117,116] t1 with
   |true=>
    simp only[jp,ji,jm];have:=g1.tail_len;refine(ZS (g1.is h3)).bd (λe=>rfl) λk t2 e g2 l2 =>.ok g2 (by omega) ?_
    have:=XA (zN e);simp only[jl,ndT,this]
   |false=>
    simp only[jj,jo,ji,jm];refine(ZS g1).bd (λe=>rfl) λk t2 e g2 l2 =>.ok g2 (by omega) ?_
    have:=XA (zN e);simp only[jl,ndT,this]
theorem zk6(g:TGood ts):Sm d (ts.length - 1) (xy ts) (q8t ⟨⟨ts,j⟩,d⟩) A (λn st=>B (ndK n st)):=by
 show Sm d _ _ ((q18 ⟨⟨ts,j⟩,d⟩).bind _) _ _;refine(ZS g).bd (λe=>rfl) λn t1 _ g1 l1=>?_
 refine(ZM g1 [58]).bd (λe=>rfl) λ_ t2 _ g2 l2=>?_
 exact(zmU g2).bd (λe=>rfl) λm t3 _ g3 l3 =>.ok g3 (by omega) (by simp only[jm,zn];rfl)
theorem zgd:zdR d xy (q8m q8t qx):=by
 intro ts acc g ha;unfold q8m;simp only[z6 g,ji];refine⟨λh=>by rw[h];rfl,λh=>?_⟩;rw[h];simp only[jp];have s:=zk6 (d:=d) (g.is h);cases e:xy ts.tail with
 |error er=>obtain⟨st,s⟩:=s.err e;grind
 |ok p=>
  obtain⟨a,t1⟩:=p;obtain⟨s,g1,l1⟩:=s.out e;have:=g.tail_len;refine⟨g1,by omega,?_⟩;rw[s];simp only[ji,jl,ndK,ndT,zn,VC ha]
theorem zcA(g:TGood ts):Sm d (ts.length - 1) (Z9 xy ts) (q9t ⟨⟨ts,j⟩,d⟩) A (λl st=>B (st,⟨l,j⟩))/\∀l t1,Z9 xy ts = .ok (l,t1)->l.length+t1.length<=ts.length:=by
 refine zb2 zgd g (zk6 g) (λe=>rfl) λa t1 e=>?_
 simp only[jl,ndK,ndT,zn]
theorem zuX(g:TGood ts)(k:Int):Sm d (ts.length - 1) (atP k ts) (qaw (k,⟨⟨ts,j⟩,d⟩)) A (λn st=>B (ndT n,st)):=by
 show Sm d _ _ ((q18 ⟨⟨ts,j⟩,d⟩).bind _) _ _;refine(ZS g).bd (λe=>rfl) λn t1 _ g1 l1=>?_
 refine(ZM g1 [91]).bd (λe=>rfl) λ_ t2 _ g2 l2=>?_
 refine(XN g2 1 (.inl rfl)).bd (λe=>rfl) λv t3 _ g3 l3=>?_
 exact(ZM g3 [93]).bd (λe=>rfl) λ_ t4 _ g4 l4 =>.ok g4 (by omega) rfl
theorem W9(g:TGood ts)(n:Nd):Sm d (ts.length - 1) (WE n ts) (q6i (n,⟨⟨ts,j⟩,d⟩)) A (λn st=>B (n,st)):=by
 show Sm d _ _ ((q13 (lit [59],⟨⟨ts,j⟩,d⟩)).bind _) _ _;exact(ZM g [59]).bd (λe=>rfl) λ_ t1 _ g1 l1 =>.ok g1 (by omega) (by simp only[jl,zn])
theorem TGood.idx1{ts:List Tk}(g:TGood ts.tail):zb (⟨ts,j⟩:Sl Tk) 1=o (hd ts.tail):=by
 match ts,g with
 |[],g=>exact absurd rfl g.ne
 |[t],g=>exact absurd rfl g.ne
 |t::u::r,_=>rfl
theorem zht{ts:List Tk}(h:isP [43] ts=j):isP [45] ts=false:=by
 unfold isP at h |-
 simp only[gf,jk] at h;have:¬ (hd ts).T_=lit [45]:=by
  rw[h.2];intro e;have:=congrArg bs e;simp[X4] at this
 simp[this]
theorem zwS(g:TGood ts):Sm d (ts.length - 1) (vy ts) (qcf ⟨⟨ts,j⟩,d⟩) A (λn st=>B (n,st)):=by
 show Sm d _ _ ((q11 ⟨⟨ts,j⟩,d⟩).bind _) _ _;rw[ZL g,ji,z6 g,ji];have ht:=g.tail_len;unfold vy;cases h1:isP [110,101,119] ts with
 |true=>
  simp only[jp,gh];exact(XN (g.is h1) 1 (.inl rfl)).bd (λe=>rfl) λv t1 _ g1 l1 =>.ok g1 (by omega) rfl
 |false=>
 simp only[jj,jo,z6 g,ji];cases h2:isP [97,114,114,97,121] ts with
 |true=>
  simp only[jp,gh];exact(ZS (g.is h2)).bd (λe=>rfl) λv t1 _ g1 l1 =>.ok g1 (by omega) rfl
 |false=>
 simp only[jj,jo,z6 g,ji];cases h3:isP [38] ts with
 |true=>
  have g1:=g.is h3;simp only[jp,z6 g1,ji];cases h4:isP [109,117,116] ts.tail with
  |true=>
   have:=g1.tail_len;simp only[jp,ji,gh];exact(ZS (g1.is h4)).bd (λe=>rfl) λv t1 _ g2 l2 =>.ok g2 (by omega) rfl
  |false=>
   simp only[jj,jo,ji,gh];exact(ZS g1).bd (λe=>rfl) λv t1 _ g2 l2 =>.ok g2 (by omega) rfl
 |false=>
 simp only[jj,jo,ZL g,ji,jk];by_cases hk:(hd ts).k_=1
 case neg=>
  simp only[UW,hk,jt,jp,gh];refine Sm.map (XP g) (λe=>rfl) λv t1 e g2=>?_
  simp only[jl,jm,ji,zn]
 case pos=>
 simp only[UW,hk,js,jo,ji,jl];refine(ZS g).bd (λe=>rfl) λn t1 en g1 l1=>?_
 have hn:=XA (zN en);have ht1:=g1.tail_len;simp only[jl,Y5 g1,ji];cases h4:isP [40] t1 with
 |true=>
  simp only[jp,gh];exact(zhq g1).bd (λe=>rfl) λv t2 _ g2 l2 =>.ok g2 (by omega) rfl
 |false=>
 simp only[jj,jo,z6 g1,ji];cases h5:isP [91] t1 with
 |true=>
  simp only[jp,gh];refine(XP (g1.is h5)).bd (λe=>rfl) λa t2 ea g2 l2=>?_
  have ha:=XA (XO ea);show Sm d _ _ (((q13 (lit [93],⟨⟨t2,j⟩,d⟩)).bind _).bind _) _ _;rw[gh];exact(ZM g2 [93]).bd (λe=>rfl) λ_ t3 _ g3 l3 =>.ok g3 (by omega) (by simp only[jl,jm,ji,ndT,zn])
 |false=>
 simp only[jj,jo,ji,jl,Y5 g1];by_cases hp:isP [43] t1=j/\(hd t1.tail).k_=1
 ·obtain⟨hp1,hp2⟩:=hp;have hm:=zht hp1;have gt:=g1.is hp1;have mo:=(ZM (d:=d) g1 [43]).out (show zY [43] t1 = .ok ((),t1.tail) by unfold zY;grind);rw[ju ⟨hp1,hp2⟩];simp only[hp1,hm,jp,jj,jo,ji,gt.idx1,hp2,jr,mo.1,jl];have nm:=ZS (d:=d) gt;cases e:Za t1.tail with
  |error er=>
   obtain⟨st,h⟩:=nm.err e;simp only[h,Y5 g1,hp1,hm,jp,jj,jo,gt.idx1,hp2,jr,mo.1,ji,jl,jm,Zz];exact⟨st,rfl⟩
  |ok q=>
   obtain⟨k,t2⟩:=q;obtain⟨h,g2,l2⟩:=nm.out e;have hk2:=XA (zN e);simp only[h,Y5 g1,hp1,hm,jp,jj,jo,gt.idx1,hp2,jr,mo.1,ji,jl,jm,Zz];simp only[ndT,hk2,hn];exact .ok g2 (by omega) rfl
 ·rw[jv hp];by_cases hq:isP [45] t1=j/\(hd t1.tail).k_=1
  ·obtain⟨hp1,hp2⟩:=hq;have hm:isP [43] t1=false:=by
    grind
   have gt:=g1.is hp1;have mo:=(ZM (d:=d) g1 [45]).out (show zY [45] t1 = .ok ((),t1.tail) by unfold zY;grind);rw[ju ⟨hp1,hp2⟩];simp only[hp1,hm,jp,jj,jo,ji,gt.idx1,hp2,jr,mo.1,jl];have nm:=ZS (d:=d) gt;cases e:Za t1.tail with
   |error er=>
    obtain⟨st,h⟩:=nm.err e;simp only[h,Y5 g1,hp1,hm,jp,jj,jo,gt.idx1,hp2,jr,mo.1,ji,jl,jm,Zz];exact⟨st,rfl⟩
   |ok q=>
    obtain⟨k,t2⟩:=q;obtain⟨h,g2,l2⟩:=nm.out e;have hk2:=XA (zN e);simp only[h,Y5 g1,hp1,hm,jp,jj,jo,gt.idx1,hp2,jr,mo.1,ji,jl,jm,Zz];simp only[ndT,hk2,hn];exact .ok g2 (by omega) rfl
  ·rw[jv hq];have fin:Sm d (ts.length - 1) (xN n t1) ((q5m (q6.mk (ndT n).1 (ndT n).2.1 (ndT n).2.2.1 (ndT n).2.2.2 (D [] C),⟨⟨t1,j⟩,d⟩)).bind λy=>E (λe=>o (A e)) (λz=>o (B (kg z.1,z.2))) y) A (λn st=>B (n,st)):=by
    refine Sm.mono ?_ l1;rw[show q6.mk (ndT n).1 (ndT n).2.1 (ndT n).2.2.1 (ndT n).2.2.2 (D [] C)=n from hn];refine Sm.map (zmS g1) (λe=>rfl) λa t2 e _=>?_
    simp only[jl,zn]
   cases hp1:isP [43] t1 with
   |true=>
    have gt:=g1.is hp1;have hm:=zht hp1;have hk1:¬ (hd t1.tail).k_=1:=λe=>hp ⟨hp1,e⟩
    simp only[Y5 g1,hp1,hm,jp,jj,jo,ji,gt.idx1,hk1,jq,jl,Zz];exact fin
   |false=>
    cases hq1:isP [45] t1 with
    |true=>
     have gt:=g1.is hq1;have hk1:¬ (hd t1.tail).k_=1:=λe=>hq ⟨hq1,e⟩
     simp only[Y5 g1,hp1,hq1,jp,jj,jo,ji,gt.idx1,hk1,jq,jl,Zz];exact fin
    |false=>
     simp only[Y5 g1,hp1,hq1,jj,jo,ji,jl,Zz];exact fin
end
section
variable {d:Int}{n:Nat}{ts:List Tk}
theorem ztI(g:TGood ts)(n:Nd):Sm d (ts.length - 1) (W8 n ts) (q8u (n,⟨⟨ts,j⟩,d⟩)) A (λn st=>B (ndK n st)):=by
 show Sm d _ _ ((q23 (lit [40],⟨⟨ts,j⟩,d⟩)).bind _) _ _;rw[Y5 g,ji];have ht:=g.tail_len;unfold W8;cases h1:isP [40] ts with
 |true=>
  simp only[jp,gh];exact(zhq g).bd (λe=>rfl) λv t1 _ g1 l1 =>.ok g1 (by omega) rfl
 |false=>
 simp only[jj,jo,z6 g,ji];cases h2:isP [91] ts with
 |true=>
  simp only[jp,gh];refine(XP (g.is h2)).bd (λe=>rfl) λa t1 ea g1 l1=>?_
  show Sm d _ _ (((q13 (lit [93],⟨⟨t1,j⟩,d⟩)).bind _).bind _) _ _;rw[gh];refine(ZM g1 [93]).bd (λe=>rfl) λ_ t2 _ g2 l2=>?_
  show Sm d _ _ (((q13 (lit [61],⟨⟨t2,j⟩,d⟩)).bind _).bind _) _ _;rw[gh];refine(ZM g2 [61]).bd (λe=>rfl) λ_ t3 _ g3 l3=>?_
  show Sm d _ _ (((q2d ⟨⟨t3,j⟩,d⟩).bind _).bind _) _ _;rw[gh];refine(XP g3).bd (λe=>rfl) λb t4 eb g4 l4 =>.ok g4 (by omega) ?_
  simp only[jl,jm,ji,zn];rfl
 |false=>
 simp only[jj,jo,ji,jl];refine(ZM g [61]).bd (λe=>rfl) λ_ t1 _ g1 l1=>?_
 refine(zwS g1).bd (λe=>rfl) λa t2 _ g2 l2 =>.ok g2 (by omega) ?_
 simp only[jl,zn];rfl
def zge(d:Int)(h:PSt->Us ((Int×Int)×PSt⊕(Int×Uq×Int×Int)×PSt×Sl Nd))(blk:List Tk->PR Nd):Prop:=∀ts,TGood ts->Sm d (ts.length - 1) (blk ts) (h ⟨⟨ts,j⟩,d⟩) A (λn st=>B (ndK n st))
variable {h:PSt->Us ((Int×Int)×PSt⊕(Int×Uq×Int×Int)×PSt×Sl Nd)}{blk:List Tk->PR Nd}
theorem zb3{ts t1:List Tk}{n:Nd}(h:Yy ts = .ok (n,t1)):∃a b,n.K_=⟨[a,b],j⟩:=by
 obtain⟨a,t,_,h⟩:=bd_ok h;obtain⟨op,t2,_,h⟩:=bd_ok h;obtain⟨b,t3,_,h⟩:=bd_ok h;grind
theorem zig(hb:zge d h blk)(g:TGood ts)(k a:Int):Sm d (ts.length - 1) (wD blk k a ts) (q3v h (k,a,⟨⟨ts,j⟩,d⟩)) A (λn st=>B (ndK n st)):=by
 show Sm d _ _ ((q4l ⟨⟨ts,j⟩,d⟩).bind _) _ _;refine(zhr g).bd (λe=>rfl) λn t1 e1 g1 l1=>?_
 refine(hb t1 g1).bd (λe=>rfl) λb t2 e2 g2 l2 =>.ok g2 (by omega) ?_
 obtain⟨x,y,hk⟩:=zb3 e1;simp only[jl,ndK,ndT,hk,zn];rw[VC (by simp)];rfl
theorem zdk{ts t1:List Tk}{n:Nd}{a:Int}(h:wD blk k a ts = .ok (n,t1)):∃a b c,n.K_=⟨[a,b,c],j⟩:=by
 obtain⟨m,t,e,h⟩:=bd_ok h;obtain⟨b,t2,_,h⟩:=bd_ok h;obtain⟨x,y,hk⟩:=zb3 e;grind
theorem zb4(x:Nd×Int):q81 x=o (⟨x.1.k_,x.1.T_,x.1.n_,x.2,x.1.K_⟩,x.2):=rfl
set_option maxHeartbeats 1000000 in
theorem zwT(hb:zge d h blk)(g:TGood ts):Sm d (ts.length - 1) (YQ blk ts) (q3o h ⟨⟨ts,j⟩,d⟩) A (λn st=>B (n,st)):=by
 show Sm d _ _ ((q11 ⟨⟨ts,j⟩,d⟩).bind _) _ _;rw[ZL g,ji,z6 g,ji];have ht:=g.tail_len;unfold YQ;cases h1:isP [102,114,101,101] ts with
 |true=>
  simp only[jp,gh];refine(ZS (g.is h1)).bd (λe=>rfl) λn t1 _ g1 l1=>?_
  refine Sm.mono (n:=t1.length - 1) ?_ (by omega);simp only[jl,zb4,ji,gh,ndT];exact Sm.map (W9 g1 ⟨12,n.T_,n.n_,(hd ts).a_,nilS⟩) (λe=>rfl) λa t2 ea g2=>by
   simp only[jl,jm,ji,zn]
 |false=>
 simp only[jj,jo,z6 g,ji];cases h2:isP [108,111,99,107] ts with
 |true=>
  simp only[jp,gh];refine(zuX (g.is h2) 13).bd (λe=>rfl) λn t1 _ g1 l1=>?_
  refine Sm.mono (n:=t1.length - 1) ?_ (by omega);simp only[jl,zb4,ji,gh,ndT];exact Sm.map (W9 g1 ⟨n.k_,n.T_,n.n_,(hd ts).a_,nilS⟩) (λe=>rfl) λa t2 ea g2=>by
   simp only[jl,jm,ji,zn]
 |false=>
 simp only[jj,jo,z6 g,ji];cases h3:isP [117,110,108,111,99,107] ts with
 |true=>
  simp only[jp,gh];refine(zuX (g.is h3) 14).bd (λe=>rfl) λn t1 _ g1 l1=>?_
  refine Sm.mono (n:=t1.length - 1) ?_ (by omega);simp only[jl,zb4,ji,gh,ndT];exact Sm.map (W9 g1 ⟨n.k_,n.T_,n.n_,(hd ts).a_,nilS⟩) (λe=>rfl) λa t2 ea g2=>by
   simp only[jl,jm,ji,zn]
 |false=>
 simp only[jj,jo,z6 g,ji];cases h4:isP [105,102] ts with
 |true=>
  simp only[jp,gh];refine(zig hb (g.is h4) 15 (hd ts).a_).bd (λe=>rfl) λn t1 en g1 l1=>?_
  obtain⟨x,y,z,hk⟩:=zdk en;simp only[jl,ndK,ndT,hk,z6 g1,ji,gh];cases h5:isP [101,108,115,101] t1 with
  |true=>
   have:=g1.tail_len;simp only[jp,gh];refine(hb t1.tail (g1.is h5)).bd (λe=>rfl) λb t2 _ g2 l2 =>.ok g2 (by omega) ?_
   simp only[jl,ndK,ndT,zn];rw[VC (by simp)];rfl
  |false=>
   simp only[jj,jo];rw[VC (by simp)];exact .ok g1 (by omega) rfl
 |false=>
 simp only[jj,jo,z6 g,ji];cases h5:isP [119,104,105,108,101] ts with
 |true=>
  simp only[jp,gh];refine Sm.mono (n:=ts.tail.length - 1) ?_ (by omega);exact Sm.map (zig hb (g.is h5) 16 (hd ts).a_) (λe=>rfl) λa t1 ea g1=>by
   simp only[jl,jm,ji,ndK,ndT,zn]
 |false=>
 simp only[jj,jo,z6 g,ji];cases h6:isP [114,101,116,117,114,110] ts with
 |true=>
  have g1:=g.is h6;simp only[jp,Y5 g1,ji,gh];cases h7:isP [59] ts.tail with
  |true=>
   simp only[Da,jj,jo,jp,ji,jl];refine Sm.mono (n:=ts.tail.length - 1) ?_ (by omega);show Sm d _ _ (((q6i (_,⟨⟨ts.tail,j⟩,d⟩)).bind _).bind _) _ _;rw[gh];exact Sm.map (W9 g1 ⟨17,lit [],0,(hd ts).a_,nilS⟩) (λe=>rfl) λa t1 ea g1=>by
    simp only[jl,jm,ji,zn]
  |false=>
   simp only[Dq,jj,jo,jp,gh];refine(XP g1).bd (λe=>rfl) λa t1 ea g2 l2=>?_
   simp only[jl,ji,gh,zn];refine Sm.mono (n:=t1.length - 1) ?_ (by omega);exact Sm.map (W9 g2 ⟨17,lit [],0,(hd ts).a_,⟨[a],j⟩⟩) (λe=>rfl) λb t2 eb g3=>by
    simp only[jl,jm,ji,zn]
 |false=>
 simp only[jj,jo,z6 g,ji];cases h7:isP [97,98,111,114,116] ts with
 |true=>
  have g1:=g.is h7;simp only[jp,gh];refine Sm.mono (n:=ts.tail.length - 1) ?_ (by omega);exact Sm.map (W9 g1 ⟨18,lit [],0,(hd ts).a_,nilS⟩) (λe=>rfl) λa t2 ea g2=>by
   simp only[jl,jm,ji,zn]
 |false=>
 simp only[jj,jo,z6 g,ji];cases h8:isP [102,111,114,107] ts with
 |true=>
  simp only[jp,gh];refine(ZS (g.is h8)).bd (λe=>rfl) λn t1 _ g1 l1=>?_
  simp only[jl,gh];refine(zhq g1).bd (λe=>rfl) λks t2 _ g2 l2=>?_
  simp only[jl,zb4,ji,gh,ndT];refine Sm.mono (n:=t2.length - 1) ?_ (by omega);exact Sm.map (W9 g2 ⟨19,n.T_,n.n_,(hd ts).a_,ks⟩) (λe=>rfl) λb t2 eb g3=>by
   simp only[jl,jm,ji,zn]
 |false=>
 simp only[jj,jo,ji,jl,gh];refine(ZS g).bd (λe=>rfl) λn t1 en g1 l1=>?_
 simp only[jl,gh];rw[show q6.mk (ndT n).1 (ndT n).2.1 (ndT n).2.2.1 (ndT n).2.2.2 (D [] C)=n from XA (zN en)];refine(ztI g1 n).bd (λe=>rfl) λm t2 _ g2 l2=>?_
 simp only[jl,gh,ndK,ndT,zn];refine Sm.mono (n:=t2.length - 1) ?_ (by omega);exact Sm.map (W9 g2 m) (λe=>rfl) λb t2 eb g3=>by
  grind
end
section
variable {d:Int}{n:Nat}{ts:List Tk}
variable {h:PSt->Us ((Int×Int)×PSt⊕(Int×Uq×Int×Int)×PSt×Sl Nd)}{blk:List Tk->PR Nd}
theorem zuY{acc:List Nd}{a:Nd}(h:acc.length<=30000):zp 64 (mkS acc) [a]=o (mkS (acc++[a])):=by
 rw[yP (by simp[mkS];omega) (by simp[mkS];omega)];simp[mkS]
noncomputable abbrev zhu(h:PSt->Us ((Int×Int)×PSt⊕(Int×Uq×Int×Int)×PSt×Sl Nd)):=qe7 q11 q23 q1m q13 qx (q3o h)
theorem zgf (hb:zge d h blk) {u v:Int×Uq×Int×Int}:∀(k:Nat) (ts:List Tk) (acc:List Nd),TGood ts->ts.length<=k->acc.length+ts.length<=30000->
    Sm d (ts.length - 1) (xz (YQ blk) k acc ts) (lpO (zhu h) (⟨⟨ts,j⟩,d⟩,u,v,mkS acc)) A (λl st=>B (st,u,v,mkS l))/\∀l t1,xz (YQ blk) k acc ts = .ok (l,t1)->l.length+t1.length<=acc.length+ts.length
  |0,ts,acc,g,hk,ha=>absurd (UD (by omega)) g.ne
  |k+1,ts,acc,g,hk,ha=>by
    have ht:=g.tail_len;rw[Zs];show Sm d _ (if isP [125] ts=j then _ else _) ((((qx (lit [125],⟨⟨ts,j⟩,d⟩)).bind _)).bind _) _ _/\∀l t1,(if isP [125] ts=j then _ else _)=_->_
    rw[z6 g,ji];cases e:isP [125] ts with
    |true=>
      simp only[jp,Da,jj,jo];exact⟨.ok (g.is e) (by omega) rfl,λl t1 e=>by cases e;omega⟩
    |false=>
      simp only[jj,jo,Dq,jp];have s:=zwT hb g;cases es:YQ blk ts with
      |error er=>
        obtain⟨st,s⟩:=s.err es;rw[s];exact⟨⟨st,rfl⟩,λl t1 e=>by cases e⟩
      |ok p=>
        obtain⟨a,t1⟩:=p;obtain⟨s,g1,l1⟩:=s.out es;rw[s];simp only[ji,jl,zn];rw[zuY (by omega)];simp only[ji];have ih:=zgf hb (u:=u) (v:=v) k t1 (acc++[a]) g1 (by omega) (by simp;omega);exact⟨ih.1.mono (by omega),λl t2 e2=>by have:=ih.2 l t2 e2;grind⟩
theorem zk7:∀(r:Nat) (k:Nat) (d:Int),d=8 - (r:Int)->0<=d->r+1<=k->zge d (q3b k) (ye r)
  |r,0,d,_,_,hk=>by omega
  |0,k+1,d,hd',h0,hk=>by
    intro ts g;show Sm d _ _ ((q11 ⟨⟨ts,j⟩,d⟩).bind _) _ _;rw[ZL g,ji,Y5 g,ji];unfold ye;cases e:isP [123] ts with
    |true=>
      have:decide (8<=d)=true:=gm (by omega);simp only[jp,ji,this,vT g];exact⟨_,rfl⟩
    |false=>
      simp only[jj,jo,ji];have hm:zY [123] ts = .error ((hd ts).a_,20):=by unfold zY;rw[e];rfl
      obtain⟨st,s⟩:=(ZM (d:=d) g [123]).err hm;rw[s];exact⟨st,rfl⟩
  |r+1,k+1,d,hd',h0,hk=>by
    intro ts g;show Sm d _ _ ((q11 ⟨⟨ts,j⟩,d⟩).bind _) _ _;rw[ZL g,ji,Y5 g,ji];unfold ye;have h8:decide (8<=d)=false:=decide_eq_false (by omega);have hb:=zk7 r k (d+1) (by omega) (by omega) (by omega);have hw:Ut (d+1)=d+1:=zK (by omega) (by omega);have hw2:Ut (d+1 - 1)=d:=by rw[zK (by omega) (by omega)];omega
    have hlen:=g.len
    have fin:Sm d (ts.length - 1) ((zY [123] ts).bd λ_ t1=>(xz (YQ (ye r)) t1.length [] t1).bd λl t2 =>.ok (⟨9,lit [],0,(hd ts).a_,mkS l⟩,t2))
        ((q13 (lit [123],⟨⟨ts,j⟩,d⟩)).bind λy4=>E (λy5=>o (A y5)) (λy6=>(lpO (zhu (q3b k)) (q8.mk y6.W_ (Ut (y6.D_+1)),(0,lit [],0,0),(9,lit [],0,(hd ts).a_),D [] C)).bind λy13=>
          E (λy14=>o (A y14)) (λy15=>o (B (y15.2.2.1,q8.mk y15.1.W_ (Ut (y15.1.D_ - 1)),y15.2.2.2))) y13) y4) A (λn st=>B (ndK n st)):=by
      refine(ZM g [123]).bd (λe=>rfl) λ_ t1 _ g1 l1=>?_
      have lp:=(zgf hb (u:=(0,lit [],0,0)) (v:=(9,lit [],0,(hd ts).a_)) t1.length t1 [] g1 (U7 _) (by simp;omega)).1;simp only[jl,hw];show Sm d _ _ ((lpO (zhu (q3b k)) (⟨⟨t1,j⟩,d+1⟩,(0,lit [],0,0),(9,lit [],0,(hd ts).a_),mkS [])).bind _) _ _;cases es:xz (YQ (ye r)) t1.length [] t1 with
      |error er=>obtain⟨st,s⟩:=lp.err es;rw[s];exact⟨st,rfl⟩
      |ok p=>
        obtain⟨l,t2⟩:=p;obtain⟨s,g2,l2⟩:=lp.out es;rw[s];simp only[ji,jl,hw2];exact .ok g2 (by omega) rfl
    cases e:isP [123] ts with
    |true=>
      grind
    |false=>
      grind
theorem zwU:zge 0 qbw (ye 8):=zk7 8 100000 0 (by omega) (by omega) (by omega)
theorem zAy{xs l:List Nd}{b:Bool}(h:xs.length+l.length<=60000)(hl:l≠[]):zp 64 (⟨xs,b⟩:Sl Nd) l=o ⟨xs++l,j⟩:=by
 rw[yP (by simp;omega) (by simp;omega)];grind
theorem zAz(g:TGood ts)(at_:Int):Sm 0 (ts.length - 1) (fnP at_ ts) (qax (at_,⟨⟨ts,j⟩,0⟩)) A (λn st=>B (ndK n st)):=by
 have hlen:=g.len;show Sm 0 _ _ ((q18 ⟨⟨ts,j⟩,0⟩).bind _) _ _;refine(ZS g).bd (λe=>rfl) λn t1 _ g1 l1=>?_
 refine(ZM g1 [40]).bd (λe=>rfl) λ_ t2 _ g2 l2=>?_
 simp only[jl,Y5 g2,ji];have h2:=g2.tail_len;refine Sm.bd (er:=A) (ok:=λ(l:List Nd) (st:PSt)=>B (st,(0,lit [],0,0),(6,n.T_,n.n_,at_),(mkS l:Sl Nd))) (n:=t2.length) ?_ (λe=>rfl) λks t3 e3 g3 l3=>?_
 ·cases e:isP [41] t2 with
  |true=>exact .ok g2 (U7 _) rfl
  |false=>
   simp only[jj,jo,Dq,jp];refine Sm.mono (n:=t2.length - 1) ?_ (by omega);obtain⟨k1,k2⟩:=zcA (d:=0) g2;refine Sm.map k1 (λe=>rfl) λl t3 el g3=>?_
   have hne:l≠[]:=by
    obtain⟨a,t,_,e2⟩:=bd_ok el;have:∀(k:Nat) (acc:List Nd) (t:List Tk) (l:List Nd) (t3:List Tk),acc≠[]->Zr xy k acc t = .ok (l,t3)->l≠[]:=by
     intro k
     induction k with
     |zero=>intro acc t l t3 ha e;cases e;exact ha
     |succ k ih=>
      intro acc t l t3 ha e;unfold Zr at e;split at e
      ·obtain⟨a,t',_,e⟩:=bd_ok e;grind
      grind
    grind
   cases l with
   |nil=>grind
   |cons a l=>rfl
 have hks:ks.length<=20001:=by
  have hlen2:=g2.len;split at e3
  ·cases e3;simp
  ·have:=(zcA (d:=0) g2).2 ks t3 e3;omega
 refine(ZM g3 [41]).bd (λe=>rfl) λ_ t4 _ g4 l4=>?_
 simp only[jl,z6 g4,ji];have h4:=g4.tail_len;refine Sm.bd (er:=A) (ok:=λ(m:Nd) (st:PSt)=>B (st,(0,lit [],0,0),(6,n.T_,n.n_,at_),m,(mkS ks:Sl Nd))) (n:=t4.length) ?_ (λe=>rfl) λret t5 e5 g5 l5=>?_
 ·cases e:isP [45,62] t4 with
  |true=>
   have g5:=g4.is e;simp only[jp,Y5 g5,ji];cases e2:isP [38] t4.tail with
   |true=>simp only[jp,vT g5,ji];exact⟨_,rfl⟩
   |false=>
    simp only[jj,jo];refine Sm.mono (n:=t4.tail.length - 1) ?_ (by omega);exact Sm.map (zmU g5) (λe=>rfl) λa t _ _=>by simp only[jm,zn]
  |false=>
   simp only[jj,jo,ZL g4,ji];exact .ok g4 (U7 _) rfl
 refine(zwU t5 g5).bd (λe=>rfl) λb t6 _ g6 l6 =>.ok g6 (by omega) ?_
 simp only[jl,ndK,ndT,zn,mkS];rw[zAy (by simp;omega) (by simp)];rfl
end
section
mutual
def zm:Nd->Nat
 |⟨_,_,_,_,ks⟩=>zuZ ks+1
def zuZ:Sl Nd->Nat
 |⟨xs,_⟩=>zf xs
def zf:List Nd->Nat
 |[]=>0
 |a::r=>zm a+zf r
end
theorem zl(n:Nd):zm n=zf n.K_.xs+1:=by
 obtain⟨a,b,c,d,⟨xs,nn⟩⟩:=n;simp[zm,zuZ]
theorem zR:∀(a b:List Nd),zf (a++b)=zf a+zf b
 |[],b=>by simp[zf]
 |x::a,b=>by simp[zf,zR a b];omega
theorem zM{ts:List Tk}(h:isP s ts=j):ts.tail.length+1=ts.length:=by
 cases ts with
 |nil=>exact absurd rfl (zfe h)
 |cons=>simp
theorem Zo{ts t1:List Tk}{u:Unit}(h:zY s ts = .ok (u,t1)):t1.length+1=ts.length:=by
 unfold zY at h;split at h
 ·rename_i h1;cases h;exact zM h1
 ·cases h
theorem zih(hk:k≠0){ts t1:List Tk}{t:Tk}(h:wa k ts = .ok (t,t1)):t1.length+1=ts.length:=by
 unfold wa at h;split at h
 ·rename_i h1;cases h;cases ts with
  |nil=>exact absurd h1.symm hk
  |cons=>simp
 ·cases h
theorem x9{sg:Int}{ts t1:List Tk}{v:Int}(h:Ym sg ts = .ok (v,t1)):t1.length+1=ts.length:=by
 obtain⟨a,t,e,h⟩:=bd_ok h;cases h;exact zih (by omega) e
def Sz(p:List Tk->PR Nd):Prop:=∀ts n t1,p ts = .ok (n,t1)->zm n+3 * t1.length<=3 * ts.length/\t1.length+1<=ts.length
def SzL(p:List Tk->PR (List Nd)):Prop:=∀ts n t1,p ts = .ok (n,t1)->zf n+3 * t1.length<=3 * ts.length/\t1.length+1<=ts.length
theorem ZP{ts t1:List Tk}{n:Nd}(h:Za ts = .ok (n,t1)):zm n=1/\t1.length+1=ts.length:=by
 obtain⟨a,t,e,h⟩:=bd_ok h;cases h;exact⟨by simp[zl,zf],zih (by omega) e⟩
theorem zk8{ts t1:List Tk}{n m:Nd}(h:xN n ts = .ok (m,t1)):zm m=zm n/\t1.length<=ts.length:=by
 unfold xN at h;split at h
 ·rename_i hp;obtain⟨a,t,e,h⟩:=bd_ok h;cases h;have:=x9 e;have:=zM hp;exact⟨by simp[zl,Nd.num],by omega⟩
 ·split at h
  ·rename_i hp;obtain⟨a,t,e,h⟩:=bd_ok h;cases h;have:=x9 e;have:=zM hp;exact⟨by simp[zl,Nd.num],by omega⟩
  grind
theorem wu{ts t1:List Tk}{n:Nd}(h:Z2 ts = .ok (n,t1)):zm n=1/\t1.length+1<=ts.length:=by
 unfold Z2 at h;split at h
 ·obtain⟨a,t,e,h⟩:=bd_ok h;cases h;have:=x9 e;exact⟨by simp[zl,zf],by omega⟩
 ·split at h
  ·rename_i hp;obtain⟨a,t,e,h⟩:=bd_ok h;cases h;have:=x9 e;have:=zM hp;exact⟨by simp[zl,zf],by omega⟩
  ·obtain⟨a,t,e,h⟩:=bd_ok h;have h1:=ZP e;have h2:=zk8 h;grind
theorem zeK{one:List Tk->PR Nd}(ho:Sz one):∀(k:Nat) (acc:List Nd) (ts:List Tk) (l:List Nd) (t1:List Tk),Zr one k acc ts = .ok (l,t1)->zf l+3 * t1.length<=zf acc+3 * ts.length/\t1.length<=ts.length
 |0,acc,ts,l,t1,h=>by cases h;grind
 |k+1,acc,ts,l,t1,h=>by
  unfold Zr at h;split at h
  ·rename_i hp;obtain⟨a,t,e,h⟩:=bd_ok h;have h1:=ho _ _ _ e;have h2:=zeK ho k _ _ _ _ h;have h3:=zM hp;rw[zR] at h2;simp only[zf] at h2;omega
  grind
theorem zb5{one:List Tk->PR Nd}(ho:Sz one):SzL (Z9 one):=by
 intro ts l t1 h;obtain⟨a,t,e,h⟩:=bd_ok h;have h1:=ho _ _ _ e;have h2:=zeK ho _ _ _ _ _ h;simp only[zf] at h2;omega
theorem zk9:Sz Z2:=λts n t1 h=>by have:=wu h;omega
theorem zff{ts t1:List Tk}{ks:Sl Nd}(h:V6 ts = .ok (ks,t1)):zf ks.xs+3 * t1.length+3<=3 * ts.length/\t1.length+1<=ts.length:=by
 obtain⟨u,t,e,h⟩:=bd_ok h;have h0:=Zo e;split at h
 ·rename_i hp;have:=zM hp;cases h;simp[zf];omega
 ·obtain⟨l,t2,e2,h⟩:=bd_ok h;obtain⟨u,t3,e3,h⟩:=bd_ok h;cases h;have h1:=zb5 zk9 _ _ _ e2;have h2:=Zo e3;grind
theorem zdl:Sz xx:=λts n t1 h=>by
 obtain⟨a,t,e,h⟩:=bd_ok h;have h0:=ZP e;split at h
 ·rename_i hp;have:=zM hp;obtain⟨k,t2,e2,h⟩:=bd_ok h;obtain⟨u,t3,e3,h⟩:=bd_ok h;cases h;have h1:=ZP e2;have h2:=Zo e3;simp only[zl,zf] at h1 |-;omega
 ·cases h;simp only[zl,zf];omega
theorem ztJ{ts t1:List Tk}{s:Uq}(h:zb1 ts = .ok (s,t1)):t1.length+1=ts.length:=by
 unfold zb1 at h;split at h
 ·rename_i hp;cases h;exact zM hp
 ·split at h
  ·rename_i hp;cases h;exact zM hp
  ·split at h
   ·rename_i hp;cases h;exact zM hp
   ·cases h
theorem zla:Sz Yy:=λts n t1 h=>by
 obtain⟨a,t,e,h⟩:=bd_ok h;obtain⟨op,t2,e2,h⟩:=bd_ok h;obtain⟨b,t3,e3,h⟩:=bd_ok h;cases h;have h0:=wu e;have h1:=ztJ e2;have h2:=wu e3;simp only[zl,zf] at h0 h2 |-;omega
theorem ztK:Sz WT:=λts n t1 h=>by
 have go:∀{w:List UInt8} {a b:Uq} {c d:Int},isP w ts=j->((Za ts.tail).bd λk t1=>(.ok (⟨2,a,c,d,⟨[k],j⟩⟩,t1):PR Nd)) = .ok (n,t1)->zm n+3 * t1.length<=3 * ts.length/\t1.length+1<=ts.length:=by
  intro w a b c d hp h;obtain⟨k,t,e,h⟩:=bd_ok h;cases h;have h0:=ZP e;have:=zM hp;simp only[zl,zf] at h0 |-;omega
 unfold WT at h;split at h
 ·rename_i hp;have:=zM hp;cases h;simp only[zl,zf];omega
 ·split at h
  ·rename_i hp;have:=zM hp;cases h;simp only[zl,zf];omega
  ·split at h
   ·rename_i hp;exact go (b:=lit []) hp h
   ·split at h
    ·rename_i hp;exact go (b:=lit []) hp h
    ·split at h
     ·rename_i hp;exact go (b:=lit []) hp h
     ·cases h
theorem zwV(a:Int):Sz (zdi a):=λts n t1 h=>by
 obtain⟨m,t,e,h⟩:=bd_ok h;obtain⟨s,t2,e2,h⟩:=bd_ok h;obtain⟨ks,t3,e3,h⟩:=bd_ok h;obtain⟨ks2,t4,e4,h⟩:=bd_ok h;obtain⟨u,t5,e5,h⟩:=bd_ok h;cases h;have h0:=ZP e;have h1:=ztK _ _ _ e2;have h5:=Zo e5;have h3:zf ks+3 * t3.length<=zm s+3 * t2.length:=by
  split at e3
  ·rename_i hp;obtain⟨l,t6,e6,e7⟩:=bd_ok e3;obtain⟨u,t7,e7,e8⟩:=bd_ok e7;cases e8;have:=zM hp;have h6:=zb5 zdl _ _ _ e6;have:=Zo e7;simp only[List.cons_append,Db,zf];omega
  ·cases e3;simp only[zf];omega
 have h4:zf ks2+3 * t4.length<=zf ks+3 * t3.length:=by
  split at e4
  ·rename_i hp;obtain⟨l,t6,e6,e7⟩:=bd_ok e4;cases e7;have:=zM hp;have h6:=zb5 zla _ _ _ e6;rw[zR];omega
  grind
 simp only[zl] at h1 h3 |-;omega
theorem zlb:Sz w8:=λts n t1 h=>by
 have go:∀{t0:List Tk} {a:Uq} {c d:Int},t0.length+1<=ts.length->((Za t0).bd λk t1=>(.ok (⟨8,a,c,d,⟨[k],j⟩⟩,t1):PR Nd)) = .ok (n,t1)->zm n+3 * t1.length<=3 * ts.length/\t1.length+1<=ts.length:=by
  intro t0 a c d hp h;obtain⟨k,t,e,h⟩:=bd_ok h;cases h;have h0:=ZP e;simp only[zl,zf] at h0 |-;omega
 unfold w8 at h;split at h
 ·rename_i hp;have:=zM hp;cases h;simp only[zl,zf];omega
 ·split at h
  ·rename_i hp;exact go (by have:=zM hp;omega) h
  ·obtain⟨u,t,e,h⟩:=bd_ok h;have:=Zo e;split at h
   ·rename_i hp;exact go (by grind) h
   ·exact go (by omega) h
theorem zrs:Sz xy:=λts n t1 h=>by
 obtain⟨m,t,e,h⟩:=bd_ok h;obtain⟨s,t2,e2,h⟩:=bd_ok h;obtain⟨k,t3,e3,h⟩:=bd_ok h;cases h;have h0:=ZP e;have h1:=Zo e2;have h2:=zlb _ _ _ e3;simp only[zl,zf] at h2 |-;omega
theorem zrt{ts t1:List Tk}{n:Nd}(h:atP k ts = .ok (n,t1)):zm n=1/\t1.length+1<=ts.length:=by
 obtain⟨m,t,e,h⟩:=bd_ok h;obtain⟨s,t2,e2,h⟩:=bd_ok h;obtain⟨v,t3,e3,h⟩:=bd_ok h;obtain⟨u,t4,e4,h⟩:=bd_ok h;cases h;have h0:=ZP e;have h1:=Zo e2;have h2:=x9 e3;have h3:=Zo e4;exact⟨by simp[zl,zf],by omega⟩
theorem ztL:Sz vy:=λts n t1 h=>by
 unfold vy at h;split at h
 ·rename_i hp;obtain⟨a,t,e,h⟩:=bd_ok h;cases h;have:=zM hp;have:=x9 e;simp only[zl,zf];omega
 split at h
 ·rename_i hp;obtain⟨a,t,e,h⟩:=bd_ok h;cases h;have:=zM hp;have:=ZP e;simp only[zl,zf];omega
 split at h
 ·rename_i hp;have:=zM hp;split at h
  ·rename_i hq;obtain⟨a,t,e,h⟩:=bd_ok h;cases h;have:=zM hq;have:=ZP e;simp only[zl,zf];omega
  ·obtain⟨a,t,e,h⟩:=bd_ok h;cases h;have:=ZP e;simp only[zl,zf];omega
 split at h
 ·exact zk9 _ _ _ h
 obtain⟨m,t,e,h⟩:=bd_ok h;have h0:=ZP e;split at h
 ·obtain⟨ks,t2,e2,h⟩:=bd_ok h;cases h;have:=zff e2;simp only[zl];omega
 split at h
 ·rename_i hp;obtain⟨a,t2,e2,h⟩:=bd_ok h;obtain⟨u,t3,e3,h⟩:=bd_ok h;cases h;have:=zM hp;have h1:=wu e2;have:=Zo e3;simp only[zl,zf] at h1 |-;omega
 split at h
 ·rename_i hp;obtain⟨a,t2,e2,h⟩:=bd_ok h;cases h;have:=zM hp.1;have h1:=ZP e2;simp only[zl,zf] at h0 h1 |-;omega
 split at h
 ·rename_i hp;obtain⟨a,t2,e2,h⟩:=bd_ok h;cases h;have:=zM hp.1;have h1:=ZP e2;simp only[zl,zf] at h0 h1 |-;omega
 ·have:=zk8 h;omega
theorem zru{m n:Nd}{ts t1:List Tk}(h:W8 m ts = .ok (n,t1)):zm n+3 * t1.length<=3 * ts.length+2/\t1.length+1<=ts.length:=by
 unfold W8 at h;split at h
 ·obtain⟨ks,t2,e2,h⟩:=bd_ok h;cases h;have:=zff e2;simp only[zl,zf];omega
 split at h
 ·rename_i hp;obtain⟨a,t2,e2,h⟩:=bd_ok h;obtain⟨u,t3,e3,h⟩:=bd_ok h;obtain⟨u,t4,e4,h⟩:=bd_ok h;obtain⟨b,t5,e5,h⟩:=bd_ok h;cases h;have:=zM hp;have h1:=wu e2;have:=Zo e3;have:=Zo e4;have h2:=wu e5;simp only[zl,zf] at h1 h2 |-;omega
 ·obtain⟨u,t4,e4,h⟩:=bd_ok h;obtain⟨b,t5,e5,h⟩:=bd_ok h;cases h;have:=Zo e4;have h2:=ztL _ _ _ e5;simp only[zl,zf] at h2 |-;omega
theorem wE{m n:Nd}{ts t1:List Tk}(h:WE m ts = .ok (n,t1)):n=m/\t1.length+1=ts.length:=by
 obtain⟨u,t,e,h⟩:=bd_ok h;cases h;exact⟨rfl,Zo e⟩
theorem zgg{blk:List Tk->PR Nd}(hb:Sz blk)(k a:Int):Sz (wD blk k a):=λts n t1 h=>by
 obtain⟨m,t,e,h⟩:=bd_ok h;obtain⟨b,t2,e2,h⟩:=bd_ok h;cases h;have h0:=zla _ _ _ e;have h1:=hb _ _ _ e2;simp only[zl] at h0 h1 |-
 simp only[zR,zf,zl];omega
theorem ztM{blk:List Tk->PR Nd}(hb:Sz blk):Sz (YQ blk):=λts n t1 h=>by
 unfold YQ at h;split at h
 ·rename_i hp;obtain⟨a,t,e,h⟩:=bd_ok h;have:=zM hp;have:=ZP e;obtain⟨rfl,h2⟩:=wE h;simp only[zl,zf];omega
 split at h
 ·rename_i hp;obtain⟨a,t,e,h⟩:=bd_ok h;have:=zM hp;have:=zrt e;obtain⟨rfl,h2⟩:=wE h;simp only[zl,zf];omega
 split at h
 ·rename_i hp;obtain⟨a,t,e,h⟩:=bd_ok h;have:=zM hp;have:=zrt e;obtain⟨rfl,h2⟩:=wE h;simp only[zl,zf];omega
 split at h
 ·rename_i hp;obtain⟨a,t,e,h⟩:=bd_ok h;have:=zM hp;have h1:=zgg hb _ _ _ _ _ e;split at h
  ·rename_i hq;obtain⟨b,t2,e2,h⟩:=bd_ok h;cases h;have:=zM hq;have h2:=hb _ _ _ e2;simp only[zl] at h1 h2 |-
   simp only[zR,zf,zl];omega
  ·cases h;simp only[zl] at h1 |-
   simp only[zR,zf,zl];omega
 split at h
 ·rename_i hp;have:=zM hp;have h1:=zgg hb _ _ _ _ _ h;omega
 split at h
 ·rename_i hp;have:=zM hp;split at h
  ·obtain⟨rfl,h2⟩:=wE h;simp only[zl,zf];omega
  ·obtain⟨a,t,e,h⟩:=bd_ok h;have h1:=wu e;obtain⟨rfl,h2⟩:=wE h;simp only[zl,zf] at h1 |-;omega
 split at h
 ·rename_i hp;have:=zM hp;obtain⟨rfl,h2⟩:=wE h;simp only[zl,zf];omega
 split at h
 ·rename_i hp;obtain⟨a,t,e,h⟩:=bd_ok h;obtain⟨ks,t2,e2,h⟩:=bd_ok h;have:=zM hp;have:=ZP e;have:=zff e2;obtain⟨rfl,h2⟩:=wE h;simp only[zl];omega
 ·obtain⟨a,t,e,h⟩:=bd_ok h;obtain⟨m,t2,e2,h⟩:=bd_ok h;have:=ZP e;have:=zru e2;obtain⟨rfl,h2⟩:=wE h;omega
theorem zii{one:List Tk->PR Nd}(ho:Sz one):∀(k:Nat) (acc:List Nd) (ts:List Tk) (l:List Nd) (t1:List Tk),xz one k acc ts = .ok (l,t1)->zf l+3 * t1.length+3<=zf acc+3 * ts.length/\t1.length+1<=ts.length
 |0,acc,ts,l,t1,h=>by cases h
 |k+1,acc,ts,l,t1,h=>by
  unfold xz at h;split at h
  ·rename_i hp;have:=zM hp;cases h;omega
  ·obtain⟨a,t,e,h⟩:=bd_ok h;have h1:=ho _ _ _ e;have h2:=zii ho k _ _ _ _ h;rw[zR] at h2;simp only[zf] at h2;omega
theorem zij:∀r,Sz (ye r)
 |0=>λts n t1 h=>by unfold ye at h;split at h<;>cases h
 |r+1=>λts n t1 h=>by
  obtain⟨u,t,e,h⟩:=bd_ok (show((zY [123] ts).bd _)=_ from h);obtain⟨l,t2,e2,h⟩:=bd_ok h;cases h;have:=Zo e;have:=zii (ztM (zij r)) _ _ _ _ _ e2;simp only[zl,mkS,zf] at this |-;omega
theorem zyT(a:Int):Sz (fnP a):=λts n t1 h=>by
 obtain⟨m,t,e,h⟩:=bd_ok h;obtain⟨u,t2,e2,h⟩:=bd_ok h;obtain⟨ps,t3,e3,h⟩:=bd_ok h;obtain⟨u,t4,e4,h⟩:=bd_ok h;obtain⟨ret,t5,e5,h⟩:=bd_ok h;obtain⟨b,t6,e6,h⟩:=bd_ok h;cases h;have:=ZP e;have:=Zo e2;have:=Zo e4;have h6:=zij _ _ _ _ e6;have h3:zf ps+3 * t3.length<=3 * t2.length:=by
  split at e3
  ·cases e3;simp only[zf];omega
  ·have:=zb5 zrs _ _ _ e3;omega
 have h5:zm ret+3 * t5.length<=3 * t4.length+1:=by
  split at e5
  ·rename_i hp;have:=zM hp;split at e5
   ·cases e5
   ·have:=zlb _ _ _ e5;omega
  ·cases e5;simp only[zl,zf];omega
 simp only[zl] at h5 h6 |-
 simp only[zR,zf,zl];omega
theorem V7:∀(k:Nat) (acc:List Nd) (ts:List Tk) (l:List Nd) (t1:List Tk),Yv k acc ts = .ok (l,t1)->zf l+3 * t1.length<=zf acc+3 * ts.length
 |0,acc,ts,l,t1,h=>by cases h
 |k+1,acc,ts,l,t1,h=>by
  unfold Yv at h;split at h
  ·cases h;omega
  split at h
  ·rename_i hp;obtain⟨a,t,e,h⟩:=bd_ok h;have:=zM hp;have h1:=zyT _ _ _ _ e;have h2:=V7 k _ _ _ _ h;rw[zR] at h2;simp only[zf] at h2;omega
  ·obtain⟨u,t,e,h⟩:=bd_ok h;obtain⟨a,t2,e2,h⟩:=bd_ok h;have:=Zo e;have h1:=zwV _ _ _ _ e2;have h2:=V7 k _ _ _ _ h;rw[zR] at h2;simp only[zf] at h2;omega
theorem Zh(n:Nd):1<=zm n:=by rw[zl];omega
theorem zeL{xs:List Nd}{i:Nat}(h:i < xs.length):zf (xs.take (i+1))=zf (xs.take i)+zm xs[i]:=by
 rw[List.take_succ_eq_append_getElem h,zR];simp[zf]
theorem za2(xs:List Nd)(i:Nat):zf (xs.take i)<=zf xs:=by
 have:=zR (xs.take i) (xs.drop i);rw[List.take_append_drop] at this;omega
theorem zmV:∀(k:Nat) (n:Nd),zm n<=k->zm n<=1000000000->q5o k n=o (zm n:Int)
 |0,n,h,_=>by have:=Zh n;omega
 |k+1,n,h,hb=>by
  obtain⟨a,b,c,d,⟨xs,nn⟩⟩:=n;show((lpO (qbx (q5o k)) (1,(⟨xs,nn⟩:Sl Nd),Sl.len (⟨xs,nn⟩:Sl Nd),0)).bind λy3=>o y3)=_;have hs:zm ⟨a,b,c,d,⟨xs,nn⟩⟩=zf xs+1:=by rw[zl]
  have loop:∀(m i:Nat),i+m=xs.length->lpO (qbx (q5o k)) (((1+zf (xs.take i):Nat):Int),(⟨xs,nn⟩:Sl Nd),Sl.len (⟨xs,nn⟩:Sl Nd),(i:Int))=o ((1+zf xs:Nat):Int):=by
   intro m
   induction m with
   |zero=>
    intro i hi;rw[Zs];have hf:qbx (q5o k) (((1+zf (xs.take i):Nat):Int),(⟨xs,nn⟩:Sl Nd),Sl.len (⟨xs,nn⟩:Sl Nd),(i:Int))=o (.done ((1+zf (xs.take i):Nat):Int)):=by
     show(if decide ((i:Int) < (xs.length:Int))=j then _ else _)=_;grind
    grind
   |succ m ih=>
    intro i hi;have hlt:i < xs.length:=by omega
    rw[Zs];have hg:zb (⟨xs,nn⟩:Sl Nd) (i:Int)=o xs[i]:=by
     unfold zb;rw[ju (by omega)];simp[hlt]
    have h1:=zeL hlt;have h2:=za2 xs (i+1);have hr:q5o k xs[i]=o (zm xs[i]:Int):=zmV k xs[i] (by omega) (by omega);have hlen:xs.length<=zf xs:=by
     clear hr h1 h2 hg ih hs hb h hlt hi
     induction xs with
     |nil=>simp
     |cons x r ih=>have:=Zh x;simp only[zf,jy];omega
    have hf:qbx (q5o k) (((1+zf (xs.take i):Nat):Int),(⟨xs,nn⟩:Sl Nd),Sl.len (⟨xs,nn⟩:Sl Nd),(i:Int))=o (.next (((1+zf (xs.take (i+1)):Nat):Int),(⟨xs,nn⟩:Sl Nd),Sl.len (⟨xs,nn⟩:Sl Nd),((i+1:Nat):Int))):=by
     show(if decide ((i:Int) < (xs.length:Int))=j then(zb (⟨xs,nn⟩:Sl Nd) (i:Int)).bind _ else _)=_;rw[ju (by simp;omega),hg];simp only[ji,zn,hr];rw[zK (by omega) (by omega),zK (by omega) (by omega),h1];have e1:((1+zf (xs.take i):Nat):Int)+(zm xs[i]:Int)=((1+(zf (xs.take i)+zm xs[i]):Nat):Int):=by omega
     grind
    grind
  have:=loop xs.length 0 (by omega);simp only[List.take_zero,zf,US] at this;grind
theorem zwW{l:List UInt8}{n:Nat}{v:Int}(h:nxt l = .tok k n v):(0<=v/\v<=1099511627776)/\k≠0:=by
 cases l with
 |nil=>cases h
 |cons c r=>
  unfold nxt at h;simp only at h;split at h
  ·cases h
  split at h
  ·cases h
  split at h
  ·unfold XM at h;split at h
   ·cases h
   ·rename_i hb;cases h;unfold W7 at hb;grind
  split at h
  ·unfold xv at h;grind
  ·unfold xw at h;grind
theorem zwX{l:List UInt8}{e:Int}(h:nxt l = .err e):e≠0:=by
 cases l with
 |nil=>cases h;omega
 |cons c r=>
  unfold nxt at h;simp only at h;split at h
  ·cases h
  split at h
  ·cases h
  split at h
  ·unfold XM at h;grind
  split at h
  ·unfold xv at h;grind
  ·unfold xw at h;grind
theorem zfg:∀(f at_:Nat) (l:List UInt8) (ts:List Tk),w6 f at_ l = .inr ts->∀t∈ts,(0<=t.n_/\t.n_<=1099511627776)/\t.k_≠0
 |0,at_,l,ts,h=>by cases h;simp
 |f+1,at_,l,ts,h=>by
  unfold w6 at h;split at h
  ·cases h;simp
  split at h
  ·exact zfg f _ _ ts h
  ·cases h
  ·rename_i k n v hn;split at h
   ·cases h
   ·rename_i ts' hts;cases h;intro t ht;rcases UO.1 ht with rfl | ht
    ·exact zwW hn
    ·exact zfg f _ _ ts' hts t ht
theorem zdm{s:Uq}(h:(ZY s).2.1=0):TGood (ZY s).2.2.xs/\(ZY s).2.2.nn=true:=by
 unfold ZY at h |-
 by_cases hs:16384 < s.size
 ·grind
 ·rw[jv hs] at h |-
  cases e:WB 0 (bs s) with
  |inl x=>
   rw[e] at h;exfalso;have:∀(f a:Nat) (l:List UInt8) (x:Nat×Int),w6 f a l = .inl x->x.2≠0:=by
    intro f
    induction f with
    |zero=>intro a l x h;cases h
    |succ f ih=>
     intro a l x h;unfold w6 at h;split at h
     ·cases h
     split at h
     ·grind
     ·rename_i e he;cases h;exact zwX he
     grind
   exact this _ _ _ _ e h
  |inr ts=>
   have hl:=VB (bs s).length (bs s) 0 ts (U7 _) e;rw[yd] at hl;refine⟨⟨by simp,λ_=>by simp,by simp;omega,λt ht=>?_⟩,rfl⟩;simp only[Uu,Dl] at ht;rcases ht with ht | rfl
   ·exact(zfg _ _ _ _ e t ht).1
   ·simp
def wc:Nd:=⟨0,lit [],0,0,nilS⟩
def xX(s:Uq):Nd×Int×Int:=if(ZY s).2.1≠0 then(wc,(ZY s).1,(ZY s).2.1) else
 match Yv (ZY s).2.2.xs.length [] (ZY s).2.2.xs with
 | .error e=>(wc,e.1,e.2)
 | .ok (ks,_)=>if 4096 < zf ks+1 then(wc,0,22) else(⟨0,lit [],0,0,mkS ks⟩,0,0)
noncomputable abbrev Zt:=q60 qbu q11 qx qax q13 qak qcg qeo qbd
theorem zlc{acc:List Nd}{z a:Nd}(h:acc.length<=30000):∃y8:Sl Nd,zp 64 (mkS acc) [z]=o y8/\zb y8 (Sl.len (mkS acc))=o z/\y8.set (Sl.len (mkS acc)) a=mkS (acc++[a]):=by
 refine⟨_,zuY h,?_,?_⟩
 ·unfold zb mkS Sl.len;grind
 ·unfold mkS Sl.len Sl.set;cases acc<;>simp
theorem zb6 {a0 e0:Int}:∀(k:Nat) (ts:List Tk) (acc:List Nd),TGood ts->ts.length<=k->acc.length+ts.length<=30000->
    match Yv k acc ts with
    | .error e=>∃st u v w,lpO Zt ((0,lit [],0,0),a0,e0,⟨⟨ts,j⟩,0⟩,mkS acc)=o (.inl (e,u,v,w,st))
    | .ok (l,_)=>lpO Zt ((0,lit [],0,0),a0,e0,⟨⟨ts,j⟩,0⟩,mkS acc)=o (.inr ((0,lit [],0,0),a0,e0,mkS l))
  |0,ts,acc,g,hk,ha=>absurd (UD (by omega)) g.ne
  |k+1,ts,acc,g,hk,ha=>by
    have ht:=g.tail_len;have key:∀z,Zt ((0,lit [],0,0),a0,e0,⟨⟨ts,j⟩,0⟩,mkS acc)=o z->lpO Zt ((0,lit [],0,0),a0,e0,⟨⟨ts,j⟩,0⟩,mkS acc)=(match z with | .next x'=>lpO Zt x' | .done y=>o y):=λz hz=>by rw[Zs,hz];grind
    unfold Yv;by_cases h0:(hd ts).k_=0
    · rw [ju h0];have hz:Zt ((0,lit [],0,0),a0,e0,⟨⟨ts,j⟩,0⟩,mkS acc)=o (.done (.inr ((0,lit [],0,0),a0,e0,mkS acc))):=by
        unfold Zt q60;simp only[ZL g,ji,jk];grind
      exact key _ hz
    · rw[jv h0];cases e:isP [102,110] ts with
      |true=>
        simp only[jp];have s:=zAz (g.is e) (hd ts).a_;cases es:fnP (hd ts).a_ ts.tail with
        |error er=>
          obtain⟨st,s⟩:=s.err es;have hz:Zt ((0,lit [],0,0),a0,e0,⟨⟨ts,j⟩,0⟩,mkS acc)=o (.done (.inl (er,(0,lit [],0,0),a0,e0,mkS acc))):=by
            unfold Zt q60;simp only[ZL g,ji,jk];rw[ju h0];simp only[z6 g,ji,e,jp,s,jm]
          exact⟨_,_,_,_,key _ hz⟩
        |ok p=>
          obtain⟨a,t1⟩:=p;obtain⟨s,g1,l1⟩:=s.out es;obtain⟨y8,q1,q2,q3⟩:=zlc (acc:=acc) (z:=⟨0,lit [],0,0,D [] C⟩) (a:=a) (by omega);have hz:Zt ((0,lit [],0,0),a0,e0,⟨⟨ts,j⟩,0⟩,mkS acc)=o (.next ((0,lit [],0,0),a0,e0,⟨⟨t1,j⟩,0⟩,mkS (acc++[a]))):=by
            unfold Zt q60;simp only[ZL g,ji,jk];rw[ju h0];simp only[z6 g,ji,e,jp,s,jl,q1,q2,Zz,ndK,ndT,zn,q3]
          have ih:=zb6 (a0:=a0) (e0:=e0) k t1 (acc++[a]) g1 (by omega) (by simp;omega);rw[key _ hz];exact ih
      |false=>
        simp only[jj,jo];have s0:=ZM (d:=0) g [116,121,112,101];cases em:zY [116,121,112,101] ts with
        |error er=>
          obtain⟨st,s⟩:=s0.err em;have hz:Zt ((0,lit [],0,0),a0,e0,⟨⟨ts,j⟩,0⟩,mkS acc)=o (.done (.inl (er,(0,lit [],0,0),a0,e0,mkS acc))):=by
            unfold Zt q60;simp only[ZL g,ji,jk];rw[ju h0];simp only[z6 g,ji,e,jj,jo,s,jm]
          exact⟨_,_,_,_,key _ hz⟩
        |ok p=>
          obtain⟨u,t0⟩:=p;obtain⟨s,g0,l0⟩:=s0.out em;have s1:=zyS (d:=0) g0 (hd ts).a_;simp only[PR.bd];cases es:zdi (hd ts).a_ t0 with
          |error er=>
            obtain⟨st,s2⟩:=s1.err es;have hz:Zt ((0,lit [],0,0),a0,e0,⟨⟨ts,j⟩,0⟩,mkS acc)=o (.done (.inl (er,(0,lit [],0,0),a0,e0,mkS acc))):=by
              unfold Zt q60;simp only[ZL g,ji,jk];rw[ju h0];simp only[z6 g,ji,e,jj,jo,s,s2,jl,jm]
            grind
          |ok p=>
            obtain⟨a,t1⟩:=p;obtain⟨s2,g1,l1⟩:=s1.out es;obtain⟨y8,q1,q2,q3⟩:=zlc (acc:=acc) (z:=⟨0,lit [],0,0,D [] C⟩) (a:=a) (by omega);have hz:Zt ((0,lit [],0,0),a0,e0,⟨⟨ts,j⟩,0⟩,mkS acc)=o (.next ((0,lit [],0,0),a0,e0,⟨⟨t1,j⟩,0⟩,mkS (acc++[a]))):=by
              unfold Zt q60;simp only[ZL g,ji,jk];rw[ju h0];simp only[z6 g,ji,e,jj,jo,s,s2,jl,q1,q2,Zz,ndK,ndT,zn,q3]
            have ih:=zb6 (a0:=a0) (e0:=e0) k t1 (acc++[a]) g1 (by omega) (by simp;omega);grind
theorem zfh(s:Uq):q3i s=o (xX s):=by
 show((qbu s).bind _)=_;rw[zrp,ji];unfold xX;simp only[jk];by_cases h:(ZY s).2.1=0
 case neg=>rw[ju h,ju h];rfl
 case pos=>
 rw[jv (by simpa using h),jv (by simpa using h)];obtain⟨g,hn⟩:=zdm h;generalize hx:(ZY s).2.2=X at g hn;obtain⟨ts,nn⟩:=X;simp only at g hn;subst hn;have lp:=zb6 (a0:=(ZY s).1) (e0:=(ZY s).2.1) ts.length ts [] g (U7 _) (by have:=g.len;simp;omega);have hlen:=g.len;show((lpO Zt ((0,lit [],0,0),(ZY s).1,(ZY s).2.1,(⟨⟨ts,j⟩,0⟩:PSt),mkS [])).bind _)=_;cases e:Yv ts.length [] ts with
 |error er=>
  rw[e] at lp;obtain⟨st,u,v,w,lp⟩:=lp;rw[lp];rfl
 |ok p=>
  obtain⟨l,t1⟩:=p;rw[e] at lp;simp only at lp;rw[lp];have hsz:=V7 _ _ _ _ _ e;simp only[zf] at hsz;have hsize:qeo ⟨0,lit [],0,0,mkS l⟩=o ((zf l+1:Nat):Int):=by
   have:=zmV 100000 ⟨0,lit [],0,0,mkS l⟩ (by rw[zl];simp only[mkS];omega) (by rw[zl];simp only[mkS];omega);rw[zl] at this;exact this
  simp only[ji,jl,hsize,jk];by_cases hb:4096 < zf l+1
  ·rw[ju (by omega),ju hb];rfl
  ·rw[jv (by omega),jv hb];rfl
end
end Go.Px
