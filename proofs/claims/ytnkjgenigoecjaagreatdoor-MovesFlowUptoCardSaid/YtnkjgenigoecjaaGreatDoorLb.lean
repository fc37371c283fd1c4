/- Part Lb. -/
import Derived.Test.YtnkjgenigoecjaaGreatDoorLa
set_option linter.unusedVariables false
set_option linter.unusedSimpArgs false
namespace Go.Px
open Bool renaming true->j,false->C
open _root_.Option renaming some->o
open Sl renaming mk->D
open Sum renaming inl->A,inr->B,elim->E
variable{k:Int}{s:List UInt8}{α β:Type}{m:U7 β}
section
abbrev Tk:=qr
abbrev Nd:=q8
abbrev nilS:Sl α:=⟨[],C⟩
def hd:List Tk->Tk
 |[]=>⟨0,lit [],0,0⟩
 |t::_=>t
abbrev PR(α:Type):=Except (Int×Int) (α×List Tk)
def PR.bd(r:PR α)(f:α->List Tk->PR β):PR β:=match r with
 | .error e =>.error e
 | .ok (a,ts)=>f a ts
def isP(s:List UInt8)(ts:List Tk):Bool:=(decide ((hd ts).k_=2) || decide ((hd ts).k_=4)) && decide ((hd ts).T_=lit s)
def xV(e:Int)(ts:List Tk):PR α :=.error ((hd ts).a_,e)
def zW(s:List UInt8)(ts:List Tk):PR Unit:=if isP s ts=j then .ok ((),ts.tail) else xV 20 ts
def wC(k:Int)(ts:List Tk):PR Tk:=if(hd ts).k_=k then .ok (hd ts,ts.tail) else xV 20 ts
def Zb(ts:List Tk):PR Nd:=(wC 1 ts).bd λt ts =>.ok (⟨5,t.T_,0,t.a_,nilS⟩,ts)
def Yq(sg:Int)(ts:List Tk):PR Int:=(wC 3 ts).bd λt ts =>.ok (sg * t.n_,ts)
def Nd.num(n:Nd)(v:Int):Nd:=⟨n.k_,n.T_,v,n.a_,n.K_⟩
def xW(n:Nd)(ts:List Tk):PR Nd:=
 if isP [43] ts=j then(Yq 1 ts.tail).bd λv ts =>.ok (Nd.num n v,ts)
 else if isP [45] ts=j then(Yq (-1) ts.tail).bd λv ts =>.ok (Nd.num n v,ts)
 else .ok (n,ts)
def Z3(ts:List Tk):PR Nd:=
 if(hd ts).k_=3 then(Yq 1 ts).bd λv t1 =>.ok (⟨5,lit [],v,(hd ts).a_,nilS⟩,t1)
 else if isP [45] ts=j then(Yq (-1) ts.tail).bd λv t1 =>.ok (⟨5,lit [],v,(hd ts).a_,nilS⟩,t1)
 else(Zb ts).bd xW
def zcs(ts:List Tk):PR U5:=
 if isP [60] ts=j then .ok (lit [60],ts.tail) else if isP [60,61] ts=j then .ok (lit [60,61],ts.tail) else if isP [61,61] ts=j then .ok (lit [61,61],ts.tail) else xV 20 ts
def Zs(one:List Tk->PR Nd):Nat->List Nd->List Tk->PR (List Nd)
 |0,acc,ts =>.ok (acc,ts)
 |k+1,acc,ts=>if isP [44] ts=j then(one ts.tail).bd λa ts=>Zs one k (acc++[a]) ts else .ok (acc,ts)
def ya(one:List Tk->PR Nd)(ts:List Tk):PR (List Nd):=(one ts).bd λa t1=>Zs one ts.length [a] t1
def zap(ts:List Tk):PR (Sl Nd):=(zW [40] ts).bd λ_ t1=>
 if isP [41] t1=j then .ok (nilS,t1.tail) else(ya Z3 t1).bd λl t2=>(zW [41] t2).bd λ_ t3 =>.ok (⟨l,j⟩,t3)
def vh(ts:List Tk):PR Nd:=
 if isP [111,119,110] ts=j then .ok (⟨2,(hd ts).T_,0,(hd ts).a_,nilS⟩,ts.tail)
 else if isP [99,101,108,108] ts=j then .ok (⟨2,(hd ts).T_,0,(hd ts).a_,nilS⟩,ts.tail)
 else if isP [99,111,117,110,116,101,100] ts=j then(Zb ts.tail).bd λk t1 =>.ok (⟨2,(hd ts).T_,0,(hd ts).a_,⟨[k],j⟩⟩,t1)
 else if isP [108,111,99,107] ts=j then(Zb ts.tail).bd λk t1 =>.ok (⟨2,(hd ts).T_,0,(hd ts).a_,⟨[k],j⟩⟩,t1)
 else if isP [103,117,97,114,100] ts=j then(Zb ts.tail).bd λk t1 =>.ok (⟨2,(hd ts).T_,0,(hd ts).a_,⟨[k],j⟩⟩,t1)
 else xV 20 ts
def xF(ts:List Tk):PR Nd:=(Zb ts).bd λn t1=>
 if isP [91] t1=j then(Zb t1.tail).bd λk t2=>(zW [93] t2).bd λ_ t3 =>.ok (⟨3,n.T_,n.n_,n.a_,⟨[k],j⟩⟩,t3)
 else .ok (⟨3,n.T_,n.n_,n.a_,nilS⟩,t1)
def YE(ts:List Tk):PR Nd:=(Z3 ts).bd λa t1=>(zcs t1).bd λop t2=>(Z3 t2).bd λb t3 =>.ok (⟨4,op,0,a.a_,⟨[a,b],j⟩⟩,t3)
def zdN(at_:Int)(ts:List Tk):PR Nd:=(Zb ts).bd λn t1=>(vh t1).bd λs t2=>
 (if isP [123] t2=j then(ya xF t2.tail).bd λl t3=>(zW [125] t3).bd λ_ t4 =>.ok ([s]++l,t4) else .ok ([s],t2):PR (List Nd)).bd λks t5=>
 (if isP [119,104,101,114,101] t5=j then(ya YE t5.tail).bd λl t6 =>.ok (ks++l,t6) else .ok (ks,t5):PR (List Nd)).bd λks t7=>
 (zW [59] t7).bd λ_ t8 =>.ok (⟨1,n.T_,n.n_,at_,⟨ks,j⟩⟩,t8)
def Wq(ts:List Tk):PR Nd:=
 if isP [105,110,116] ts=j then .ok (⟨8,(hd ts).T_,0,(hd ts).a_,nilS⟩,ts.tail)
 else if isP [111,119,110] ts=j then(Zb ts.tail).bd λk t1 =>.ok (⟨8,(hd ts).T_,0,(hd ts).a_,⟨[k],j⟩⟩,t1)
 else(zW [38] ts).bd λ_ t1=>
  if isP [109,117,116] t1=j then(Zb t1.tail).bd λk t2 =>.ok (⟨8,lit [38,109,117,116],0,(hd ts).a_,⟨[k],j⟩⟩,t2)
  else(Zb t1).bd λk t2 =>.ok (⟨8,(hd ts).T_,0,(hd ts).a_,⟨[k],j⟩⟩,t2)
def xG(ts:List Tk):PR Nd:=(Zb ts).bd λn t1=>(zW [58] t1).bd λ_ t2=>(Wq t2).bd λm t3 =>.ok (⟨7,n.T_,n.n_,n.a_,⟨[m],j⟩⟩,t3)
def atP(k:Int)(ts:List Tk):PR Nd:=(Zb ts).bd λn t1=>(zW [91] t1).bd λ_ t2=>(Yq 1 t2).bd λv t3=>(zW [93] t3).bd λ_ t4 =>.ok (⟨k,n.T_,v,n.a_,nilS⟩,t4)
def vV(ts:List Tk):PR Nd:=
 if isP [110,101,119] ts=j then(Yq 1 ts.tail).bd λv t1 =>.ok (⟨23,lit [],v,(hd ts).a_,nilS⟩,t1)
 else if isP [97,114,114,97,121] ts=j then(Zb ts.tail).bd λk t1 =>.ok (⟨24,k.T_,0,(hd ts).a_,nilS⟩,t1)
 else if isP [38] ts=j then
  (if isP [109,117,116] ts.tail=j then(Zb ts.tail.tail).bd λk t1 =>.ok (⟨27,k.T_,0,(hd ts).a_,nilS⟩,t1) else(Zb ts.tail).bd λk t1 =>.ok (⟨26,k.T_,0,(hd ts).a_,nilS⟩,t1))
 else if(hd ts).k_≠1 then Z3 ts
 else(Zb ts).bd λn t1=>
  if isP [40] t1=j then(zap t1).bd λks t2 =>.ok (⟨28,n.T_,n.n_,n.a_,ks⟩,t2)
  else if isP [91] t1=j then(Z3 t1.tail).bd λa t2=>(zW [93] t2).bd λ_ t3 =>.ok (⟨25,n.T_,n.n_,n.a_,⟨[a],j⟩⟩,t3)
  else if isP [43] t1=j/\(hd t1.tail).k_=1 then(Zb t1.tail).bd λb t2 =>.ok (⟨21,lit [],0,n.a_,⟨[n,b],j⟩⟩,t2)
  else if isP [45] t1=j/\(hd t1.tail).k_=1 then(Zb t1.tail).bd λb t2 =>.ok (⟨22,lit [],0,n.a_,⟨[n,b],j⟩⟩,t2)
  else xW n t1
def vA(n:Nd)(ts:List Tk):PR Nd:=
 if isP [40] ts=j then(zap ts).bd λks t1 =>.ok (⟨20,lit [],0,n.a_,⟨[⟨28,n.T_,n.n_,n.a_,ks⟩],j⟩⟩,t1)
 else if isP [91] ts=j then(Z3 ts.tail).bd λa t1=>(zW [93] t1).bd λ_ t2=>(zW [61] t2).bd λ_ t3=>(Z3 t3).bd λb t4 =>.ok (⟨11,n.T_,n.n_,n.a_,⟨[a,b],j⟩⟩,t4)
 else(zW [61] ts).bd λ_ t1=>(vV t1).bd λe t2 =>.ok (⟨10,n.T_,n.n_,n.a_,⟨[e],j⟩⟩,t2)
def W3(n:Nd)(ts:List Tk):PR Nd:=(zW [59] ts).bd λ_ t1 =>.ok (n,t1)
def wR(blk:List Tk->PR Nd)(k at_:Int)(ts:List Tk):PR Nd:=(YE ts).bd λn t1=>(blk t1).bd λb t2 =>.ok (⟨k,n.T_,n.n_,at_,⟨n.K_.xs++[b],j⟩⟩,t2)
def YY(blk:List Tk->PR Nd)(ts:List Tk):PR Nd:=
 if isP [102,114,101,101] ts=j then(Zb ts.tail).bd λn t1=>W3 ⟨12,n.T_,n.n_,(hd ts).a_,nilS⟩ t1
 else if isP [108,111,99,107] ts=j then(atP 13 ts.tail).bd λn t1=>W3 ⟨n.k_,n.T_,n.n_,(hd ts).a_,nilS⟩ t1
 else if isP [117,110,108,111,99,107] ts=j then(atP 14 ts.tail).bd λn t1=>W3 ⟨n.k_,n.T_,n.n_,(hd ts).a_,nilS⟩ t1
 else if isP [105,102] ts=j then(wR blk 15 (hd ts).a_ ts.tail).bd λn t1=>
  if isP [101,108,115,101] t1=j then(blk t1.tail).bd λb t2 =>.ok (⟨n.k_,n.T_,n.n_,n.a_,⟨n.K_.xs++[b],j⟩⟩,t2)
  else .ok (⟨n.k_,n.T_,n.n_,n.a_,⟨n.K_.xs++[⟨9,lit [],0,(hd ts).a_,nilS⟩],j⟩⟩,t1)
 else if isP [119,104,105,108,101] ts=j then wR blk 16 (hd ts).a_ ts.tail
 else if isP [114,101,116,117,114,110] ts=j then
  (if isP [59] ts.tail=j then W3 ⟨17,lit [],0,(hd ts).a_,nilS⟩ ts.tail else(Z3 ts.tail).bd λa t1=>W3 ⟨17,lit [],0,(hd ts).a_,⟨[a],j⟩⟩ t1)
 else if isP [97,98,111,114,116] ts=j then W3 ⟨18,lit [],0,(hd ts).a_,nilS⟩ ts.tail
 else if isP [102,111,114,107] ts=j then(Zb ts.tail).bd λn t1=>(zap t1).bd λks t2=>W3 ⟨19,n.T_,n.n_,(hd ts).a_,ks⟩ t2
 else(Zb ts).bd λn t1=>(vA n t1).bd W3
def xH(one:List Tk->PR Nd):Nat->List Nd->List Tk->PR (List Nd)
 |0,acc,ts=>xV 20 ts
 |k+1,acc,ts=>if isP [125] ts=j then .ok (acc,ts.tail) else(one ts).bd λa t1=>xH one k (acc++[a]) t1
def mkS(l:List α):Sl α:=⟨l, !l.isEmpty⟩
def yg:Nat->List Tk->PR Nd
 |0,ts=>if isP [123] ts=j then xV 21 ts else xV 20 ts
 |r+1,ts=>(zW [123] ts).bd λ_ t1=>(xH (YY (yg r)) t1.length [] t1).bd λl t2 =>.ok (⟨9,lit [],0,(hd ts).a_,mkS l⟩,t2)
def fnP(at_:Int)(ts:List Tk):PR Nd:=(Zb ts).bd λn t1=>(zW [40] t1).bd λ_ t2=>
 (if isP [41] t2=j then .ok ([],t2) else ya xG t2:PR (List Nd)).bd λps t3=>(zW [41] t3).bd λ_ t4=>
 (if isP [45,62] t4=j then(if isP [38] t4.tail=j then xV 20 t4.tail else Wq t4.tail) else .ok (⟨8,lit [],0,(hd t4).a_,nilS⟩,t4):PR Nd).bd λret t5=>
 (yg 8 t5).bd λb t6 =>.ok (⟨6,n.T_,n.n_,at_,⟨ps++[ret,b],j⟩⟩,t6)
def YA:Nat->List Nd->List Tk->PR (List Nd)
 |0,acc,ts=>xV 20 ts
 |k+1,acc,ts=>if(hd ts).k_=0 then .ok (acc,ts)
  else if isP [102,110] ts=j then(fnP (hd ts).a_ ts.tail).bd λa t1=>YA k (acc++[a]) t1
  else(zW [116,121,112,101] ts).bd λ_ t1=>(zdN (hd ts).a_ t1).bd λa t2=>YA k (acc++[a]) t2
structure TGood(ts:List Tk):Prop where
 ne:ts≠[]
 last:∀h:ts≠[],(ts.getLast h).k_=0
 len:ts.length<=20000
 num:∀t∈ts,0<=t.n_/\t.n_<=1099511627776
theorem TGood.tail{ts:List Tk}(g:TGood ts)(h:(hd ts).k_≠0):TGood ts.tail:=by
 match ts,g,h with
 |[],g,_=>grind
 |[t],g,h=>exact absurd (g.last (by simp)) h
 |t::u::r,g,h=>
  refine⟨by simp,λ_=>?_,?_,λx hx=>g.num x (D5 _ hx)⟩
  ·have:=g.last (by simp);grind
  ·have:=g.len;grind
theorem TGood.hd_idx{ts:List Tk}(g:TGood ts)(b:Bool):za (⟨ts,b⟩:Sl Tk) 0=o (hd ts):=by
 match ts,g with
 |[],g=>exact absurd rfl g.ne
 |t::r,_=>rfl
theorem TGood.tl{ts:List Tk}(g:TGood ts)(b:Bool):z7 (⟨ts,b⟩:Sl Tk) 1 (Sl.len (⟨ts,b⟩:Sl Tk))=o ⟨ts.tail,b⟩:=by
 match ts,g with
 |[],g=>exact absurd rfl g.ne
 |t::r,_=>
  unfold z7;rw[jv ⟨by omega,by simp[Sl.len];omega,by simp[Sl.len]⟩];simp[Sl.len]
theorem zfJ{ts:List Tk}(h:isP s ts=j):(hd ts).k_≠0:=by
 unfold isP at h;grind
theorem TGood.is{ts:List Tk}(g:TGood ts)(h:isP s ts=j):TGood ts.tail:=g.tail (zfJ h)
theorem TGood.tail_len{ts:List Tk}(g:TGood ts):ts.tail.length+1=ts.length:=by
 match ts,g with
 |[],g=>exact absurd rfl g.ne
 |t::r,_=>simp
abbrev PSt:=q7
def Sm(d:Int)(n:Nat)(r:PR α)(m:U7 β)(er:(Int×Int)×PSt->β)(ok:α->PSt->β):Prop:=match r with
 | .error e=>∃st,m=o (er (e,st))
 | .ok (a,ts)=>m=o (ok a ⟨⟨ts,j⟩,d⟩)/\TGood ts/\ts.length<=n
theorem Sm.bd {γ δ:Type}{d:Int}{n n':Nat}{r:PR α}{f:α->List Tk->PR γ}{K:β->U7 δ}{er:(Int×Int)×PSt->β}{ok:α->PSt->β}{er':(Int×Int)×PSt->δ}{ok':γ->PSt->δ}
    (h:Sm d n r m er ok) (he:∀e,K (er e)=o (er' e)) (hk:∀a ts,r = .ok (a,ts)->TGood ts->ts.length<=n->Sm d n' (f a ts) (K (ok a ⟨⟨ts,j⟩,d⟩)) er' ok'):Sm d n' (r.bd f) (m.bind K) er' ok':=by
 cases r with
 |error e=>
  obtain⟨st,rfl⟩:=h;exact⟨st,he _⟩
 |ok p=>
  obtain⟨a,ts⟩:=p;obtain⟨rfl,g,l⟩:=h;exact hk a ts rfl g l
theorem Sm.ok{d:Int}{n:Nat}{a:α}{ts:List Tk}{er:(Int×Int)×PSt->β}{ok:α->PSt->β}(g:TGood ts)(l:ts.length<=n)(h:m=o (ok a ⟨⟨ts,j⟩,d⟩)):Sm d n (.ok (a,ts)) m er ok:=⟨h,g,l⟩
theorem Sm.mono{d:Int}{n n':Nat}{r:PR α}{er:(Int×Int)×PSt->β}{ok:α->PSt->β}(h:Sm d n r m er ok)(l:n<=n'):Sm d n' r m er ok:=by
 cases r with
 |error e=>exact h
 |ok p=>exact⟨h.1,h.2.1,UP h.2.2 l⟩
variable {d:Int}{n:Nat}{ts:List Tk}
theorem ZK(g:TGood ts):q14 ⟨⟨ts,j⟩,d⟩=o (hd ts,⟨⟨ts,j⟩,d⟩):=by
 show((za (⟨ts,j⟩:Sl Tk) 0).bind λy0=>o (y0,(⟨⟨ts,j⟩,d⟩:PSt)))=_;rw[g.hd_idx];rfl
theorem xd(g:TGood ts)(s:List UInt8):q2b (lit s,⟨⟨ts,j⟩,d⟩)=o (isP s ts,⟨⟨ts,j⟩,d⟩):=by
 show((q14 ⟨⟨ts,j⟩,d⟩).bind _)=_;rw[ZK g,jj];simp only[jl];unfold isP;by_cases h2:(hd ts).k_=2
 ·grind
 grind
theorem zY(g:TGood ts)(s:List UInt8):q11 (lit s,⟨⟨ts,j⟩,d⟩)=o (isP s ts,if isP s ts=j then⟨⟨ts.tail,j⟩,d⟩ else⟨⟨ts,j⟩,d⟩):=by
 show((q2b (lit s,⟨⟨ts,j⟩,d⟩)).bind _)=_;rw[xd g,jj];cases h:isP s ts with
 |false=>rfl
 |true=>
  simp only[Dr,jk,jp,jq];rw[g.tl];rfl
theorem Vp(g:TGood ts)(e:Int):q1t (e,⟨⟨ts,j⟩,d⟩)=o (((hd ts).a_,e),⟨⟨ts,j⟩,d⟩):=by
 show((q14 ⟨⟨ts,j⟩,d⟩).bind _)=_;rw[ZK g];rfl
theorem zbn (g:TGood ts) {K:Bool×PSt->U7 β}{p q:PR α}{er:(Int×Int)×PSt->β}{ok:α->PSt->β}(h1:isP s ts=j->TGood ts.tail->ts.tail.length+1=ts.length->Sm d n p (K (j,⟨⟨ts.tail,j⟩,d⟩)) er ok)
    (h0:isP s ts=C->Sm d n q (K (C,⟨⟨ts,j⟩,d⟩)) er ok):Sm d n (if isP s ts=j then p else q) ((q11 (lit s,⟨⟨ts,j⟩,d⟩)).bind K) er ok:=by
 rw[zY g,jj];cases h:isP s ts with
 |true=>simp only[jq];exact h1 h (g.is h) g.tail_len
 |false=>grind
theorem ZL(g:TGood ts)(s:List UInt8):Sm d (ts.length - 1) (zW s ts) (q18 (lit s,⟨⟨ts,j⟩,d⟩)) A (λ_ st=>B st):=by
 show Sm d _ _ ((q11 (lit s,⟨⟨ts,j⟩,d⟩)).bind _) _ _;unfold zW;refine zbn g (λh g1 l=>?_) λh=>?_
 ·exact .ok g1 (by omega) rfl
 ·refine⟨⟨⟨ts,j⟩,d⟩,?_⟩;show((q1t (20,⟨⟨ts,j⟩,d⟩)).bind _)=_;rw[Vp g];rfl
theorem znM(g:TGood ts)(k:Int)(hk:k≠0):Sm d (ts.length - 1) (wC k ts) (q5r (k,⟨⟨ts,j⟩,d⟩)) A (λt st=>B (t,st)):=by
 show Sm d _ _ ((q14 ⟨⟨ts,j⟩,d⟩).bind _) _ _;rw[ZK g,jj];unfold wC;simp only[jl];by_cases h:(hd ts).k_=k
 ·rw[jv h,jx (by simpa using h),g.tl];exact .ok (g.tail (by omega)) (by grind) rfl
 ·rw[jx h,jv h,Vp g];exact⟨_,rfl⟩
theorem ziR{ts t1:List Tk}{t:Tk}(g:TGood ts)(h:wC k ts = .ok (t,t1)):0<=t.n_/\t.n_<=1099511627776:=by
 unfold wC at h;split at h
 ·cases h
  match ts,g with
  |[],g=>exact absurd rfl g.ne
  |t::r,g=>exact g.num t (by simp[hd])
 ·cases h
def ndT(n:Nd):Int×U5×Int×Int:=(n.k_,n.T_,n.n_,n.a_)
theorem ZS(g:TGood ts):Sm d (ts.length - 1) (Zb ts) (q1c ⟨⟨ts,j⟩,d⟩) A (λn st=>B (ndT n,st)):=by
 show Sm d _ _ ((q5r (1,⟨⟨ts,j⟩,d⟩)).bind _) _ _;exact(znM g 1 (by omega)).bd (λe=>rfl) λt t1 _ g1 l =>.ok g1 l rfl
theorem X3(g:TGood ts)(sg:Int)(hs:sg=1\/sg = -1):Sm d (ts.length - 1) (Yq sg ts) (q4y (sg,⟨⟨ts,j⟩,d⟩)) A (λv st=>B (v,st)):=by
 show Sm d _ _ ((q5r (3,⟨⟨ts,j⟩,d⟩)).bind _) _ _;refine(znM g 3 (by omega)).bd (λe=>rfl) λt t1 ht g1 l =>.ok g1 l ?_
 have:=ziR g ht;show o (B (U8 (sg * t.n_),_))=_;rw[zK (by grind) (by grind)]
end
section
variable {d:Int}{n:Nat}{ts:List Tk}
theorem Sm.out{r:PR α}{er:(Int×Int)×PSt->β}{ok:α->PSt->β}(h:Sm d n r m er ok){a:α}{t1:List Tk}(e:r = .ok (a,t1)):m=o (ok a ⟨⟨t1,j⟩,d⟩)/\TGood t1/\t1.length<=n:=by
 rw[e] at h;exact h
theorem Sm.err{r:PR α}{er:(Int×Int)×PSt->β}{ok:α->PSt->β}(h:Sm d n r m er ok){e:Int×Int}(he:r = .error e):∃st,m=o (er (e,st)):=by
 rw[he] at h;exact h
theorem bd_ok{r:PR α}{f:α->List Tk->PR β}{b:β}{t:List Tk}(h:r.bd f = .ok (b,t)):∃a t1,r = .ok (a,t1)/\f a t1 = .ok (b,t):=by
 cases r with
 |error e=>cases h
 |ok p=>exact⟨p.1,p.2,rfl,h⟩
theorem Sm.map{γ:Type}{r:PR α}{K:β->U7 γ}{er:(Int×Int)×PSt->β}{ok:α->PSt->β}{er':(Int×Int)×PSt->γ}{ok':α->PSt->γ}(h:Sm d n r m er ok)(he:∀e,K (er e)=o (er' e))(hk:∀a t1,r = .ok (a,t1)->TGood t1->K (ok a ⟨⟨t1,j⟩,d⟩)=o (ok' a ⟨⟨t1,j⟩,d⟩)):Sm d n r (m.bind K) er' ok':=by
 cases r with
 |error e=>obtain⟨st,rfl⟩:=h;exact⟨st,he _⟩
 |ok p=>obtain⟨rfl,g,l⟩:=h;exact⟨hk _ _ rfl g,g,l⟩
theorem zN{ts t1:List Tk}{n:Nd}(h:Zb ts = .ok (n,t1)):n.K_=nilS:=by
 obtain⟨a,t,_,h⟩:=bd_ok h;cases h;rfl
theorem XN{a:Nd}(h:a.K_=nilS):q8.mk a.k_ a.T_ a.n_ a.a_ (D [] C)=a:=by cases a;grind
theorem zm(a:Nd):ke a=a:=by cases a;rfl
theorem znN{n0:Nd}(g:TGood ts):Sm d ts.length (xW n0 ts) (q5s (n0,⟨⟨ts,j⟩,d⟩)) A (λn st=>B (n,st)):=by
 show Sm d _ _ ((q11 (lit [43],⟨⟨ts,j⟩,d⟩)).bind _) _ _;unfold xW;refine zbn g (λh g1 l=>?_) λh=>?_
 ·simp only[jq,gh];exact(X3 g1 1 (.inl rfl)).bd (λe=>rfl) λv t1 _ g2 l2 =>.ok g2 (by omega) rfl
 ·simp only[jk,jp,gh];refine zbn g (λh g1 l=>?_) λh=>?_
  ·simp only[jq,gh];exact(X3 g1 (-1) (.inr rfl)).bd (λe=>rfl) λv t1 _ g2 l2 =>.ok g2 (by omega) rfl
  ·exact .ok g (by omega) (by simp only[jk,jp,jj,zm,jm])
theorem zgL{ts t1:List Tk}{n n0:Nd}(h0:n0.K_=nilS)(h:xW n0 ts = .ok (n,t1)):n.K_=nilS:=by
 unfold xW at h;split at h
 ·obtain⟨a,t,_,h⟩:=bd_ok h;cases h;exact h0
 ·split at h
  ·obtain⟨a,t,_,h⟩:=bd_ok h;cases h;exact h0
  grind
theorem X4{ts t1:List Tk}{n:Nd}(h:Z3 ts = .ok (n,t1)):n.K_=nilS:=by
 unfold Z3 at h;split at h
 ·obtain⟨a,t,_,h⟩:=bd_ok h;cases h;rfl
 ·split at h
  ·obtain⟨a,t,_,h⟩:=bd_ok h;cases h;rfl
  ·obtain⟨a,t,h1,h⟩:=bd_ok h;exact zgL (zN h1) h
theorem X5(g:TGood ts):Sm d (ts.length - 1) (Z3 ts) (q2k ⟨⟨ts,j⟩,d⟩) A (λn st=>B (n,st)):=by
 show Sm d _ _ ((q14 ⟨⟨ts,j⟩,d⟩).bind _) _ _;rw[ZK g,jj,ZK g,jj];unfold Z3;simp only[jl];by_cases h3:(hd ts).k_=3
 ·rw[jv h3,jv h3];simp only[gh];exact(X3 g 1 (.inl rfl)).bd (λe=>rfl) λv t1 _ g2 l2 =>.ok g2 (by omega) rfl
 ·rw[jx h3,jx h3];simp only[gh];refine zbn g (λh g1 l=>?_) λh=>?_
  ·simp only[jq,gh];exact(X3 g1 (-1) (.inr rfl)).bd (λe=>rfl) λv t1 _ g2 l2 =>.ok g2 (by omega) rfl
  ·show Sm d _ _ ((q1c ⟨⟨ts,j⟩,d⟩).bind _) _ _;refine(ZS g).bd (λe=>rfl) λn t1 en g1 l1=>?_
   show Sm d _ _ (((q5s (q8.mk n.k_ n.T_ n.n_ n.a_ (D [] C),⟨⟨t1,j⟩,d⟩)).bind _).bind _) _ _;rw[gh,XN (zN en)];refine Sm.mono ?_ l1;exact Sm.map (znN g1) (λe=>rfl) λa t2 _ _=>by simp only[jm,jj,zm]
theorem zzN(g:TGood ts):Sm d (ts.length - 1) (zcs ts) (qdo ⟨⟨ts,j⟩,d⟩) B (λs st=>A (s,st)):=by
 have body:∀(i:Int) (s:List UInt8),0<=i->i < 3->vF [lit [60],lit [60,61],lit [61,61]] i=o (lit s)->
     q7a q11 q1t ((lit [60],lit [60,61],lit [61,61]),i,⟨⟨ts,j⟩,d⟩)=if isP s ts=j then o (.done (.inl (lit s,⟨⟨ts.tail,j⟩,d⟩))) else o (.next ((lit [60],lit [60,61],lit [61,61]),i+1,⟨⟨ts,j⟩,d⟩)):=by
  intro i s h0 h3 hn;unfold q7a;simp only[jl,jv h3,hn,jj,zY g];cases h:isP s ts with
  |true=>grind
  |false=>simp only[jk,jp];rw[zK (by omega) (by omega)]
 have e0:=body 0 [60] (by omega) (by omega) rfl;have e1:=body 1 [60,61] (by omega) (by omega) rfl;have e2:=body 2 [61,61] (by omega) (by omega) rfl;show Sm d _ _ ((lpO (q7a q11 q1t) ((lit [60],lit [60,61],lit [61,61]),0,⟨⟨ts,j⟩,d⟩)).bind _) _ _;unfold zcs;rw[Zt,e0];cases h0:isP [60] ts with
 |true=>exact .ok (g.is h0) (by grind) rfl
 |false=>
  simp only[jk,jp,jj];rw[Zt,show(0:Int)+1=1 from rfl,e1];cases h1:isP [60,61] ts with
  |true=>exact .ok (g.is h1) (by grind) rfl
  |false=>
   simp only[jk,jp,jj];rw[Zt,show(1:Int)+1=2 from rfl,e2];cases h2:isP [61,61] ts with
   |true=>exact .ok (g.is h2) (by grind) rfl
   |false=>
    simp only[jk,jp,jj];rw[Zt,show(2:Int)+1=3 from rfl];have e3:q7a q11 q1t ((lit [60],lit [60,61],lit [61,61]),3,⟨⟨ts,j⟩,d⟩)=o (.done (.inr ⟨⟨ts,j⟩,d⟩)):=rfl;rw[e3];simp only[jj,jm,Vp g];exact⟨_,rfl⟩
theorem VZ{acc:List Nd}{a:Nd}(h:acc.length<=30000)(b:Bool):zo 64 (⟨acc,b⟩:Sl Nd) [a]=o ⟨acc++[a],j⟩:=by
 rw[yQ (by simp;omega) (by simp;omega)];simp
abbrev zpE:=Step (PSt×Sl Nd) (((Int×Int)×PSt)⊕(PSt×Sl Nd))
def zeo(d:Int)(one:List Tk->PR Nd)(f:PSt×Sl Nd->U7 zpE):Prop:=∀(ts:List Tk) (acc:List Nd),TGood ts->acc.length<=30000->
 (isP [44] ts=C->f (⟨⟨ts,j⟩,d⟩,⟨acc,j⟩)=o (.done (.inr (⟨⟨ts,j⟩,d⟩,⟨acc,j⟩))))/\
 (isP [44] ts=j->match one ts.tail with
  | .error e=>∃st,f (⟨⟨ts,j⟩,d⟩,⟨acc,j⟩)=o (.done (.inl (e,st)))
  | .ok (a,t1)=>TGood t1/\t1.length+1<=ts.length/\f (⟨⟨ts,j⟩,d⟩,⟨acc,j⟩)=o (.next (⟨⟨t1,j⟩,d⟩,⟨acc++[a],j⟩)))
theorem zdO {one:List Tk->PR Nd}{f:PSt×Sl Nd->U7 zpE}(hf:zeo d one f):∀(k:Nat) (ts:List Tk) (acc:List Nd),TGood ts->ts.length<=k->acc.length+ts.length<=30000->
    Sm d ts.length (Zs one k acc ts) (lpO f (⟨⟨ts,j⟩,d⟩,⟨acc,j⟩)) A (λl st=>B (st,⟨l,j⟩))/\∀l t1,Zs one k acc ts = .ok (l,t1)->l.length+t1.length<=acc.length+ts.length
 |0,ts,acc,g,hk,ha=>absurd (UT (by omega)) g.ne
 |k+1,ts,acc,g,hk,ha=>by
  obtain⟨h0,h1⟩:=hf ts acc g (by omega);rw[Zt];show Sm d _ (if isP [44] ts=j then _ else _) _ _ _/\∀l t1,(if isP [44] ts=j then _ else _)=_->_
  cases h:isP [44] ts with
  |false=>
   rw[h0 h];simp only[jk,jp,jj];exact⟨.ok g (UN _) rfl,λl t1 e=>by grind⟩
  |true=>
   have h1:=h1 h;simp only[jq];cases e:one ts.tail with
   |error er=>
    rw[e] at h1;obtain⟨st,h1⟩:=h1;rw[h1];exact⟨⟨st,rfl⟩,λl t1 e=>by cases e⟩
   |ok p=>
    obtain⟨a,t1⟩:=p;rw[e] at h1;obtain⟨g1,l1,h1⟩:=h1;rw[h1];have ih:=zdO hf k t1 (acc++[a]) g1 (by omega) (by simp;omega);exact⟨ih.1.mono (by omega),λl t2 e2=>by have:=ih.2 l t2 e2;grind⟩
theorem zh3:zeo d Z3 (q9u q2k q11):=by
 intro ts acc g ha;unfold q9u;simp only[zY g,jj];refine⟨λh=>by rw[h];rfl,λh=>?_⟩;rw[h];simp only[jq];have s:=X5 (d:=d) (g.is h);cases e:Z3 ts.tail with
 |error er=>obtain⟨st,s⟩:=s.err e;grind
 |ok p=>
  obtain⟨a,t1⟩:=p;obtain⟨s,g1,l1⟩:=s.out e;have:=g.tail_len;refine⟨g1,by omega,?_⟩;have hk:=X4 e;rw[s];simp only[jj,jm,zm,VZ ha]
end
section
variable {d:Int}{n:Nat}{ts:List Tk}
theorem zct {one:List Tk->PR Nd}{f:PSt×Sl Nd->U7 zpE}(hf:zeo d one f) {er:(Int×Int)×PSt->β}{ok:Nd->PSt->β}{K:β->U7 (((Int×Int)×PSt)⊕(PSt×Sl Nd))}(g:TGood ts) (h:Sm d (ts.length - 1) (one ts) m er ok)
    (he:∀e,K (er e)=o (A e)) (hk:∀a t1,one ts = .ok (a,t1)->K (ok a ⟨⟨t1,j⟩,d⟩)=(lpO f (⟨⟨t1,j⟩,d⟩,⟨[a],j⟩)).bind λy9=>E (λy10=>o (A y10)) (λy11=>o (B y11)) y9) :
    Sm d (ts.length - 1) (ya one ts) (m.bind K) A (λl st=>B (st,⟨l,j⟩))/\∀l t1,ya one ts = .ok (l,t1)->l.length+t1.length<=ts.length:=by
 have hlen:=g.len;have h0:=g.tail_len;constructor
 · refine h.bd he λa t1 e g1 l1=>?_
   rw[hk a t1 e];have:=(zdO hf ts.length t1 [a] g1 (by omega) (by simp;omega)).1;refine Sm.mono ?_ l1;exact Sm.map this (λe=>rfl) λl t2 _ _=>rfl
 ·intro l t2 e;obtain⟨a,t1,e1,e2⟩:=bd_ok e;obtain⟨_,g1,l1⟩:=h.out e1;have:=(zdO hf ts.length t1 [a] g1 (by omega) (by simp;omega)).2 l t2 e2;grind
theorem zlX(g:TGood ts):Sm d (ts.length - 1) (ya Z3 ts) (qa3 ⟨⟨ts,j⟩,d⟩) A (λl st=>B (st,⟨l,j⟩))/\∀l t1,ya Z3 ts = .ok (l,t1)->l.length+t1.length<=ts.length:=by
 refine zct zh3 g (X5 g) (λe=>rfl) λa t1 e=>?_
 simp only[jm,zm]
theorem zh4(g:TGood ts):Sm d (ts.length - 1) (zap ts) (q5t ⟨⟨ts,j⟩,d⟩) A (λl st=>B (st,l)):=by
 show Sm d _ _ ((q18 (lit [40],⟨⟨ts,j⟩,d⟩)).bind _) _ _;refine(ZL g [40]).bd (λe=>rfl) λ_ t1 _ g1 l1=>?_
 refine zbn g1 (λh g2 l=>?_) λh=>?_
 ·exact .ok g2 (by omega) rfl
 ·refine(zlX g1).1.bd (λe=>rfl) λl t2 _ g2 l2=>?_
  refine(ZL g2 [41]).bd (λe=>rfl) λ_ t3 _ g3 l3 =>.ok g3 (by omega) rfl
def ndK(n:Nd)(st:PSt):(Int×U5×Int×Int)×PSt×Sl Nd:=(ndT n,st,n.K_)
theorem zx3(g:TGood ts):Sm d (ts.length - 1) (vh ts) (qd0 ⟨⟨ts,j⟩,d⟩) B (λn st=>A (ndK n st)):=by
 show Sm d _ _ ((q14 ⟨⟨ts,j⟩,d⟩).bind _) _ _;rw[ZK g,jj,ZK g,jj,zY g,jj];have ht:=g.tail_len;unfold vh
 have nm:∀{K:((Int×Int)×PSt⊕(Int×U5×Int×Int)×PSt)->U7 ((Int×U5×Int×Int)×PSt×Sl Nd⊕(Int×Int)×PSt)},TGood ts.tail->
     (∀e,K (A e)=o (B e))->(∀k t1,Zb ts.tail = .ok (k,t1)->K (B (ndT k,⟨⟨t1,j⟩,d⟩))=o (A (ndK ⟨2,(hd ts).T_,0,(hd ts).a_,⟨[k],j⟩⟩ ⟨⟨t1,j⟩,d⟩)))->
     Sm d (ts.length - 1) ((Zb ts.tail).bd λk t1 =>.ok (⟨2,(hd ts).T_,0,(hd ts).a_,⟨[k],j⟩⟩,t1)) ((q1c ⟨⟨ts.tail,j⟩,d⟩).bind K) B (λn st=>A (ndK n st)):=
  λ{K} g1 h1 h2=>(ZS g1).bd h1 λk t1 e g2 l2 =>.ok g2 (by omega) (h2 k t1 e)
 have kk:∀k t1,Zb ts.tail = .ok (k,t1)->q8.mk (ndT k).1 (ndT k).2.1 (ndT k).2.2.1 (ndT k).2.2.2 (D [] C)=k:=λk t1 e=>XN (zN e)
 cases h1:isP [111,119,110] ts with
 |true=>exact .ok (g.is h1) (by omega) rfl
 |false=>
  simp only[jk,jp,zY g,jj];cases h2:isP [99,101,108,108] ts with
  |true=>exact .ok (g.is h2) (by omega) rfl
  |false=>
   simp only[jk,jp,zY g,jj];cases h3:isP [99,111,117,110,116,101,100] ts with
   |true=>
    simp only[jq,jj,gh];exact nm (g.is h3) (λe=>rfl) λk t1 e=>by
     simp only[jm,jj,kk k t1 e];rfl
   |false=>
    simp only[jk,jp,zY g,jj];cases h4:isP [108,111,99,107] ts with
    |true=>
     simp only[jq,jj,gh];exact nm (g.is h4) (λe=>rfl) λk t1 e=>by
      simp only[jm,jj,kk k t1 e];rfl
    |false=>
     simp only[jk,jp,zY g,jj];cases h5:isP [103,117,97,114,100] ts with
     |true=>
      simp only[jq,jj,gh];exact nm (g.is h5) (λe=>rfl) λk t1 e=>by
       simp only[jm,jj,kk k t1 e];rfl
     |false=>
      simp only[jk,jp,jj,Vp g];exact⟨_,rfl⟩
theorem zlY(g:TGood ts):Sm d (ts.length - 1) (xF ts) (q8x ⟨⟨ts,j⟩,d⟩) A (λn st=>B (ndK n st)):=by
 show Sm d _ _ ((q1c ⟨⟨ts,j⟩,d⟩).bind _) _ _;refine(ZS g).bd (λe=>rfl) λn t1 _ g1 l1=>?_
 refine zbn g1 (λh g2 l=>?_) λh=>?_
 ·simp only[jq,gh];refine(ZS g2).bd (λe=>rfl) λk t2 e g3 l3=>?_
  show Sm d _ _ (((q18 (lit [93],⟨⟨t2,j⟩,d⟩)).bind _).bind _) _ _;rw[gh];refine(ZL g3 [93]).bd (λe=>rfl) λ_ t4 _ g4 l4 =>.ok g4 (by omega) ?_
  have:=XN (zN e);simp only[jm,jj,ndT,this];rfl
 ·exact .ok g1 (by omega) rfl
theorem zh5(g:TGood ts):Sm d (ts.length - 1) (YE ts) (q4r ⟨⟨ts,j⟩,d⟩) A (λn st=>B (ndK n st)):=by
 show Sm d _ _ ((q2k ⟨⟨ts,j⟩,d⟩).bind _) _ _;refine(X5 g).bd (λe=>rfl) λa t1 ea g1 l1=>?_
 refine(zzN g1).bd (λe=>rfl) λop t2 _ g2 l2=>?_
 refine(X5 g2).bd (λe=>rfl) λb t3 eb g3 l3 =>.ok g3 (by omega) ?_
 simp only[jm,zm];rfl
theorem zgM:zeo d xF (q8o q8x q11):=by
 intro ts acc g ha;unfold q8o;simp only[zY g,jj];refine⟨λh=>by rw[h];rfl,λh=>?_⟩;rw[h];simp only[jq];have s:=zlY (d:=d) (g.is h);cases e:xF ts.tail with
 |error er=>obtain⟨st,s⟩:=s.err e;grind
 |ok p=>
  obtain⟨a,t1⟩:=p;obtain⟨s,g1,l1⟩:=s.out e;have:=g.tail_len;refine⟨g1,by omega,?_⟩;rw[s];simp only[jj,jm,ndK,ndT,zm,VZ ha]
theorem zh6:zeo d YE (q9v q4r q11):=by
 intro ts acc g ha;unfold q9v;simp only[zY g,jj];refine⟨λh=>by rw[h];rfl,λh=>?_⟩;rw[h];simp only[jq];have s:=zh5 (d:=d) (g.is h);cases e:YE ts.tail with
 |error er=>obtain⟨st,s⟩:=s.err e;grind
 |ok p=>
  obtain⟨a,t1⟩:=p;obtain⟨s,g1,l1⟩:=s.out e;have:=g.tail_len;refine⟨g1,by omega,?_⟩;rw[s];simp only[jj,jm,ndK,ndT,zm,VZ ha]
theorem zc0(g:TGood ts):Sm d (ts.length - 1) (ya xF ts) (q9w ⟨⟨ts,j⟩,d⟩) A (λl st=>B (st,⟨l,j⟩))/\∀l t1,ya xF ts = .ok (l,t1)->l.length+t1.length<=ts.length:=by
 refine zct zgM g (zlY g) (λe=>rfl) λa t1 e=>?_
 simp only[jm,ndK,ndT,zm]
theorem zlZ(g:TGood ts):Sm d (ts.length - 1) (ya YE ts) (qa4 ⟨⟨ts,j⟩,d⟩) A (λl st=>B (st,⟨l,j⟩))/\∀l t1,ya YE ts = .ok (l,t1)->l.length+t1.length<=ts.length:=by
 refine zct zh6 g (zh5 g) (λe=>rfl) λa t1 e=>?_
 simp only[jm,ndK,ndT,zm]
theorem znO{xs l:List Nd}(h:xs.length+l.length<=60000):zo 64 (⟨xs,j⟩:Sl Nd) l=o ⟨xs++l,j⟩:=by
 rw[yQ (by simp;omega) (by simp;omega)];simp
theorem zzO(g:TGood ts)(at_:Int):Sm d (ts.length - 1) (zdN at_ ts) (qat (at_,⟨⟨ts,j⟩,d⟩)) A (λn st=>B (ndK n st)):=by
 have hlen:=g.len;show Sm d _ _ ((q1c ⟨⟨ts,j⟩,d⟩).bind _) _ _;refine(ZS g).bd (λe=>rfl) λn t1 _ g1 l1=>?_
 refine(zx3 g1).bd (λe=>rfl) λs t2 _ g2 l2=>?_
 show Sm d _ _ ((q11 (lit [123],⟨⟨t2,j⟩,d⟩)).bind _) _ _;rw[zY g2,jj];have hs:q8.mk (ndK s ⟨⟨t2,j⟩,d⟩).1.1 (ndK s ⟨⟨t2,j⟩,d⟩).1.2.1 (ndK s ⟨⟨t2,j⟩,d⟩).1.2.2.1 (ndK s ⟨⟨t2,j⟩,d⟩).1.2.2.2 (ndK s ⟨⟨t2,j⟩,d⟩).2.2=s:=zm s;simp only[hs];have hlen2:=g2.len;refine Sm.bd (er:=A) (ok:=λ(l:List Nd) (st:PSt)=>B (st,(0,lit [],0,0),(1,n.T_,n.n_,at_),(⟨l,j⟩:Sl Nd))) (n:=t2.length) ?_ (λe=>rfl) λks t5 e5 g5 l5=>?_
 ·cases h:isP [123] t2 with
  |false=>exact .ok g2 (UN _) rfl
  |true=>
   simp only[jq];have g3:=g2.is h;have hl3:=g2.tail_len;obtain⟨k1,k2⟩:=zc0 (d:=d) g3;refine k1.bd (λe=>rfl) λl t3 e g4 l4=>?_
   have:=k2 l t3 e;simp only[jm];rw[znO (by simp;omega),jj];exact(ZL g4 [125]).bd (λe=>rfl) λ_ t4 _ g5 l5 =>.ok g5 (by omega) rfl
 have hks:ks.length<=20001:=by
  split at e5
  ·rename_i h;have hl3:=g2.tail_len;obtain⟨l,t3,e1,e2⟩:=bd_ok e5;obtain⟨_,t4,_,e3⟩:=bd_ok e2;cases e3;have:=(zc0 (d:=d) (g2.is h)).2 l t3 e1;simp;omega
  grind
 show Sm d _ _ ((q11 (lit [119,104,101,114,101],⟨⟨t5,j⟩,d⟩)).bind _) _ _;rw[zY g5,jj];have hlen5:=g5.len;refine Sm.bd (er:=A) (ok:=λ(l:List Nd) (st:PSt)=>B (st,(0,lit [],0,0),(1,n.T_,n.n_,at_),(⟨l,j⟩:Sl Nd))) (n:=t5.length) ?_ (λe=>rfl) λks2 t7 e7 g7 l7=>?_
 ·cases h:isP [119,104,101,114,101] t5 with
  |false=>exact .ok g5 (UN _) rfl
  |true=>
   simp only[jq];have g3:=g5.is h;have hl3:=g5.tail_len;obtain⟨k1,k2⟩:=zlZ (d:=d) g3;refine k1.bd (λe=>rfl) λl t3 e g4 l4=>?_
   have:=k2 l t3 e;simp only[jm];rw[znO (by omega),jj];exact .ok g4 (by omega) rfl
 exact(ZL g7 [59]).bd (λe=>rfl) λ_ t8 _ g8 l8 =>.ok g8 (by omega) rfl
end
section
variable {d:Int}{n:Nat}{ts:List Tk}
theorem znP(g:TGood ts):Sm d (ts.length - 1) (Wq ts) (qa5 ⟨⟨ts,j⟩,d⟩) B (λn st=>A (n,st)):=by
 show Sm d _ _ ((q14 ⟨⟨ts,j⟩,d⟩).bind _) _ _;rw[ZK g,jj,ZK g,jj,zY g,jj];have ht:=g.tail_len;unfold Wq;cases h1:isP [105,110,116] ts with
 |true=>exact .ok (g.is h1) (by omega) rfl
 |false=>
  simp only[jk,jp,zY g,jj];cases h2:isP [111,119,110] ts with
  |true=>
   simp only[jq,jj,jo];refine(ZS (g.is h2)).bd (λe=>rfl) λk t1 e g1 l1 =>.ok g1 (by omega) ?_
   have:=XN (zN e);simp only[jm,ndT,this]
  |false=>
   simp only[jk,jp,gh];refine(ZL g [38]).bd (λe=>rfl) λ_ t1 _ g1 l1=>?_
   simp only[jm,zY g1,jj,gh];cases h3:isP [109,117,116] t1 with
   |true=>
    simp only[jq,jj,jo];have:=g1.tail_len;refine(ZS (g1.is h3)).bd (λe=>rfl) λk t2 e g2 l2 =>.ok g2 (by omega) ?_
    have:=XN (zN e);simp only[jm,ndT,this]
   |false=>
    simp only[jk,jp,jj,jo];refine(ZS g1).bd (λe=>rfl) λk t2 e g2 l2 =>.ok g2 (by omega) ?_
    have:=XN (zN e);simp only[jm,ndT,this]
theorem zl0(g:TGood ts):Sm d (ts.length - 1) (xG ts) (q8y ⟨⟨ts,j⟩,d⟩) A (λn st=>B (ndK n st)):=by
 show Sm d _ _ ((q1c ⟨⟨ts,j⟩,d⟩).bind _) _ _;refine(ZS g).bd (λe=>rfl) λn t1 _ g1 l1=>?_
 refine(ZL g1 [58]).bd (λe=>rfl) λ_ t2 _ g2 l2=>?_
 exact(znP g2).bd (λe=>rfl) λm t3 _ g3 l3 =>.ok g3 (by omega) (by simp only[jo,zm];rfl)
theorem zgN:zeo d xG (q8p q8y q11):=by
 intro ts acc g ha;unfold q8p;simp only[zY g,jj];refine⟨λh=>by rw[h];rfl,λh=>?_⟩;rw[h];simp only[jq];have s:=zl0 (d:=d) (g.is h);cases e:xG ts.tail with
 |error er=>obtain⟨st,s⟩:=s.err e;grind
 |ok p=>
  obtain⟨a,t1⟩:=p;obtain⟨s,g1,l1⟩:=s.out e;have:=g.tail_len;refine⟨g1,by omega,?_⟩;rw[s];simp only[jj,jm,ndK,ndT,zm,VZ ha]
theorem zc1(g:TGood ts):Sm d (ts.length - 1) (ya xG ts) (q9x ⟨⟨ts,j⟩,d⟩) A (λl st=>B (st,⟨l,j⟩))/\∀l t1,ya xG ts = .ok (l,t1)->l.length+t1.length<=ts.length:=by
 refine zct zgN g (zl0 g) (λe=>rfl) λa t1 e=>?_
 simp only[jm,ndK,ndT,zm]
theorem zv4(g:TGood ts)(k:Int):Sm d (ts.length - 1) (atP k ts) (qbf (k,⟨⟨ts,j⟩,d⟩)) A (λn st=>B (ndT n,st)):=by
 show Sm d _ _ ((q1c ⟨⟨ts,j⟩,d⟩).bind _) _ _;refine(ZS g).bd (λe=>rfl) λn t1 _ g1 l1=>?_
 refine(ZL g1 [91]).bd (λe=>rfl) λ_ t2 _ g2 l2=>?_
 refine(X3 g2 1 (.inl rfl)).bd (λe=>rfl) λv t3 _ g3 l3=>?_
 exact(ZL g3 [93]).bd (λe=>rfl) λ_ t4 _ g4 l4 =>.ok g4 (by omega) rfl
theorem vC(g:TGood ts)(n:Nd):Sm d (ts.length - 1) (W3 n ts) (q6q (n,⟨⟨ts,j⟩,d⟩)) A (λn st=>B (n,st)):=by
 show Sm d _ _ ((q18 (lit [59],⟨⟨ts,j⟩,d⟩)).bind _) _ _;exact(ZL g [59]).bd (λe=>rfl) λ_ t1 _ g1 l1 =>.ok g1 (by omega) (by simp only[jm,zm])
theorem TGood.idx1{ts:List Tk}(g:TGood ts.tail):za (⟨ts,j⟩:Sl Tk) 1=o (hd ts.tail):=by
 match ts,g with
 |[],g=>exact absurd rfl g.ne
 |[t],g=>exact absurd rfl g.ne
 |t::u::r,_=>rfl
theorem zh7{ts:List Tk}(h:isP [43] ts=j):isP [45] ts=false:=by
 unfold isP at h |-
 simp only[gf,jl] at h;have:¬ (hd ts).T_=lit [45]:=by
  rw[h.2];intro e;have:=congrArg bs e;simp[wx] at this
 simp[this]
theorem zx4(g:TGood ts):Sm d (ts.length - 1) (vV ts) (qd1 ⟨⟨ts,j⟩,d⟩) A (λn st=>B (n,st)):=by
 show Sm d _ _ ((q14 ⟨⟨ts,j⟩,d⟩).bind _) _ _;rw[ZK g,jj,zY g,jj];have ht:=g.tail_len;unfold vV;cases h1:isP [110,101,119] ts with
 |true=>
  simp only[jq,gh];exact(X3 (g.is h1) 1 (.inl rfl)).bd (λe=>rfl) λv t1 _ g1 l1 =>.ok g1 (by omega) rfl
 |false=>
 simp only[jk,jp,zY g,jj];cases h2:isP [97,114,114,97,121] ts with
 |true=>
  simp only[jq,gh];exact(ZS (g.is h2)).bd (λe=>rfl) λv t1 _ g1 l1 =>.ok g1 (by omega) rfl
 |false=>
 simp only[jk,jp,zY g,jj];cases h3:isP [38] ts with
 |true=>
  have g1:=g.is h3;simp only[jq,zY g1,jj];cases h4:isP [109,117,116] ts.tail with
  |true=>
   have:=g1.tail_len;simp only[jq,jj,gh];exact(ZS (g1.is h4)).bd (λe=>rfl) λv t1 _ g2 l2 =>.ok g2 (by omega) rfl
  |false=>
   simp only[jk,jp,jj,gh];exact(ZS g1).bd (λe=>rfl) λv t1 _ g2 l2 =>.ok g2 (by omega) rfl
 |false=>
 simp only[jk,jp,ZK g,jj,jl];by_cases hk:(hd ts).k_=1
 case neg=>
  simp only[Dm,hk,ju,jq,gh];refine Sm.map (X5 g) (λe=>rfl) λv t1 e g2=>?_
  simp only[jm,jo,jj,zm]
 case pos=>
 simp only[Dm,hk,jt,jp,jj,jm];refine(ZS g).bd (λe=>rfl) λn t1 en g1 l1=>?_
 have hn:=XN (zN en);have ht1:=g1.tail_len;simp only[jm,xd g1,jj];cases h4:isP [40] t1 with
 |true=>
  simp only[jq,gh];exact(zh4 g1).bd (λe=>rfl) λv t2 _ g2 l2 =>.ok g2 (by omega) rfl
 |false=>
 simp only[jk,jp,zY g1,jj];cases h5:isP [91] t1 with
 |true=>
  simp only[jq,gh];refine(X5 (g1.is h5)).bd (λe=>rfl) λa t2 ea g2 l2=>?_
  have ha:=XN (X4 ea);show Sm d _ _ (((q18 (lit [93],⟨⟨t2,j⟩,d⟩)).bind _).bind _) _ _;rw[gh];exact(ZL g2 [93]).bd (λe=>rfl) λ_ t3 _ g3 l3 =>.ok g3 (by omega) (by simp only[jm,jo,jj,ndT,zm])
 |false=>
 simp only[jk,jp,jj,jm,xd g1];by_cases hp:isP [43] t1=j/\(hd t1.tail).k_=1
 ·obtain⟨hp1,hp2⟩:=hp;have hm:=zh7 hp1;have gt:=g1.is hp1;have mo:=(ZL (d:=d) g1 [43]).out (show zW [43] t1 = .ok ((),t1.tail) by unfold zW;grind);rw[jv ⟨hp1,hp2⟩];simp only[hp1,hm,jq,jk,jp,jj,gt.idx1,hp2,js,mo.1,jm];have nm:=ZS (d:=d) gt;cases e:Zb t1.tail with
  |error er=>
   obtain⟨st,h⟩:=nm.err e;simp only[h,xd g1,hp1,hm,jq,jk,jp,gt.idx1,hp2,js,mo.1,jj,jm,jo,ZI];exact⟨st,rfl⟩
  |ok q=>
   obtain⟨k,t2⟩:=q;obtain⟨h,g2,l2⟩:=nm.out e;have hk2:=XN (zN e);simp only[h,xd g1,hp1,hm,jq,jk,jp,gt.idx1,hp2,js,mo.1,jj,jm,jo,ZI];simp only[ndT,hk2,hn];exact .ok g2 (by omega) rfl
 ·rw[jx hp];by_cases hq:isP [45] t1=j/\(hd t1.tail).k_=1
  ·obtain⟨hp1,hp2⟩:=hq;have hm:isP [43] t1=false:=by
    grind
   have gt:=g1.is hp1;have mo:=(ZL (d:=d) g1 [45]).out (show zW [45] t1 = .ok ((),t1.tail) by unfold zW;grind);rw[jv ⟨hp1,hp2⟩];simp only[hp1,hm,jq,jk,jp,jj,gt.idx1,hp2,js,mo.1,jm];have nm:=ZS (d:=d) gt;cases e:Zb t1.tail with
   |error er=>
    obtain⟨st,h⟩:=nm.err e;simp only[h,xd g1,hp1,hm,jq,jk,jp,gt.idx1,hp2,js,mo.1,jj,jm,jo,ZI];exact⟨st,rfl⟩
   |ok q=>
    obtain⟨k,t2⟩:=q;obtain⟨h,g2,l2⟩:=nm.out e;have hk2:=XN (zN e);simp only[h,xd g1,hp1,hm,jq,jk,jp,gt.idx1,hp2,js,mo.1,jj,jm,jo,ZI];simp only[ndT,hk2,hn];exact .ok g2 (by omega) rfl
  ·rw[jx hq];have fin:Sm d (ts.length - 1) (xW n t1) ((q5s (q8.mk (ndT n).1 (ndT n).2.1 (ndT n).2.2.1 (ndT n).2.2.2 (D [] C),⟨⟨t1,j⟩,d⟩)).bind λy=>E (λe=>o (A e)) (λz=>o (B (ke z.1,z.2))) y) A (λn st=>B (n,st)):=by
    refine Sm.mono ?_ l1;rw[show q8.mk (ndT n).1 (ndT n).2.1 (ndT n).2.2.1 (ndT n).2.2.2 (D [] C)=n from hn];refine Sm.map (znN g1) (λe=>rfl) λa t2 e _=>?_
    simp only[jm,zm]
   cases hp1:isP [43] t1 with
   |true=>
    have gt:=g1.is hp1;have hm:=zh7 hp1;have hk1:¬ (hd t1.tail).k_=1:=λe=>hp ⟨hp1,e⟩
    simp only[xd g1,hp1,hm,jq,jk,jp,jj,gt.idx1,hk1,jr,jm,ZI];exact fin
   |false=>
    cases hq1:isP [45] t1 with
    |true=>
     have gt:=g1.is hq1;have hk1:¬ (hd t1.tail).k_=1:=λe=>hq ⟨hq1,e⟩
     simp only[xd g1,hp1,hq1,jq,jk,jp,jj,gt.idx1,hk1,jr,jm,ZI];exact fin
    |false=>
     simp only[xd g1,hp1,hq1,jk,jp,jj,jm,ZI];exact fin
end
section
variable {d:Int}{n:Nat}{ts:List Tk}
theorem zuR(g:TGood ts)(n:Nd):Sm d (ts.length - 1) (vA n ts) (q8z (n,⟨⟨ts,j⟩,d⟩)) A (λn st=>B (ndK n st)):=by
 show Sm d _ _ ((q2b (lit [40],⟨⟨ts,j⟩,d⟩)).bind _) _ _;rw[xd g,jj];have ht:=g.tail_len;unfold vA;cases h1:isP [40] ts with
 |true=>
  simp only[jq,gh];exact(zh4 g).bd (λe=>rfl) λv t1 _ g1 l1 =>.ok g1 (by omega) rfl
 |false=>
 simp only[jk,jp,zY g,jj];cases h2:isP [91] ts with
 |true=>
  simp only[jq,gh];refine(X5 (g.is h2)).bd (λe=>rfl) λa t1 ea g1 l1=>?_
  show Sm d _ _ (((q18 (lit [93],⟨⟨t1,j⟩,d⟩)).bind _).bind _) _ _;rw[gh];refine(ZL g1 [93]).bd (λe=>rfl) λ_ t2 _ g2 l2=>?_
  show Sm d _ _ (((q18 (lit [61],⟨⟨t2,j⟩,d⟩)).bind _).bind _) _ _;rw[gh];refine(ZL g2 [61]).bd (λe=>rfl) λ_ t3 _ g3 l3=>?_
  show Sm d _ _ (((q2k ⟨⟨t3,j⟩,d⟩).bind _).bind _) _ _;rw[gh];refine(X5 g3).bd (λe=>rfl) λb t4 eb g4 l4 =>.ok g4 (by omega) ?_
  simp only[jm,jo,jj,zm];rfl
 |false=>
 simp only[jk,jp,jj,jm];refine(ZL g [61]).bd (λe=>rfl) λ_ t1 _ g1 l1=>?_
 refine(zx4 g1).bd (λe=>rfl) λa t2 _ g2 l2 =>.ok g2 (by omega) ?_
 simp only[jm,zm];rfl
def zgO(d:Int)(h:PSt->U7 ((Int×Int)×PSt⊕(Int×U5×Int×Int)×PSt×Sl Nd))(blk:List Tk->PR Nd):Prop:=∀ts,TGood ts->Sm d (ts.length - 1) (blk ts) (h ⟨⟨ts,j⟩,d⟩) A (λn st=>B (ndK n st))
variable {h:PSt->U7 ((Int×Int)×PSt⊕(Int×U5×Int×Int)×PSt×Sl Nd)}{blk:List Tk->PR Nd}
theorem zcu{ts t1:List Tk}{n:Nd}(h:YE ts = .ok (n,t1)):∃a b,n.K_=⟨[a,b],j⟩:=by
 obtain⟨a,t,_,h⟩:=bd_ok h;obtain⟨op,t2,_,h⟩:=bd_ok h;obtain⟨b,t3,_,h⟩:=bd_ok h;grind
theorem ziS(hb:zgO d h blk)(g:TGood ts)(k a:Int):Sm d (ts.length - 1) (wR blk k a ts) (q3x h (k,a,⟨⟨ts,j⟩,d⟩)) A (λn st=>B (ndK n st)):=by
 show Sm d _ _ ((q4r ⟨⟨ts,j⟩,d⟩).bind _) _ _;refine(zh5 g).bd (λe=>rfl) λn t1 e1 g1 l1=>?_
 refine(hb t1 g1).bd (λe=>rfl) λb t2 e2 g2 l2 =>.ok g2 (by omega) ?_
 obtain⟨x,y,hk⟩:=zcu e1;simp only[jm,ndK,ndT,hk,zm];rw[VZ (by simp)];rfl
theorem zdP{ts t1:List Tk}{n:Nd}{a:Int}(h:wR blk k a ts = .ok (n,t1)):∃a b c,n.K_=⟨[a,b,c],j⟩:=by
 obtain⟨m,t,e,h⟩:=bd_ok h;obtain⟨b,t2,_,h⟩:=bd_ok h;obtain⟨x,y,hk⟩:=zcu e;grind
theorem zcv(x:Nd×Int):q85 x=o (⟨x.1.k_,x.1.T_,x.1.n_,x.2,x.1.K_⟩,x.2):=rfl
set_option maxHeartbeats 1000000 in
theorem zx5(hb:zgO d h blk)(g:TGood ts):Sm d (ts.length - 1) (YY blk ts) (q3r h ⟨⟨ts,j⟩,d⟩) A (λn st=>B (n,st)):=by
 show Sm d _ _ ((q14 ⟨⟨ts,j⟩,d⟩).bind _) _ _;rw[ZK g,jj,zY g,jj];have ht:=g.tail_len;unfold YY;cases h1:isP [102,114,101,101] ts with
 |true=>
  simp only[jq,gh];refine(ZS (g.is h1)).bd (λe=>rfl) λn t1 _ g1 l1=>?_
  refine Sm.mono (n:=t1.length - 1) ?_ (by omega);simp only[jm,zcv,jj,gh,ndT];exact Sm.map (vC g1 ⟨12,n.T_,n.n_,(hd ts).a_,nilS⟩) (λe=>rfl) λa t2 ea g2=>by
   simp only[jm,jo,jj,zm]
 |false=>
 simp only[jk,jp,zY g,jj];cases h2:isP [108,111,99,107] ts with
 |true=>
  simp only[jq,gh];refine(zv4 (g.is h2) 13).bd (λe=>rfl) λn t1 _ g1 l1=>?_
  refine Sm.mono (n:=t1.length - 1) ?_ (by omega);simp only[jm,zcv,jj,gh,ndT];exact Sm.map (vC g1 ⟨n.k_,n.T_,n.n_,(hd ts).a_,nilS⟩) (λe=>rfl) λa t2 ea g2=>by
   simp only[jm,jo,jj,zm]
 |false=>
 simp only[jk,jp,zY g,jj];cases h3:isP [117,110,108,111,99,107] ts with
 |true=>
  simp only[jq,gh];refine(zv4 (g.is h3) 14).bd (λe=>rfl) λn t1 _ g1 l1=>?_
  refine Sm.mono (n:=t1.length - 1) ?_ (by omega);simp only[jm,zcv,jj,gh,ndT];exact Sm.map (vC g1 ⟨n.k_,n.T_,n.n_,(hd ts).a_,nilS⟩) (λe=>rfl) λa t2 ea g2=>by
   simp only[jm,jo,jj,zm]
 |false=>
 simp only[jk,jp,zY g,jj];cases h4:isP [105,102] ts with
 |true=>
  simp only[jq,gh];refine(ziS hb (g.is h4) 15 (hd ts).a_).bd (λe=>rfl) λn t1 en g1 l1=>?_
  obtain⟨x,y,z,hk⟩:=zdP en;simp only[jm,ndK,ndT,hk,zY g1,jj,gh];cases h5:isP [101,108,115,101] t1 with
  |true=>
   have:=g1.tail_len;simp only[jq,gh];refine(hb t1.tail (g1.is h5)).bd (λe=>rfl) λb t2 _ g2 l2 =>.ok g2 (by omega) ?_
   simp only[jm,ndK,ndT,zm];rw[VZ (by simp)];rfl
  |false=>
   simp only[jk,jp];rw[VZ (by simp)];exact .ok g1 (by omega) rfl
 |false=>
 simp only[jk,jp,zY g,jj];cases h5:isP [119,104,105,108,101] ts with
 |true=>
  simp only[jq,gh];refine Sm.mono (n:=ts.tail.length - 1) ?_ (by omega);exact Sm.map (ziS hb (g.is h5) 16 (hd ts).a_) (λe=>rfl) λa t1 ea g1=>by
   simp only[jm,jo,jj,ndK,ndT,zm]
 |false=>
 simp only[jk,jp,zY g,jj];cases h6:isP [114,101,116,117,114,110] ts with
 |true=>
  have g1:=g.is h6;simp only[jq,xd g1,jj,gh];cases h7:isP [59] ts.tail with
  |true=>
   simp only[Dr,jk,jp,jq,jj,jm];refine Sm.mono (n:=ts.tail.length - 1) ?_ (by omega);show Sm d _ _ (((q6q (_,⟨⟨ts.tail,j⟩,d⟩)).bind _).bind _) _ _;rw[gh];exact Sm.map (vC g1 ⟨17,lit [],0,(hd ts).a_,nilS⟩) (λe=>rfl) λa t1 ea g1=>by
    simp only[jm,jo,jj,zm]
  |false=>
   simp only[D8,jk,jp,jq,gh];refine(X5 g1).bd (λe=>rfl) λa t1 ea g2 l2=>?_
   simp only[jm,jj,gh,zm];refine Sm.mono (n:=t1.length - 1) ?_ (by omega);exact Sm.map (vC g2 ⟨17,lit [],0,(hd ts).a_,⟨[a],j⟩⟩) (λe=>rfl) λb t2 eb g3=>by
    simp only[jm,jo,jj,zm]
 |false=>
 simp only[jk,jp,zY g,jj];cases h7:isP [97,98,111,114,116] ts with
 |true=>
  have g1:=g.is h7;simp only[jq,gh];refine Sm.mono (n:=ts.tail.length - 1) ?_ (by omega);exact Sm.map (vC g1 ⟨18,lit [],0,(hd ts).a_,nilS⟩) (λe=>rfl) λa t2 ea g2=>by
   simp only[jm,jo,jj,zm]
 |false=>
 simp only[jk,jp,zY g,jj];cases h8:isP [102,111,114,107] ts with
 |true=>
  simp only[jq,gh];refine(ZS (g.is h8)).bd (λe=>rfl) λn t1 _ g1 l1=>?_
  simp only[jm,gh];refine(zh4 g1).bd (λe=>rfl) λks t2 _ g2 l2=>?_
  simp only[jm,zcv,jj,gh,ndT];refine Sm.mono (n:=t2.length - 1) ?_ (by omega);exact Sm.map (vC g2 ⟨19,n.T_,n.n_,(hd ts).a_,ks⟩) (λe=>rfl) λb t2 eb g3=>by
   simp only[jm,jo,jj,zm]
 |false=>
 simp only[jk,jp,jj,jm,gh];refine(ZS g).bd (λe=>rfl) λn t1 en g1 l1=>?_
 simp only[jm,gh];rw[show q8.mk (ndT n).1 (ndT n).2.1 (ndT n).2.2.1 (ndT n).2.2.2 (D [] C)=n from XN (zN en)];refine(zuR g1 n).bd (λe=>rfl) λm t2 _ g2 l2=>?_
 simp only[jm,gh,ndK,ndT,zm];refine Sm.mono (n:=t2.length - 1) ?_ (by omega);exact Sm.map (vC g2 m) (λe=>rfl) λb t2 eb g3=>by
  grind
end
section
variable {d:Int}{n:Nat}{ts:List Tk}
variable {h:PSt->U7 ((Int×Int)×PSt⊕(Int×U5×Int×Int)×PSt×Sl Nd)}{blk:List Tk->PR Nd}
theorem zv5{acc:List Nd}{a:Nd}(h:acc.length<=30000):zo 64 (mkS acc) [a]=o (mkS (acc++[a])):=by
 rw[yQ (by simp[mkS];omega) (by simp[mkS];omega)];simp[mkS]
noncomputable abbrev zh8(h:PSt->U7 ((Int×Int)×PSt⊕(Int×U5×Int×Int)×PSt×Sl Nd)):=qew q14 q2b q1t q18 q11 (q3r h)
theorem zgP (hb:zgO d h blk) {u v:Int×U5×Int×Int}:∀(k:Nat) (ts:List Tk) (acc:List Nd),TGood ts->ts.length<=k->acc.length+ts.length<=30000->
    Sm d (ts.length - 1) (xH (YY blk) k acc ts) (lpO (zh8 h) (⟨⟨ts,j⟩,d⟩,u,v,mkS acc)) A (λl st=>B (st,u,v,mkS l))/\∀l t1,xH (YY blk) k acc ts = .ok (l,t1)->l.length+t1.length<=acc.length+ts.length
 |0,ts,acc,g,hk,ha=>absurd (UT (by omega)) g.ne
 |k+1,ts,acc,g,hk,ha=>by
  have ht:=g.tail_len;rw[Zt];show Sm d _ (if isP [125] ts=j then _ else _) ((((q11 (lit [125],⟨⟨ts,j⟩,d⟩)).bind _)).bind _) _ _/\∀l t1,(if isP [125] ts=j then _ else _)=_->_
  rw[zY g,jj];cases e:isP [125] ts with
  |true=>
   simp only[jq,Dr,jk,jp];exact⟨.ok (g.is e) (by omega) rfl,λl t1 e=>by cases e;omega⟩
  |false=>
   simp only[jk,jp,D8,jq];have s:=zx5 hb g;cases es:YY blk ts with
   |error er=>
    obtain⟨st,s⟩:=s.err es;rw[s];exact⟨⟨st,rfl⟩,λl t1 e=>by cases e⟩
   |ok p=>
    obtain⟨a,t1⟩:=p;obtain⟨s,g1,l1⟩:=s.out es;rw[s];simp only[jj,jm,zm];rw[zv5 (by omega)];simp only[jj];have ih:=zgP hb (u:=u) (v:=v) k t1 (acc++[a]) g1 (by omega) (by simp;omega);exact⟨ih.1.mono (by omega),λl t2 e2=>by have:=ih.2 l t2 e2;grind⟩
theorem zl1:∀(r:Nat) (k:Nat) (d:Int),d=8 - (r:Int)->0<=d->r+1<=k->zgO d (q3i k) (yg r)
 |r,0,d,_,_,hk=>by omega
 |0,k+1,d,hd',h0,hk=>by
  intro ts g;show Sm d _ _ ((q14 ⟨⟨ts,j⟩,d⟩).bind _) _ _;rw[ZK g,jj,xd g,jj];unfold yg;cases e:isP [123] ts with
  |true=>
   have:decide (8<=d)=true:=gm (by omega);simp only[jq,jj,this,Vp g];exact⟨_,rfl⟩
  |false=>
   simp only[jk,jp,jj];have hm:zW [123] ts = .error ((hd ts).a_,20):=by unfold zW;rw[e];rfl
   obtain⟨st,s⟩:=(ZL (d:=d) g [123]).err hm;rw[s];exact⟨st,rfl⟩
 |r+1,k+1,d,hd',h0,hk=>by
  intro ts g;show Sm d _ _ ((q14 ⟨⟨ts,j⟩,d⟩).bind _) _ _;rw[ZK g,jj,xd g,jj];unfold yg;have h8:decide (8<=d)=false:=decide_eq_false (by omega);have hb:=zl1 r k (d+1) (by omega) (by omega) (by omega);have hw:U8 (d+1)=d+1:=zK (by omega) (by omega);have hw2:U8 (d+1 - 1)=d:=by rw[zK (by omega) (by omega)];omega
  have hlen:=g.len
  have fin:Sm d (ts.length - 1) ((zW [123] ts).bd λ_ t1=>(xH (YY (yg r)) t1.length [] t1).bd λl t2 =>.ok (⟨9,lit [],0,(hd ts).a_,mkS l⟩,t2))
      ((q18 (lit [123],⟨⟨ts,j⟩,d⟩)).bind λy4=>E (λy5=>o (A y5)) (λy6=>(lpO (zh8 (q3i k)) (q7.mk y6.Z_ (U8 (y6.D_+1)),(0,lit [],0,0),(9,lit [],0,(hd ts).a_),D [] C)).bind λy13=>
        E (λy14=>o (A y14)) (λy15=>o (B (y15.2.2.1,q7.mk y15.1.Z_ (U8 (y15.1.D_ - 1)),y15.2.2.2))) y13) y4) A (λn st=>B (ndK n st)):=by
   refine(ZL g [123]).bd (λe=>rfl) λ_ t1 _ g1 l1=>?_
   have lp:=(zgP hb (u:=(0,lit [],0,0)) (v:=(9,lit [],0,(hd ts).a_)) t1.length t1 [] g1 (UN _) (by simp;omega)).1;simp only[jm,hw];show Sm d _ _ ((lpO (zh8 (q3i k)) (⟨⟨t1,j⟩,d+1⟩,(0,lit [],0,0),(9,lit [],0,(hd ts).a_),mkS [])).bind _) _ _;cases es:xH (YY (yg r)) t1.length [] t1 with
   |error er=>obtain⟨st,s⟩:=lp.err es;rw[s];exact⟨st,rfl⟩
   |ok p=>
    obtain⟨l,t2⟩:=p;obtain⟨s,g2,l2⟩:=lp.out es;rw[s];simp only[jj,jm,hw2];exact .ok g2 (by omega) rfl
  cases e:isP [123] ts with
  |true=>
   grind
  |false=>
   grind
theorem zx6:zgO 0 qcm (yg 8):=zl1 8 100000 0 (by omega) (by omega) (by omega)
theorem zBo{xs l:List Nd}{b:Bool}(h:xs.length+l.length<=60000)(hl:l≠[]):zo 64 (⟨xs,b⟩:Sl Nd) l=o ⟨xs++l,j⟩:=by
 rw[yQ (by simp;omega) (by simp;omega)];grind
theorem zBp(g:TGood ts)(at_:Int):Sm 0 (ts.length - 1) (fnP at_ ts) (qbg (at_,⟨⟨ts,j⟩,0⟩)) A (λn st=>B (ndK n st)):=by
 have hlen:=g.len;show Sm 0 _ _ ((q1c ⟨⟨ts,j⟩,0⟩).bind _) _ _;refine(ZS g).bd (λe=>rfl) λn t1 _ g1 l1=>?_
 refine(ZL g1 [40]).bd (λe=>rfl) λ_ t2 _ g2 l2=>?_
 simp only[jm,xd g2,jj];have h2:=g2.tail_len;refine Sm.bd (er:=A) (ok:=λ(l:List Nd) (st:PSt)=>B (st,(0,lit [],0,0),(6,n.T_,n.n_,at_),(mkS l:Sl Nd))) (n:=t2.length) ?_ (λe=>rfl) λks t3 e3 g3 l3=>?_
 ·cases e:isP [41] t2 with
  |true=>exact .ok g2 (UN _) rfl
  |false=>
   simp only[jk,jp,D8,jq];refine Sm.mono (n:=t2.length - 1) ?_ (by omega);obtain⟨k1,k2⟩:=zc1 (d:=0) g2;refine Sm.map k1 (λe=>rfl) λl t3 el g3=>?_
   have hne:l≠[]:=by
    obtain⟨a,t,_,e2⟩:=bd_ok el;have:∀(k:Nat) (acc:List Nd) (t:List Tk) (l:List Nd) (t3:List Tk),acc≠[]->Zs xG k acc t = .ok (l,t3)->l≠[]:=by
     intro k
     induction k with
     |zero=>intro acc t l t3 ha e;cases e;exact ha
     |succ k ih=>
      intro acc t l t3 ha e;unfold Zs at e;split at e
      ·obtain⟨a,t',_,e⟩:=bd_ok e;grind
      grind
    grind
   cases l with
   |nil=>grind
   |cons a l=>rfl
 have hks:ks.length<=20001:=by
  have hlen2:=g2.len;split at e3
  ·cases e3;simp
  ·have:=(zc1 (d:=0) g2).2 ks t3 e3;omega
 refine(ZL g3 [41]).bd (λe=>rfl) λ_ t4 _ g4 l4=>?_
 simp only[jm,zY g4,jj];have h4:=g4.tail_len;refine Sm.bd (er:=A) (ok:=λ(m:Nd) (st:PSt)=>B (st,(0,lit [],0,0),(6,n.T_,n.n_,at_),m,(mkS ks:Sl Nd))) (n:=t4.length) ?_ (λe=>rfl) λret t5 e5 g5 l5=>?_
 ·cases e:isP [45,62] t4 with
  |true=>
   have g5:=g4.is e;simp only[jq,xd g5,jj];cases e2:isP [38] t4.tail with
   |true=>simp only[jq,Vp g5,jj];exact⟨_,rfl⟩
   |false=>
    simp only[jk,jp];refine Sm.mono (n:=t4.tail.length - 1) ?_ (by omega);exact Sm.map (znP g5) (λe=>rfl) λa t _ _=>by simp only[jo,zm]
  |false=>
   simp only[jk,jp,ZK g4,jj];exact .ok g4 (UN _) rfl
 refine(zx6 t5 g5).bd (λe=>rfl) λb t6 _ g6 l6 =>.ok g6 (by omega) ?_
 simp only[jm,ndK,ndT,zm,mkS];rw[zBo (by simp;omega) (by simp)];rfl
end
section
mutual
def zl:Nd->Nat
 |⟨_,_,_,_,ks⟩=>zv6 ks+1
def zv6:Sl Nd->Nat
 |⟨xs,_⟩=>zd xs
def zd:List Nd->Nat
 |[]=>0
 |a::r=>zl a+zd r
end
theorem zk(n:Nd):zl n=zd n.K_.xs+1:=by
 obtain⟨a,b,c,d,⟨xs,nn⟩⟩:=n;simp[zl,zv6]
theorem zL:∀(a b:List Nd),zd (a++b)=zd a+zd b
 |[],b=>by simp[zd]
 |x::a,b=>by simp[zd,zL a b];omega
theorem zM{ts:List Tk}(h:isP s ts=j):ts.tail.length+1=ts.length:=by
 cases ts with
 |nil=>exact absurd rfl (zfJ h)
 |cons=>simp
theorem Zp{ts t1:List Tk}{u:Unit}(h:zW s ts = .ok (u,t1)):t1.length+1=ts.length:=by
 unfold zW at h;split at h
 ·rename_i h1;cases h;exact zM h1
 ·cases h
theorem ziT(hk:k≠0){ts t1:List Tk}{t:Tk}(h:wC k ts = .ok (t,t1)):t1.length+1=ts.length:=by
 unfold wC at h;split at h
 ·rename_i h1;cases h;cases ts with
  |nil=>exact absurd h1.symm hk
  |cons=>simp
 ·cases h
theorem Xj{sg:Int}{ts t1:List Tk}{v:Int}(h:Yq sg ts = .ok (v,t1)):t1.length+1=ts.length:=by
 obtain⟨a,t,e,h⟩:=bd_ok h;cases h;exact ziT (by omega) e
def Sz(p:List Tk->PR Nd):Prop:=∀ts n t1,p ts = .ok (n,t1)->zl n+3 * t1.length<=3 * ts.length/\t1.length+1<=ts.length
def SzL(p:List Tk->PR (List Nd)):Prop:=∀ts n t1,p ts = .ok (n,t1)->zd n+3 * t1.length<=3 * ts.length/\t1.length+1<=ts.length
theorem ZO{ts t1:List Tk}{n:Nd}(h:Zb ts = .ok (n,t1)):zl n=1/\t1.length+1=ts.length:=by
 obtain⟨a,t,e,h⟩:=bd_ok h;cases h;exact⟨by simp[zk,zd],ziT (by omega) e⟩
theorem zl2{ts t1:List Tk}{n m:Nd}(h:xW n ts = .ok (m,t1)):zl m=zl n/\t1.length<=ts.length:=by
 unfold xW at h;split at h
 ·rename_i hp;obtain⟨a,t,e,h⟩:=bd_ok h;cases h;have:=Xj e;have:=zM hp;exact⟨by simp[zk,Nd.num],by omega⟩
 ·split at h
  ·rename_i hp;obtain⟨a,t,e,h⟩:=bd_ok h;cases h;have:=Xj e;have:=zM hp;exact⟨by simp[zk,Nd.num],by omega⟩
  grind
theorem wL{ts t1:List Tk}{n:Nd}(h:Z3 ts = .ok (n,t1)):zl n=1/\t1.length+1<=ts.length:=by
 unfold Z3 at h;split at h
 ·obtain⟨a,t,e,h⟩:=bd_ok h;cases h;have:=Xj e;exact⟨by simp[zk,zd],by omega⟩
 ·split at h
  ·rename_i hp;obtain⟨a,t,e,h⟩:=bd_ok h;cases h;have:=Xj e;have:=zM hp;exact⟨by simp[zk,zd],by omega⟩
  ·obtain⟨a,t,e,h⟩:=bd_ok h;have h1:=ZO e;have h2:=zl2 h;grind
theorem zfg{one:List Tk->PR Nd}(ho:Sz one):∀(k:Nat) (acc:List Nd) (ts:List Tk) (l:List Nd) (t1:List Tk),Zs one k acc ts = .ok (l,t1)->zd l+3 * t1.length<=zd acc+3 * ts.length/\t1.length<=ts.length
 |0,acc,ts,l,t1,h=>by cases h;grind
 |k+1,acc,ts,l,t1,h=>by
  unfold Zs at h;split at h
  ·rename_i hp;obtain⟨a,t,e,h⟩:=bd_ok h;have h1:=ho _ _ _ e;have h2:=zfg ho k _ _ _ _ h;have h3:=zM hp;rw[zL] at h2;simp only[zd] at h2;omega
  grind
theorem zcw{one:List Tk->PR Nd}(ho:Sz one):SzL (ya one):=by
 intro ts l t1 h;obtain⟨a,t,e,h⟩:=bd_ok h;have h1:=ho _ _ _ e;have h2:=zfg ho _ _ _ _ _ h;simp only[zd] at h2;omega
theorem zl3:Sz Z3:=λts n t1 h=>by have:=wL h;omega
theorem zfK{ts t1:List Tk}{ks:Sl Nd}(h:zap ts = .ok (ks,t1)):zd ks.xs+3 * t1.length+3<=3 * ts.length/\t1.length+1<=ts.length:=by
 obtain⟨u,t,e,h⟩:=bd_ok h;have h0:=Zp e;split at h
 ·rename_i hp;have:=zM hp;cases h;simp[zd];omega
 ·obtain⟨l,t2,e2,h⟩:=bd_ok h;obtain⟨u,t3,e3,h⟩:=bd_ok h;cases h;have h1:=zcw zl3 _ _ _ e2;have h2:=Zp e3;grind
theorem zdQ:Sz xF:=λts n t1 h=>by
 obtain⟨a,t,e,h⟩:=bd_ok h;have h0:=ZO e;split at h
 ·rename_i hp;have:=zM hp;obtain⟨k,t2,e2,h⟩:=bd_ok h;obtain⟨u,t3,e3,h⟩:=bd_ok h;cases h;have h1:=ZO e2;have h2:=Zp e3;simp only[zk,zd] at h1 |-;omega
 ·cases h;simp only[zk,zd];omega
theorem zuS{ts t1:List Tk}{s:U5}(h:zcs ts = .ok (s,t1)):t1.length+1=ts.length:=by
 unfold zcs at h;split at h
 ·rename_i hp;cases h;exact zM hp
 ·split at h
  ·rename_i hp;cases h;exact zM hp
  ·split at h
   ·rename_i hp;cases h;exact zM hp
   ·cases h
theorem zl4:Sz YE:=λts n t1 h=>by
 obtain⟨a,t,e,h⟩:=bd_ok h;obtain⟨op,t2,e2,h⟩:=bd_ok h;obtain⟨b,t3,e3,h⟩:=bd_ok h;cases h;have h0:=wL e;have h1:=zuS e2;have h2:=wL e3;simp only[zk,zd] at h0 h2 |-;omega
theorem zuT:Sz vh:=λts n t1 h=>by
 have go:∀{w:List UInt8} {a b:U5} {c d:Int},isP w ts=j->((Zb ts.tail).bd λk t1=>(.ok (⟨2,a,c,d,⟨[k],j⟩⟩,t1):PR Nd)) = .ok (n,t1)->zl n+3 * t1.length<=3 * ts.length/\t1.length+1<=ts.length:=by
  intro w a b c d hp h;obtain⟨k,t,e,h⟩:=bd_ok h;cases h;have h0:=ZO e;have:=zM hp;simp only[zk,zd] at h0 |-;omega
 unfold vh at h;split at h
 ·rename_i hp;have:=zM hp;cases h;simp only[zk,zd];omega
 ·split at h
  ·rename_i hp;have:=zM hp;cases h;simp only[zk,zd];omega
  ·split at h
   ·rename_i hp;exact go (b:=lit []) hp h
   ·split at h
    ·rename_i hp;exact go (b:=lit []) hp h
    ·split at h
     ·rename_i hp;exact go (b:=lit []) hp h
     ·cases h
theorem zx7(a:Int):Sz (zdN a):=λts n t1 h=>by
 obtain⟨m,t,e,h⟩:=bd_ok h;obtain⟨s,t2,e2,h⟩:=bd_ok h;obtain⟨ks,t3,e3,h⟩:=bd_ok h;obtain⟨ks2,t4,e4,h⟩:=bd_ok h;obtain⟨u,t5,e5,h⟩:=bd_ok h;cases h;have h0:=ZO e;have h1:=zuT _ _ _ e2;have h5:=Zp e5;have h3:zd ks+3 * t3.length<=zl s+3 * t2.length:=by
  split at e3
  ·rename_i hp;obtain⟨l,t6,e6,e7⟩:=bd_ok e3;obtain⟨u,t7,e7,e8⟩:=bd_ok e7;cases e8;have:=zM hp;have h6:=zcw zdQ _ _ _ e6;have:=Zp e7;simp only[List.cons_append,Ds,zd];omega
  ·cases e3;simp only[zd];omega
 have h4:zd ks2+3 * t4.length<=zd ks+3 * t3.length:=by
  split at e4
  ·rename_i hp;obtain⟨l,t6,e6,e7⟩:=bd_ok e4;cases e7;have:=zM hp;have h6:=zcw zl4 _ _ _ e6;rw[zL];omega
  grind
 simp only[zk] at h1 h3 |-;omega
theorem zl5:Sz Wq:=λts n t1 h=>by
 have go:∀{t0:List Tk} {a:U5} {c d:Int},t0.length+1<=ts.length->((Zb t0).bd λk t1=>(.ok (⟨8,a,c,d,⟨[k],j⟩⟩,t1):PR Nd)) = .ok (n,t1)->zl n+3 * t1.length<=3 * ts.length/\t1.length+1<=ts.length:=by
  intro t0 a c d hp h;obtain⟨k,t,e,h⟩:=bd_ok h;cases h;have h0:=ZO e;simp only[zk,zd] at h0 |-;omega
 unfold Wq at h;split at h
 ·rename_i hp;have:=zM hp;cases h;simp only[zk,zd];omega
 ·split at h
  ·rename_i hp;exact go (by have:=zM hp;omega) h
  ·obtain⟨u,t,e,h⟩:=bd_ok h;have:=Zp e;split at h
   ·rename_i hp;exact go (by grind) h
   ·exact go (by omega) h
theorem zsF:Sz xG:=λts n t1 h=>by
 obtain⟨m,t,e,h⟩:=bd_ok h;obtain⟨s,t2,e2,h⟩:=bd_ok h;obtain⟨k,t3,e3,h⟩:=bd_ok h;cases h;have h0:=ZO e;have h1:=Zp e2;have h2:=zl5 _ _ _ e3;simp only[zk,zd] at h2 |-;omega
theorem zsG{ts t1:List Tk}{n:Nd}(h:atP k ts = .ok (n,t1)):zl n=1/\t1.length+1<=ts.length:=by
 obtain⟨m,t,e,h⟩:=bd_ok h;obtain⟨s,t2,e2,h⟩:=bd_ok h;obtain⟨v,t3,e3,h⟩:=bd_ok h;obtain⟨u,t4,e4,h⟩:=bd_ok h;cases h;have h0:=ZO e;have h1:=Zp e2;have h2:=Xj e3;have h3:=Zp e4;exact⟨by simp[zk,zd],by omega⟩
theorem zuU:Sz vV:=λts n t1 h=>by
 unfold vV at h;split at h
 ·rename_i hp;obtain⟨a,t,e,h⟩:=bd_ok h;cases h;have:=zM hp;have:=Xj e;simp only[zk,zd];omega
 split at h
 ·rename_i hp;obtain⟨a,t,e,h⟩:=bd_ok h;cases h;have:=zM hp;have:=ZO e;simp only[zk,zd];omega
 split at h
 ·rename_i hp;have:=zM hp;split at h
  ·rename_i hq;obtain⟨a,t,e,h⟩:=bd_ok h;cases h;have:=zM hq;have:=ZO e;simp only[zk,zd];omega
  ·obtain⟨a,t,e,h⟩:=bd_ok h;cases h;have:=ZO e;simp only[zk,zd];omega
 split at h
 ·exact zl3 _ _ _ h
 obtain⟨m,t,e,h⟩:=bd_ok h;have h0:=ZO e;split at h
 ·obtain⟨ks,t2,e2,h⟩:=bd_ok h;cases h;have:=zfK e2;simp only[zk];omega
 split at h
 ·rename_i hp;obtain⟨a,t2,e2,h⟩:=bd_ok h;obtain⟨u,t3,e3,h⟩:=bd_ok h;cases h;have:=zM hp;have h1:=wL e2;have:=Zp e3;simp only[zk,zd] at h1 |-;omega
 split at h
 ·rename_i hp;obtain⟨a,t2,e2,h⟩:=bd_ok h;cases h;have:=zM hp.1;have h1:=ZO e2;simp only[zk,zd] at h0 h1 |-;omega
 split at h
 ·rename_i hp;obtain⟨a,t2,e2,h⟩:=bd_ok h;cases h;have:=zM hp.1;have h1:=ZO e2;simp only[zk,zd] at h0 h1 |-;omega
 ·have:=zl2 h;omega
theorem zsH{m n:Nd}{ts t1:List Tk}(h:vA m ts = .ok (n,t1)):zl n+3 * t1.length<=3 * ts.length+2/\t1.length+1<=ts.length:=by
 unfold vA at h;split at h
 ·obtain⟨ks,t2,e2,h⟩:=bd_ok h;cases h;have:=zfK e2;simp only[zk,zd];omega
 split at h
 ·rename_i hp;obtain⟨a,t2,e2,h⟩:=bd_ok h;obtain⟨u,t3,e3,h⟩:=bd_ok h;obtain⟨u,t4,e4,h⟩:=bd_ok h;obtain⟨b,t5,e5,h⟩:=bd_ok h;cases h;have:=zM hp;have h1:=wL e2;have:=Zp e3;have:=Zp e4;have h2:=wL e5;simp only[zk,zd] at h1 h2 |-;omega
 ·obtain⟨u,t4,e4,h⟩:=bd_ok h;obtain⟨b,t5,e5,h⟩:=bd_ok h;cases h;have:=Zp e4;have h2:=zuU _ _ _ e5;simp only[zk,zd] at h2 |-;omega
theorem wS{m n:Nd}{ts t1:List Tk}(h:W3 m ts = .ok (n,t1)):n=m/\t1.length+1=ts.length:=by
 obtain⟨u,t,e,h⟩:=bd_ok h;cases h;exact⟨rfl,Zp e⟩
theorem zgQ{blk:List Tk->PR Nd}(hb:Sz blk)(k a:Int):Sz (wR blk k a):=λts n t1 h=>by
 obtain⟨m,t,e,h⟩:=bd_ok h;obtain⟨b,t2,e2,h⟩:=bd_ok h;cases h;have h0:=zl4 _ _ _ e;have h1:=hb _ _ _ e2;simp only[zk] at h0 h1 |-
 simp only[zL,zd,zk];omega
theorem zuV{blk:List Tk->PR Nd}(hb:Sz blk):Sz (YY blk):=λts n t1 h=>by
 unfold YY at h;split at h
 ·rename_i hp;obtain⟨a,t,e,h⟩:=bd_ok h;have:=zM hp;have:=ZO e;obtain⟨rfl,h2⟩:=wS h;simp only[zk,zd];omega
 split at h
 ·rename_i hp;obtain⟨a,t,e,h⟩:=bd_ok h;have:=zM hp;have:=zsG e;obtain⟨rfl,h2⟩:=wS h;simp only[zk,zd];omega
 split at h
 ·rename_i hp;obtain⟨a,t,e,h⟩:=bd_ok h;have:=zM hp;have:=zsG e;obtain⟨rfl,h2⟩:=wS h;simp only[zk,zd];omega
 split at h
 ·rename_i hp;obtain⟨a,t,e,h⟩:=bd_ok h;have:=zM hp;have h1:=zgQ hb _ _ _ _ _ e;split at h
  ·rename_i hq;obtain⟨b,t2,e2,h⟩:=bd_ok h;cases h;have:=zM hq;have h2:=hb _ _ _ e2;simp only[zk] at h1 h2 |-
   simp only[zL,zd,zk];omega
  ·cases h;simp only[zk] at h1 |-
   simp only[zL,zd,zk];omega
 split at h
 ·rename_i hp;have:=zM hp;have h1:=zgQ hb _ _ _ _ _ h;omega
 split at h
 ·rename_i hp;have:=zM hp;split at h
  ·obtain⟨rfl,h2⟩:=wS h;simp only[zk,zd];omega
  ·obtain⟨a,t,e,h⟩:=bd_ok h;have h1:=wL e;obtain⟨rfl,h2⟩:=wS h;simp only[zk,zd] at h1 |-;omega
 split at h
 ·rename_i hp;have:=zM hp;obtain⟨rfl,h2⟩:=wS h;simp only[zk,zd];omega
 split at h
 ·rename_i hp;obtain⟨a,t,e,h⟩:=bd_ok h;obtain⟨ks,t2,e2,h⟩:=bd_ok h;have:=zM hp;have:=ZO e;have:=zfK e2;obtain⟨rfl,h2⟩:=wS h;simp only[zk];omega
 ·obtain⟨a,t,e,h⟩:=bd_ok h;obtain⟨m,t2,e2,h⟩:=bd_ok h;have:=ZO e;have:=zsH e2;obtain⟨rfl,h2⟩:=wS h;omega
theorem ziU{one:List Tk->PR Nd}(ho:Sz one):∀(k:Nat) (acc:List Nd) (ts:List Tk) (l:List Nd) (t1:List Tk),xH one k acc ts = .ok (l,t1)->zd l+3 * t1.length+3<=zd acc+3 * ts.length/\t1.length+1<=ts.length
 |0,acc,ts,l,t1,h=>by cases h
 |k+1,acc,ts,l,t1,h=>by
  unfold xH at h;split at h
  ·rename_i hp;have:=zM hp;cases h;omega
  ·obtain⟨a,t,e,h⟩:=bd_ok h;have h1:=ho _ _ _ e;have h2:=ziU ho k _ _ _ _ h;rw[zL] at h2;simp only[zd] at h2;omega
theorem ziV:∀r,Sz (yg r)
 |0=>λts n t1 h=>by unfold yg at h;split at h<;>cases h
 |r+1=>λts n t1 h=>by
  obtain⟨u,t,e,h⟩:=bd_ok (show((zW [123] ts).bd _)=_ from h);obtain⟨l,t2,e2,h⟩:=bd_ok h;cases h;have:=Zp e;have:=ziU (zuV (ziV r)) _ _ _ _ _ e2;simp only[zk,mkS,zd] at this |-;omega
theorem zzP(a:Int):Sz (fnP a):=λts n t1 h=>by
 obtain⟨m,t,e,h⟩:=bd_ok h;obtain⟨u,t2,e2,h⟩:=bd_ok h;obtain⟨ps,t3,e3,h⟩:=bd_ok h;obtain⟨u,t4,e4,h⟩:=bd_ok h;obtain⟨ret,t5,e5,h⟩:=bd_ok h;obtain⟨b,t6,e6,h⟩:=bd_ok h;cases h;have:=ZO e;have:=Zp e2;have:=Zp e4;have h6:=ziV _ _ _ _ e6;have h3:zd ps+3 * t3.length<=3 * t2.length:=by
  split at e3
  ·cases e3;simp only[zd];omega
  ·have:=zcw zsF _ _ _ e3;omega
 have h5:zl ret+3 * t5.length<=3 * t4.length+1:=by
  split at e5
  ·rename_i hp;have:=zM hp;split at e5
   ·cases e5
   ·have:=zl5 _ _ _ e5;omega
  ·cases e5;simp only[zk,zd];omega
 simp only[zk] at h5 h6 |-
 simp only[zL,zd,zk];omega
theorem zaq:∀(k:Nat) (acc:List Nd) (ts:List Tk) (l:List Nd) (t1:List Tk),YA k acc ts = .ok (l,t1)->zd l+3 * t1.length<=zd acc+3 * ts.length
 |0,acc,ts,l,t1,h=>by cases h
 |k+1,acc,ts,l,t1,h=>by
  unfold YA at h;split at h
  ·cases h;omega
  split at h
  ·rename_i hp;obtain⟨a,t,e,h⟩:=bd_ok h;have:=zM hp;have h1:=zzP _ _ _ _ e;have h2:=zaq k _ _ _ _ h;rw[zL] at h2;simp only[zd] at h2;omega
  ·obtain⟨u,t,e,h⟩:=bd_ok h;obtain⟨a,t2,e2,h⟩:=bd_ok h;have:=Zp e;have h1:=zx7 _ _ _ _ e2;have h2:=zaq k _ _ _ _ h;rw[zL] at h2;simp only[zd] at h2;omega
theorem z6(n:Nd):1<=zl n:=by rw[zk];omega
theorem zfh{xs:List Nd}{i:Nat}(h:i < xs.length):zd (xs.take (i+1))=zd (xs.take i)+zl xs[i]:=by
 rw[List.take_succ_eq_append_getElem h,zL];simp[zd]
theorem zbo(xs:List Nd)(i:Nat):zd (xs.take i)<=zd xs:=by
 have:=zL (xs.take i) (xs.drop i);rw[List.take_append_drop] at this;omega
theorem znQ:∀(k:Nat) (n:Nd),zl n<=k->zl n<=1000000000->q5u k n=o (zl n:Int)
 |0,n,h,_=>by have:=z6 n;omega
 |k+1,n,h,hb=>by
  obtain⟨a,b,c,d,⟨xs,nn⟩⟩:=n;show((lpO (qcn (q5u k)) (1,(⟨xs,nn⟩:Sl Nd),Sl.len (⟨xs,nn⟩:Sl Nd),0)).bind λy3=>o y3)=_;have hs:zl ⟨a,b,c,d,⟨xs,nn⟩⟩=zd xs+1:=by rw[zk]
  have loop:∀(m i:Nat),i+m=xs.length->lpO (qcn (q5u k)) (((1+zd (xs.take i):Nat):Int),(⟨xs,nn⟩:Sl Nd),Sl.len (⟨xs,nn⟩:Sl Nd),(i:Int))=o ((1+zd xs:Nat):Int):=by
   intro m
   induction m with
   |zero=>
    intro i hi;rw[Zt];have hf:qcn (q5u k) (((1+zd (xs.take i):Nat):Int),(⟨xs,nn⟩:Sl Nd),Sl.len (⟨xs,nn⟩:Sl Nd),(i:Int))=o (.done ((1+zd (xs.take i):Nat):Int)):=by
     show(if decide ((i:Int) < (xs.length:Int))=j then _ else _)=_;grind
    grind
   |succ m ih=>
    intro i hi;have hlt:i < xs.length:=by omega
    rw[Zt];have hg:za (⟨xs,nn⟩:Sl Nd) (i:Int)=o xs[i]:=by
     unfold za;rw[jv (by omega)];simp[hlt]
    have h1:=zfh hlt;have h2:=zbo xs (i+1);have hr:q5u k xs[i]=o (zl xs[i]:Int):=znQ k xs[i] (by omega) (by omega);have hlen:xs.length<=zd xs:=by
     clear hr h1 h2 hg ih hs hb h hlt hi
     induction xs with
     |nil=>simp
     |cons x r ih=>have:=z6 x;simp only[zd,jz];omega
    have hf:qcn (q5u k) (((1+zd (xs.take i):Nat):Int),(⟨xs,nn⟩:Sl Nd),Sl.len (⟨xs,nn⟩:Sl Nd),(i:Int))=o (.next (((1+zd (xs.take (i+1)):Nat):Int),(⟨xs,nn⟩:Sl Nd),Sl.len (⟨xs,nn⟩:Sl Nd),((i+1:Nat):Int))):=by
     show(if decide ((i:Int) < (xs.length:Int))=j then(za (⟨xs,nn⟩:Sl Nd) (i:Int)).bind _ else _)=_;rw[jv (by simp;omega),hg];simp only[jj,zm,hr];rw[zK (by omega) (by omega),zK (by omega) (by omega),h1];have e1:((1+zd (xs.take i):Nat):Int)+(zl xs[i]:Int)=((1+(zd (xs.take i)+zl xs[i]):Nat):Int):=by omega
     grind
    grind
  have:=loop xs.length 0 (by omega);simp only[List.take_zero,zd,Di] at this;grind
theorem zx8{l:List UInt8}{n:Nat}{v:Int}(h:nxt l = .tok k n v):(0<=v/\v<=1099511627776)/\k≠0:=by
 cases l with
 |nil=>cases h
 |cons c r=>
  unfold nxt at h;simp only at h;split at h
  ·cases h
  split at h
  ·cases h
  split at h
  ·unfold X0 at h;split at h
   ·cases h
   ·rename_i hb;cases h;unfold vz at hb;grind
  split at h
  ·unfold xD at h;grind
  ·unfold xE at h;grind
theorem zx9{l:List UInt8}{e:Int}(h:nxt l = .err e):e≠0:=by
 cases l with
 |nil=>cases h;omega
 |cons c r=>
  unfold nxt at h;simp only at h;split at h
  ·cases h
  split at h
  ·cases h
  split at h
  ·unfold X0 at h;grind
  split at h
  ·unfold xD at h;grind
  ·unfold xE at h;grind
theorem zfL:∀(f at_:Nat) (l:List UInt8) (ts:List Tk),Wo f at_ l = .inr ts->∀t∈ts,(0<=t.n_/\t.n_<=1099511627776)/\t.k_≠0
 |0,at_,l,ts,h=>by cases h;simp
 |f+1,at_,l,ts,h=>by
  unfold Wo at h;split at h
  ·cases h;simp
  split at h
  ·exact zfL f _ _ ts h
  ·cases h
  ·rename_i k n v hn;split at h
   ·cases h
   ·rename_i ts' hts;cases h;intro t ht;rcases De.1 ht with rfl | ht
    ·exact zx8 hn
    ·exact zfL f _ _ ts' hts t ht
theorem zdR{s:U5}(h:(Z1 s).2.1=0):TGood (Z1 s).2.2.xs/\(Z1 s).2.2.nn=true:=by
 unfold Z1 at h |-
 by_cases hs:16384 < s.size
 ·grind
 ·rw[jx hs] at h |-
  cases e:WZ 0 (bs s) with
  |inl x=>
   rw[e] at h;exfalso;have:∀(f a:Nat) (l:List UInt8) (x:Nat×Int),Wo f a l = .inl x->x.2≠0:=by
    intro f
    induction f with
    |zero=>intro a l x h;cases h
    |succ f ih=>
     intro a l x h;unfold Wo at h;split at h
     ·cases h
     split at h
     ·grind
     ·rename_i e he;cases h;exact zx9 he
     grind
   exact this _ _ _ _ e h
  |inr ts=>
   have hl:=VY (bs s).length (bs s) 0 ts (UN _) e;rw[yf] at hl;refine⟨⟨by simp,λ_=>by simp,by simp;omega,λt ht=>?_⟩,rfl⟩;simp only[U9,D2] at ht;rcases ht with ht | rfl
   ·exact(zfL _ _ _ _ e t ht).1
   ·simp
def vi:Nd:=⟨0,lit [],0,0,nilS⟩
def Xc(s:U5):Nd×Int×Int:=if(Z1 s).2.1≠0 then(vi,(Z1 s).1,(Z1 s).2.1) else
 match YA (Z1 s).2.2.xs.length [] (Z1 s).2.2.xs with
 | .error e=>(vi,e.1,e.2)
 | .ok (ks,_)=>if 4096 < zd ks+1 then(vi,0,22) else(⟨0,lit [],0,0,mkS ks⟩,0,0)
noncomputable abbrev Zu:=q66 qck q14 q11 qbg q18 qat qd2 qfb qbx
theorem zl6{acc:List Nd}{z a:Nd}(h:acc.length<=30000):∃y8:Sl Nd,zo 64 (mkS acc) [z]=o y8/\za y8 (Sl.len (mkS acc))=o z/\y8.set (Sl.len (mkS acc)) a=mkS (acc++[a]):=by
 refine⟨_,zv5 h,?_,?_⟩
 ·unfold za mkS Sl.len;grind
 ·unfold mkS Sl.len Sl.set;cases acc<;>simp
theorem zcx {a0 e0:Int}:∀(k:Nat) (ts:List Tk) (acc:List Nd),TGood ts->ts.length<=k->acc.length+ts.length<=30000->
    match YA k acc ts with
    | .error e=>∃st u v w,lpO Zu ((0,lit [],0,0),a0,e0,⟨⟨ts,j⟩,0⟩,mkS acc)=o (.inl (e,u,v,w,st))
    | .ok (l,_)=>lpO Zu ((0,lit [],0,0),a0,e0,⟨⟨ts,j⟩,0⟩,mkS acc)=o (.inr ((0,lit [],0,0),a0,e0,mkS l))
 |0,ts,acc,g,hk,ha=>absurd (UT (by omega)) g.ne
 |k+1,ts,acc,g,hk,ha=>by
  have ht:=g.tail_len;have key:∀z,Zu ((0,lit [],0,0),a0,e0,⟨⟨ts,j⟩,0⟩,mkS acc)=o z->lpO Zu ((0,lit [],0,0),a0,e0,⟨⟨ts,j⟩,0⟩,mkS acc)=(match z with | .next x'=>lpO Zu x' | .done y=>o y):=λz hz=>by rw[Zt,hz];grind
  unfold YA;by_cases h0:(hd ts).k_=0
  · rw [jv h0];have hz:Zu ((0,lit [],0,0),a0,e0,⟨⟨ts,j⟩,0⟩,mkS acc)=o (.done (.inr ((0,lit [],0,0),a0,e0,mkS acc))):=by
      unfold Zu q66;simp only[ZK g,jj,jl];grind
    exact key _ hz
  · rw[jx h0];cases e:isP [102,110] ts with
    |true=>
     simp only[jq];have s:=zBp (g.is e) (hd ts).a_;cases es:fnP (hd ts).a_ ts.tail with
     |error er=>
      obtain⟨st,s⟩:=s.err es;have hz:Zu ((0,lit [],0,0),a0,e0,⟨⟨ts,j⟩,0⟩,mkS acc)=o (.done (.inl (er,(0,lit [],0,0),a0,e0,mkS acc))):=by
       unfold Zu q66;simp only[ZK g,jj,jl];rw[jv h0];simp only[zY g,jj,e,jq,s,jo]
      exact⟨_,_,_,_,key _ hz⟩
     |ok p=>
      obtain⟨a,t1⟩:=p;obtain⟨s,g1,l1⟩:=s.out es;obtain⟨y8,q1,q2,q3⟩:=zl6 (acc:=acc) (z:=⟨0,lit [],0,0,D [] C⟩) (a:=a) (by omega);have hz:Zu ((0,lit [],0,0),a0,e0,⟨⟨ts,j⟩,0⟩,mkS acc)=o (.next ((0,lit [],0,0),a0,e0,⟨⟨t1,j⟩,0⟩,mkS (acc++[a]))):=by
       unfold Zu q66;simp only[ZK g,jj,jl];rw[jv h0];simp only[zY g,jj,e,jq,s,jm,q1,q2,ZI,ndK,ndT,zm,q3]
      have ih:=zcx (a0:=a0) (e0:=e0) k t1 (acc++[a]) g1 (by omega) (by simp;omega);rw[key _ hz];exact ih
    |false=>
     simp only[jk,jp];have s0:=ZL (d:=0) g [116,121,112,101];cases em:zW [116,121,112,101] ts with
     |error er=>
      obtain⟨st,s⟩:=s0.err em;have hz:Zu ((0,lit [],0,0),a0,e0,⟨⟨ts,j⟩,0⟩,mkS acc)=o (.done (.inl (er,(0,lit [],0,0),a0,e0,mkS acc))):=by
       unfold Zu q66;simp only[ZK g,jj,jl];rw[jv h0];simp only[zY g,jj,e,jk,jp,s,jo]
      exact⟨_,_,_,_,key _ hz⟩
     |ok p=>
      obtain⟨u,t0⟩:=p;obtain⟨s,g0,l0⟩:=s0.out em;have s1:=zzO (d:=0) g0 (hd ts).a_;simp only[PR.bd];cases es:zdN (hd ts).a_ t0 with
      |error er=>
       obtain⟨st,s2⟩:=s1.err es;have hz:Zu ((0,lit [],0,0),a0,e0,⟨⟨ts,j⟩,0⟩,mkS acc)=o (.done (.inl (er,(0,lit [],0,0),a0,e0,mkS acc))):=by
        unfold Zu q66;simp only[ZK g,jj,jl];rw[jv h0];simp only[zY g,jj,e,jk,jp,s,s2,jm,jo]
       grind
      |ok p=>
       obtain⟨a,t1⟩:=p;obtain⟨s2,g1,l1⟩:=s1.out es;obtain⟨y8,q1,q2,q3⟩:=zl6 (acc:=acc) (z:=⟨0,lit [],0,0,D [] C⟩) (a:=a) (by omega);have hz:Zu ((0,lit [],0,0),a0,e0,⟨⟨ts,j⟩,0⟩,mkS acc)=o (.next ((0,lit [],0,0),a0,e0,⟨⟨t1,j⟩,0⟩,mkS (acc++[a]))):=by
        unfold Zu q66;simp only[ZK g,jj,jl];rw[jv h0];simp only[zY g,jj,e,jk,jp,s,s2,jm,q1,q2,ZI,ndK,ndT,zm,q3]
       have ih:=zcx (a0:=a0) (e0:=e0) k t1 (acc++[a]) g1 (by omega) (by simp;omega);grind
theorem zfM(s:U5):q5v s=o (Xc s):=by
 show((qck s).bind _)=_;rw[zsC,jj];unfold Xc;simp only[jl];by_cases h:(Z1 s).2.1=0
 case neg=>rw[jv h,jv h];rfl
 case pos=>
 rw[jx (by simpa using h),jx (by simpa using h)];obtain⟨g,hn⟩:=zdR h;generalize hx:(Z1 s).2.2=X at g hn;obtain⟨ts,nn⟩:=X;simp only at g hn;subst hn;have lp:=zcx (a0:=(Z1 s).1) (e0:=(Z1 s).2.1) ts.length ts [] g (UN _) (by have:=g.len;simp;omega);have hlen:=g.len;show((lpO Zu ((0,lit [],0,0),(Z1 s).1,(Z1 s).2.1,(⟨⟨ts,j⟩,0⟩:PSt),mkS [])).bind _)=_;cases e:YA ts.length [] ts with
 |error er=>
  rw[e] at lp;obtain⟨st,u,v,w,lp⟩:=lp;rw[lp];rfl
 |ok p=>
  obtain⟨l,t1⟩:=p;rw[e] at lp;simp only at lp;rw[lp];have hsz:=zaq _ _ _ _ _ e;simp only[zd] at hsz;have hsize:qfb ⟨0,lit [],0,0,mkS l⟩=o ((zd l+1:Nat):Int):=by
   have:=znQ 100000 ⟨0,lit [],0,0,mkS l⟩ (by rw[zk];simp only[mkS];omega) (by rw[zk];simp only[mkS];omega);rw[zk] at this;exact this
  simp only[jj,jm,hsize,jl];by_cases hb:4096 < zd l+1
  ·rw[jv (by omega),jv hb];rfl
  ·rw[jx (by omega),jx hb];rfl
end
end Go.Px
