/- Part Lb. -/
import Derived.Test.YtlhommikjhhmbaaGreatDoorLa
set_option linter.unusedVariables false
set_option linter.unusedSimpArgs false
set_option linter.unusedSectionVars false
namespace Go.Px
open Bool renaming true->j,false->C
open _root_.Option renaming some->o
open Sl renaming mk->D
open Sum renaming inl->A,inr->B,elim->E
variable{k:Int}{s:List UInt8}{α β:Type}{m:U3 β}
section
abbrev Tk:=qr
abbrev Nd:=q8
abbrev nilS:Sl α:=⟨[],C⟩
def hd:List Tk->Tk
 |[]=>⟨0,lit [],0,0⟩
 |t::_=>t
abbrev PR(α:Type):=Except (Int×Int) (α×List Tk)
def PR.bd(r:PR α)(f:α->List Tk->PR β):PR β:=match r with
 | .error e =>.error e
 | .ok (a,ts)=>f a ts
def isP(s:List UInt8)(ts:List Tk):Bool:=(decide ((hd ts).k_=2) || decide ((hd ts).k_=4)) && decide ((hd ts).T_=lit s)
def xW(e:Int)(ts:List Tk):PR α :=.error ((hd ts).a_,e)
def zX(s:List UInt8)(ts:List Tk):PR Unit:=if isP s ts=j then .ok ((),ts.tail) else xW 20 ts
def wD(k:Int)(ts:List Tk):PR Tk:=if(hd ts).k_=k then .ok (hd ts,ts.tail) else xW 20 ts
def Zb(ts:List Tk):PR Nd:=(wD 1 ts).bd λt ts =>.ok (⟨5,t.T_,0,t.a_,nilS⟩,ts)
def Yu(a:Int)(ts:List Tk):PR Int:=(wD 3 ts).bd λt ts =>.ok (a * t.n_,ts)
def Nd.num(n:Nd)(v:Int):Nd:=⟨n.k_,n.T_,v,n.a_,n.K_⟩
def xX(n:Nd)(ts:List Tk):PR Nd:=
 if isP [43] ts=j then(Yu 1 ts.tail).bd λv ts =>.ok (Nd.num n v,ts)
 else if isP [45] ts=j then(Yu (-1) ts.tail).bd λv ts =>.ok (Nd.num n v,ts)
 else .ok (n,ts)
def Z4(ts:List Tk):PR Nd:=
 if(hd ts).k_=3 then(Yu 1 ts).bd λv a =>.ok (⟨5,lit [],v,(hd ts).a_,nilS⟩,a)
 else if isP [45] ts=j then(Yu (-1) ts.tail).bd λv a =>.ok (⟨5,lit [],v,(hd ts).a_,nilS⟩,a)
 else(Zb ts).bd xX
def zct(ts:List Tk):PR U0:=
 if isP [60] ts=j then .ok (lit [60],ts.tail) else if isP [60,61] ts=j then .ok (lit [60,61],ts.tail) else if isP [61,61] ts=j then .ok (lit [61,61],ts.tail) else xW 20 ts
def Zt(one:List Tk->PR Nd):Nat->List Nd->List Tk->PR (List Nd)
 |0,acc,ts =>.ok (acc,ts)
 |k+1,acc,ts=>if isP [44] ts=j then(one ts.tail).bd λa ts=>Zt one k (acc++[a]) ts else .ok (acc,ts)
def yb(one:List Tk->PR Nd)(ts:List Tk):PR (List Nd):=(one ts).bd λa b=>Zt one ts.length [a] b
def zas(ts:List Tk):PR (Sl Nd):=(zX [40] ts).bd λ_ a=>
 if isP [41] a=j then .ok (nilS,a.tail) else(yb Z4 a).bd λl t2=>(zX [41] t2).bd λ_ t3 =>.ok (⟨l,j⟩,t3)
def vo(ts:List Tk):PR Nd:=
 if isP [111,119,110] ts=j then .ok (⟨2,(hd ts).T_,0,(hd ts).a_,nilS⟩,ts.tail)
 else if isP [99,101,108,108] ts=j then .ok (⟨2,(hd ts).T_,0,(hd ts).a_,nilS⟩,ts.tail)
 else if isP [99,111,117,110,116,101,100] ts=j then(Zb ts.tail).bd λk a =>.ok (⟨2,(hd ts).T_,0,(hd ts).a_,⟨[k],j⟩⟩,a)
 else if isP [108,111,99,107] ts=j then(Zb ts.tail).bd λk a =>.ok (⟨2,(hd ts).T_,0,(hd ts).a_,⟨[k],j⟩⟩,a)
 else if isP [103,117,97,114,100] ts=j then(Zb ts.tail).bd λk a =>.ok (⟨2,(hd ts).T_,0,(hd ts).a_,⟨[k],j⟩⟩,a)
 else xW 20 ts
def xG(ts:List Tk):PR Nd:=(Zb ts).bd λn a=>
 if isP [91] a=j then(Zb a.tail).bd λk t2=>(zX [93] t2).bd λ_ t3 =>.ok (⟨3,n.T_,n.n_,n.a_,⟨[k],j⟩⟩,t3)
 else .ok (⟨3,n.T_,n.n_,n.a_,nilS⟩,a)
def YI(ts:List Tk):PR Nd:=(Z4 ts).bd λa c=>(zct c).bd λop t2=>(Z4 t2).bd λb t3 =>.ok (⟨4,op,0,a.a_,⟨[a,b],j⟩⟩,t3)
def zdN(a:Int)(ts:List Tk):PR Nd:=(Zb ts).bd λn c=>(vo c).bd λs t2=>
 (if isP [123] t2=j then(yb xG t2.tail).bd λl t3=>(zX [125] t3).bd λ_ t4 =>.ok ([s]++l,t4) else .ok ([s],t2):PR (List Nd)).bd λks t5=>
 (if isP [119,104,101,114,101] t5=j then(yb YI t5.tail).bd λl f =>.ok (ks++l,f) else .ok (ks,t5):PR (List Nd)).bd λks b=>
 (zX [59] b).bd λ_ e =>.ok (⟨1,n.T_,n.n_,a,⟨ks,j⟩⟩,e)
def Wx(ts:List Tk):PR Nd:=
 if isP [105,110,116] ts=j then .ok (⟨8,(hd ts).T_,0,(hd ts).a_,nilS⟩,ts.tail)
 else if isP [111,119,110] ts=j then(Zb ts.tail).bd λk a =>.ok (⟨8,(hd ts).T_,0,(hd ts).a_,⟨[k],j⟩⟩,a)
 else(zX [38] ts).bd λ_ a=>
  if isP [109,117,116] a=j then(Zb a.tail).bd λk t2 =>.ok (⟨8,lit [38,109,117,116],0,(hd ts).a_,⟨[k],j⟩⟩,t2)
  else(Zb a).bd λk t2 =>.ok (⟨8,(hd ts).T_,0,(hd ts).a_,⟨[k],j⟩⟩,t2)
def xH(ts:List Tk):PR Nd:=(Zb ts).bd λn a=>(zX [58] a).bd λ_ t2=>(Wx t2).bd λm t3 =>.ok (⟨7,n.T_,n.n_,n.a_,⟨[m],j⟩⟩,t3)
def atP(k:Int)(ts:List Tk):PR Nd:=(Zb ts).bd λn a=>(zX [91] a).bd λ_ t2=>(Yu 1 t2).bd λv t3=>(zX [93] t3).bd λ_ t4 =>.ok (⟨k,n.T_,v,n.a_,nilS⟩,t4)
def Va(ts:List Tk):PR Nd:=
 if isP [110,101,119] ts=j then(Yu 1 ts.tail).bd λv c =>.ok (⟨23,lit [],v,(hd ts).a_,nilS⟩,c)
 else if isP [97,114,114,97,121] ts=j then(Zb ts.tail).bd λk c =>.ok (⟨24,k.T_,0,(hd ts).a_,nilS⟩,c)
 else if isP [38] ts=j then
  (if isP [109,117,116] ts.tail=j then(Zb ts.tail.tail).bd λk c =>.ok (⟨27,k.T_,0,(hd ts).a_,nilS⟩,c) else(Zb ts.tail).bd λk c =>.ok (⟨26,k.T_,0,(hd ts).a_,nilS⟩,c))
 else if(hd ts).k_≠1 then Z4 ts
 else(Zb ts).bd λn c=>
  if isP [40] c=j then(zas c).bd λks t2 =>.ok (⟨28,n.T_,n.n_,n.a_,ks⟩,t2)
  else if isP [91] c=j then(Z4 c.tail).bd λa t2=>(zX [93] t2).bd λ_ t3 =>.ok (⟨25,n.T_,n.n_,n.a_,⟨[a],j⟩⟩,t3)
  else if isP [43] c=j/\(hd c.tail).k_=1 then(Zb c.tail).bd λb t2 =>.ok (⟨21,lit [],0,n.a_,⟨[n,b],j⟩⟩,t2)
  else if isP [45] c=j/\(hd c.tail).k_=1 then(Zb c.tail).bd λb t2 =>.ok (⟨22,lit [],0,n.a_,⟨[n,b],j⟩⟩,t2)
  else xX n c
def vJ(n:Nd)(ts:List Tk):PR Nd:=
 if isP [40] ts=j then(zas ts).bd λks c =>.ok (⟨20,lit [],0,n.a_,⟨[⟨28,n.T_,n.n_,n.a_,ks⟩],j⟩⟩,c)
 else if isP [91] ts=j then(Z4 ts.tail).bd λa c=>(zX [93] c).bd λ_ t2=>(zX [61] t2).bd λ_ t3=>(Z4 t3).bd λb t4 =>.ok (⟨11,n.T_,n.n_,n.a_,⟨[a,b],j⟩⟩,t4)
 else(zX [61] ts).bd λ_ c=>(Va c).bd λe t2 =>.ok (⟨10,n.T_,n.n_,n.a_,⟨[e],j⟩⟩,t2)
def va(n:Nd)(ts:List Tk):PR Nd:=(zX [59] ts).bd λ_ a =>.ok (n,a)
def wT(blk:List Tk->PR Nd)(k a:Int)(ts:List Tk):PR Nd:=(YI ts).bd λn c=>(blk c).bd λb t2 =>.ok (⟨k,n.T_,n.n_,a,⟨n.K_.xs++[b],j⟩⟩,t2)
def Y1(blk:List Tk->PR Nd)(ts:List Tk):PR Nd:=
 if isP [102,114,101,101] ts=j then(Zb ts.tail).bd λn c=>va ⟨12,n.T_,n.n_,(hd ts).a_,nilS⟩ c
 else if isP [108,111,99,107] ts=j then(atP 13 ts.tail).bd λn c=>va ⟨n.k_,n.T_,n.n_,(hd ts).a_,nilS⟩ c
 else if isP [117,110,108,111,99,107] ts=j then(atP 14 ts.tail).bd λn c=>va ⟨n.k_,n.T_,n.n_,(hd ts).a_,nilS⟩ c
 else if isP [105,102] ts=j then(wT blk 15 (hd ts).a_ ts.tail).bd λn c=>
  if isP [101,108,115,101] c=j then(blk c.tail).bd λb t2 =>.ok (⟨n.k_,n.T_,n.n_,n.a_,⟨n.K_.xs++[b],j⟩⟩,t2)
  else .ok (⟨n.k_,n.T_,n.n_,n.a_,⟨n.K_.xs++[⟨9,lit [],0,(hd ts).a_,nilS⟩],j⟩⟩,c)
 else if isP [119,104,105,108,101] ts=j then wT blk 16 (hd ts).a_ ts.tail
 else if isP [114,101,116,117,114,110] ts=j then
  (if isP [59] ts.tail=j then va ⟨17,lit [],0,(hd ts).a_,nilS⟩ ts.tail else(Z4 ts.tail).bd λa c=>va ⟨17,lit [],0,(hd ts).a_,⟨[a],j⟩⟩ c)
 else if isP [97,98,111,114,116] ts=j then va ⟨18,lit [],0,(hd ts).a_,nilS⟩ ts.tail
 else if isP [102,111,114,107] ts=j then(Zb ts.tail).bd λn c=>(zas c).bd λks t2=>va ⟨19,n.T_,n.n_,(hd ts).a_,ks⟩ t2
 else(Zb ts).bd λn c=>(vJ n c).bd va
def xI(one:List Tk->PR Nd):Nat->List Nd->List Tk->PR (List Nd)
 |0,acc,ts=>xW 20 ts
 |k+1,acc,ts=>if isP [125] ts=j then .ok (acc,ts.tail) else(one ts).bd λa b=>xI one k (acc++[a]) b
def mkS(l:List α):Sl α:=⟨l, !l.isEmpty⟩
def yj:Nat->List Tk->PR Nd
 |0,ts=>if isP [123] ts=j then xW 21 ts else xW 20 ts
 |r+1,ts=>(zX [123] ts).bd λ_ a=>(xI (Y1 (yj r)) a.length [] a).bd λl t2 =>.ok (⟨9,lit [],0,(hd ts).a_,mkS l⟩,t2)
def fnP(a:Int)(ts:List Tk):PR Nd:=(Zb ts).bd λn e=>(zX [40] e).bd λ_ t2=>
 (if isP [41] t2=j then .ok ([],t2) else yb xH t2:PR (List Nd)).bd λps t3=>(zX [41] t3).bd λ_ t4=>
 (if isP [45,62] t4=j then(if isP [38] t4.tail=j then xW 20 t4.tail else Wx t4.tail) else .ok (⟨8,lit [],0,(hd t4).a_,nilS⟩,t4):PR Nd).bd λret t5=>
 (yj 8 t5).bd λb c =>.ok (⟨6,n.T_,n.n_,a,⟨ps++[ret,b],j⟩⟩,c)
def YE:Nat->List Nd->List Tk->PR (List Nd)
 |0,acc,ts=>xW 20 ts
 |k+1,acc,ts=>if(hd ts).k_=0 then .ok (acc,ts)
  else if isP [102,110] ts=j then(fnP (hd ts).a_ ts.tail).bd λa b=>YE k (acc++[a]) b
  else(zX [116,121,112,101] ts).bd λ_ b=>(zdN (hd ts).a_ b).bd λa t2=>YE k (acc++[a]) t2
structure TGood(ts:List Tk):Prop where
 ne:ts≠[]
 last:∀h:ts≠[],(ts.getLast h).k_=0
 len:ts.length<=20000
 num:∀t∈ts,0<=t.n_/\t.n_<=1099511627776
theorem TGood.tail{ts:List Tk}(g:TGood ts)(h:(hd ts).k_≠0):TGood ts.tail:=by
 match ts,g,h with
 |[],g,_=>grind
 |[t],g,h=>exact absurd (g.last je) h
 |t::u::r,g,h=>
  refine⟨je,λ_=>?_,?_,λx a=>g.num x (D2 _ a)⟩
  ·have:=g.last je;grind
  ·have:=g.len;grind
theorem TGood.hd_idx{ts:List Tk}(g:TGood ts)(b:Bool):za (⟨ts,b⟩:Sl Tk) 0=o (hd ts):=by
 match ts,g with
 |[],g=>exact absurd rfl g.ne
 |t::r,_=>rfl
theorem TGood.tl{ts:List Tk}(g:TGood ts)(b:Bool):z7 (⟨ts,b⟩:Sl Tk) 1 (Sl.len (⟨ts,b⟩:Sl Tk))=o ⟨ts.tail,b⟩:=by
 match ts,g with
 |[],g=>exact absurd rfl g.ne
 |t::r,_=>
  unfold z7;rw[jv ⟨Zc,by simp[Sl.len];omega,by simp[Sl.len]⟩];simp[Sl.len]
theorem zfI{ts:List Tk}(h:isP s ts=j):(hd ts).k_≠0:=by
 unfold isP at h;grind
theorem TGood.is{ts:List Tk}(g:TGood ts)(h:isP s ts=j):TGood ts.tail:=g.tail (zfI h)
theorem TGood.tail_len{ts:List Tk}(g:TGood ts):ts.tail.length+1=ts.length:=by
 match ts,g with
 |[],g=>exact absurd rfl g.ne
 |t::r,_=>simp
abbrev PSt:=q7
def Sm(d:Int)(n:Nat)(r:PR α)(m:U3 β)(er:(Int×Int)×PSt->β)(ok:α->PSt->β):Prop:=match r with
 | .error e=>∃st,m=o (er (e,st))
 | .ok (a,ts)=>m=o (ok a ⟨⟨ts,j⟩,d⟩)/\TGood ts/\ts.length<=n
theorem Sm.bd {γ δ:Type}{d:Int}{n i:Nat}{r:PR α}{f:α->List Tk->PR γ}{K:β->U3 δ}{er:(Int×Int)×PSt->β}{ok:α->PSt->β}{b:(Int×Int)×PSt->δ}{c:γ->PSt->δ}
    (h:Sm d n r m er ok) (t:∀e,K (er e)=o (b e)) (q:∀a ts,r = .ok (a,ts)->TGood ts->ts.length<=n->Sm d i (f a ts) (K (ok a ⟨⟨ts,j⟩,d⟩)) b c):Sm d i (r.bd f) (m.bind K) b c:=by
 cases r with
 |error e=>
  obtain⟨st,rfl⟩:=h;exact⟨st,t _⟩
 |ok p=>
  obtain⟨a,ts⟩:=p;obtain⟨rfl,g,l⟩:=h;exact q a ts rfl g l
theorem Sm.ok{d:Int}{n:Nat}{a:α}{ts:List Tk}{er:(Int×Int)×PSt->β}{ok:α->PSt->β}(g:TGood ts)(l:ts.length<=n)(h:m=o (ok a ⟨⟨ts,j⟩,d⟩)):Sm d n (.ok (a,ts)) m er ok:=⟨h,g,l⟩
theorem Sm.mono{d:Int}{n a:Nat}{r:PR α}{er:(Int×Int)×PSt->β}{ok:α->PSt->β}(h:Sm d n r m er ok)(l:n<=a):Sm d a r m er ok:=by
 cases r with
 |error e=>exact h
 |ok p=>exact⟨h.1,h.2.1,UM h.2.2 l⟩
variable {d:Int}{n:Nat}{ts:List Tk}
theorem ZK(g:TGood ts):q14 ⟨⟨ts,j⟩,d⟩=o (hd ts,⟨⟨ts,j⟩,d⟩):=by
 show((za (⟨ts,j⟩:Sl Tk) 0).bind λa=>o (a,(⟨⟨ts,j⟩,d⟩:PSt)))=_;rw[g.hd_idx];rfl
theorem xh(g:TGood ts)(s:List UInt8):q2h (lit s,⟨⟨ts,j⟩,d⟩)=o (isP s ts,⟨⟨ts,j⟩,d⟩):=by
 show((q14 ⟨⟨ts,j⟩,d⟩).bind _)=_;rw[ZK g,jj];simp only[jl];unfold isP;by_cases h2:(hd ts).k_=2
 ·grind
 grind
theorem zY(g:TGood ts)(s:List UInt8):q11 (lit s,⟨⟨ts,j⟩,d⟩)=o (isP s ts,if isP s ts=j then⟨⟨ts.tail,j⟩,d⟩ else⟨⟨ts,j⟩,d⟩):=by
 show((q2h (lit s,⟨⟨ts,j⟩,d⟩)).bind _)=_;rw[xh g,jj];cases h:isP s ts with
 |false=>rfl
 |true=>
  simp only[Do,jk,jp,jq];rw[g.tl];rfl
theorem Vs(g:TGood ts)(e:Int):q1y (e,⟨⟨ts,j⟩,d⟩)=o (((hd ts).a_,e),⟨⟨ts,j⟩,d⟩):=by
 show((q14 ⟨⟨ts,j⟩,d⟩).bind _)=_;rw[ZK g];rfl
theorem zbo (g:TGood ts) {K:Bool×PSt->U3 β}{p q:PR α}{er:(Int×Int)×PSt->β}{ok:α->PSt->β}(h1:isP s ts=j->TGood ts.tail->ts.tail.length+1=ts.length->Sm d n p (K (j,⟨⟨ts.tail,j⟩,d⟩)) er ok)
    (h0:isP s ts=C->Sm d n q (K (C,⟨⟨ts,j⟩,d⟩)) er ok):Sm d n (if isP s ts=j then p else q) ((q11 (lit s,⟨⟨ts,j⟩,d⟩)).bind K) er ok:=by
 rw[zY g,jj];cases h:isP s ts with
 |true=>simp only[jq];exact h1 h (g.is h) g.tail_len
 |false=>grind
theorem ZL(g:TGood ts)(s:List UInt8):Sm d (ts.length - 1) (zX s ts) (q17 (lit s,⟨⟨ts,j⟩,d⟩)) A (λ_ st=>B st):=by
 show Sm d _ _ ((q11 (lit s,⟨⟨ts,j⟩,d⟩)).bind _) _ _;unfold zX;refine zbo g (λh a l=>?_) λh=>?_
 ·exact .ok a Zc rfl
 ·refine⟨⟨⟨ts,j⟩,d⟩,?_⟩;show((q1y (20,⟨⟨ts,j⟩,d⟩)).bind _)=_;rw[Vs g];rfl
theorem zny(g:TGood ts)(k:Int)(a:k≠0):Sm d (ts.length - 1) (wD k ts) (q69 (k,⟨⟨ts,j⟩,d⟩)) A (λt st=>B (t,st)):=by
 show Sm d _ _ ((q14 ⟨⟨ts,j⟩,d⟩).bind _) _ _;rw[ZK g,jj];unfold wD;simp only[jl];by_cases h:(hd ts).k_=k
 ·rw[jv h,jx (by simpa using h),g.tl];exact .ok (g.tail Zc) jE rfl
 ·rw[jx h,jv h,Vs g];exact⟨_,rfl⟩
theorem ziT{ts a:List Tk}{t:Tk}(g:TGood ts)(h:wD k ts = .ok (t,a)):0<=t.n_/\t.n_<=1099511627776:=by
 unfold wD at h;split at h
 ·cases h
  match ts,g with
  |[],g=>exact absurd rfl g.ne
  |t::r,g=>exact g.num t (by simp[hd])
 ·cases h
def ndT(n:Nd):Int×U0×Int×Int:=(n.k_,n.T_,n.n_,n.a_)
theorem ZS(g:TGood ts):Sm d (ts.length - 1) (Zb ts) (q1d ⟨⟨ts,j⟩,d⟩) A (λn st=>B (ndT n,st)):=by
 show Sm d _ _ ((q69 (1,⟨⟨ts,j⟩,d⟩)).bind _) _ _;exact(zny g 1 Zc).bd (λe=>rfl) λt b _ a l =>.ok a l rfl
theorem X0(g:TGood ts)(a:Int)(hs:a=1\/a = -1):Sm d (ts.length - 1) (Yu a ts) (q5c (a,⟨⟨ts,j⟩,d⟩)) A (λv st=>B (v,st)):=by
 show Sm d _ _ ((q69 (3,⟨⟨ts,j⟩,d⟩)).bind _) _ _;refine(zny g 3 Zc).bd (λe=>rfl) λt f c b l =>.ok b l ?_
 have:=ziT g c;show o (B (U4 (a * t.n_),_))=_;rw[zE jE jE]
end
section
variable {d:Int}{n:Nat}{ts:List Tk}
theorem Sm.out{r:PR α}{er:(Int×Int)×PSt->β}{ok:α->PSt->β}(h:Sm d n r m er ok){a:α}{b:List Tk}(e:r = .ok (a,b)):m=o (ok a ⟨⟨b,j⟩,d⟩)/\TGood b/\b.length<=n:=by
 rw[e] at h;exact h
theorem Sm.err{r:PR α}{er:(Int×Int)×PSt->β}{ok:α->PSt->β}(h:Sm d n r m er ok){e:Int×Int}(a:r = .error e):∃st,m=o (er (e,st)):=by
 rw[a] at h;exact h
theorem bd_ok{r:PR α}{f:α->List Tk->PR β}{b:β}{t:List Tk}(h:r.bd f = .ok (b,t)):∃a c,r = .ok (a,c)/\f a c = .ok (b,t):=by
 cases r with
 |error e=>cases h
 |ok p=>exact⟨p.1,p.2,rfl,h⟩
theorem Sm.map{γ:Type}{r:PR α}{K:β->U3 γ}{er:(Int×Int)×PSt->β}{ok:α->PSt->β}{b:(Int×Int)×PSt->γ}{c:α->PSt->γ}(h:Sm d n r m er ok)(q:∀e,K (er e)=o (b e))(i:∀a f,r = .ok (a,f)->TGood f->K (ok a ⟨⟨f,j⟩,d⟩)=o (c a ⟨⟨f,j⟩,d⟩)):Sm d n r (m.bind K) b c:=by
 cases r with
 |error e=>obtain⟨st,rfl⟩:=h;exact⟨st,q _⟩
 |ok p=>obtain⟨rfl,g,l⟩:=h;exact⟨i _ _ rfl g,g,l⟩
theorem zP{ts b:List Tk}{n:Nd}(h:Zb ts = .ok (n,b)):n.K_=nilS:=by
 obtain⟨a,t,_,h⟩:=bd_ok h;cases h;rfl
theorem XN{a:Nd}(h:a.K_=nilS):q8.mk a.k_ a.T_ a.n_ a.a_ (D [] C)=a:=by cases a;grind
theorem zm(a:Nd):ke a=a:=by cases a;rfl
theorem znz{b:Nd}(g:TGood ts):Sm d ts.length (xX b ts) (q6a (b,⟨⟨ts,j⟩,d⟩)) A (λn st=>B (n,st)):=by
 show Sm d _ _ ((q11 (lit [43],⟨⟨ts,j⟩,d⟩)).bind _) _ _;unfold xX;refine zbo g (λh a l=>?_) λh=>?_
 ·simp only[jq,gh];exact(X0 a 1 (.inl rfl)).bd (λe=>rfl) λv c _ g2 l2 =>.ok g2 Zc rfl
 ·simp only[jk,jp,gh];refine zbo g (λh a l=>?_) λh=>?_
  ·simp only[jq,gh];exact(X0 a (-1) (.inr rfl)).bd (λe=>rfl) λv c _ g2 l2 =>.ok g2 Zc rfl
  ·exact .ok g Zc (by simp only[jk,jp,jj,zm,jm])
theorem zgL{ts c:List Tk}{n b:Nd}(h0:b.K_=nilS)(h:xX b ts = .ok (n,c)):n.K_=nilS:=by
 unfold xX at h;split at h
 ·obtain⟨a,t,_,h⟩:=bd_ok h;cases h;exact h0
 ·split at h
  ·obtain⟨a,t,_,h⟩:=bd_ok h;cases h;exact h0
  grind
theorem X3{ts b:List Tk}{n:Nd}(h:Z4 ts = .ok (n,b)):n.K_=nilS:=by
 unfold Z4 at h;split at h
 ·obtain⟨a,t,_,h⟩:=bd_ok h;cases h;rfl
 ·split at h
  ·obtain⟨a,t,_,h⟩:=bd_ok h;cases h;rfl
  ·obtain⟨a,t,h1,h⟩:=bd_ok h;exact zgL (zP h1) h
theorem X4(g:TGood ts):Sm d (ts.length - 1) (Z4 ts) (q2p ⟨⟨ts,j⟩,d⟩) A (λn st=>B (n,st)):=by
 show Sm d _ _ ((q14 ⟨⟨ts,j⟩,d⟩).bind _) _ _;rw[ZK g,jj,ZK g,jj];unfold Z4;simp only[jl];by_cases b:(hd ts).k_=3
 ·rw[jv b,jv b];simp only[gh];exact(X0 g 1 (.inl rfl)).bd (λe=>rfl) λv f _ g2 l2 =>.ok g2 Zc rfl
 ·rw[jx b,jx b];simp only[gh];refine zbo g (λh c l=>?_) λh=>?_
  ·simp only[jq,gh];exact(X0 c (-1) (.inr rfl)).bd (λe=>rfl) λv f _ g2 l2 =>.ok g2 Zc rfl
  ·show Sm d _ _ ((q1d ⟨⟨ts,j⟩,d⟩).bind _) _ _;refine(ZS g).bd (λe=>rfl) λn f i c p=>?_
   show Sm d _ _ (((q6a (q8.mk n.k_ n.T_ n.n_ n.a_ (D [] C),⟨⟨f,j⟩,d⟩)).bind _).bind _) _ _;rw[gh,XN (zP i)];refine Sm.mono ?_ p;exact Sm.map (znz c) (λe=>rfl) λa t2 _ _=>by simp only[jm,jj,zm]
theorem zyN(g:TGood ts):Sm d (ts.length - 1) (zct ts) (qe7 ⟨⟨ts,j⟩,d⟩) B (λs st=>A (s,st)):=by
 have body:∀(i:Int) (s:List UInt8),0<=i->i < 3->vN [lit [60],lit [60,61],lit [61,61]] i=o (lit s)->
     q7t q11 q1y ((lit [60],lit [60,61],lit [61,61]),i,⟨⟨ts,j⟩,d⟩)=if isP s ts=j then o (.done (.inl (lit s,⟨⟨ts.tail,j⟩,d⟩))) else o (.next ((lit [60],lit [60,61],lit [61,61]),i+1,⟨⟨ts,j⟩,d⟩)):=by
  intro i s h0 e c;unfold q7t;simp only[jl,jv e,c,jj,zY g];cases h:isP s ts with
  |true=>grind
  |false=>simp only[jk,jp];rw[zE Zc Zc]
 have e0:=body 0 [60] Zc Zc rfl;have b:=body 1 [60,61] Zc Zc rfl;have f:=body 2 [61,61] Zc Zc rfl;show Sm d _ _ ((lpO (q7t q11 q1y) ((lit [60],lit [60,61],lit [61,61]),0,⟨⟨ts,j⟩,d⟩)).bind _) _ _;unfold zct;rw[Zv,e0];cases h0:isP [60] ts with
 |true=>exact .ok (g.is h0) jE rfl
 |false=>
  simp only[jk,jp,jj];rw[Zv,show(0:Int)+1=1 from rfl,b];cases h1:isP [60,61] ts with
  |true=>exact .ok (g.is h1) jE rfl
  |false=>
   simp only[jk,jp,jj];rw[Zv,show(1:Int)+1=2 from rfl,f];cases h2:isP [61,61] ts with
   |true=>exact .ok (g.is h2) jE rfl
   |false=>
    simp only[jk,jp,jj];rw[Zv,show(2:Int)+1=3 from rfl];have a:q7t q11 q1y ((lit [60],lit [60,61],lit [61,61]),3,⟨⟨ts,j⟩,d⟩)=o (.done (.inr ⟨⟨ts,j⟩,d⟩)):=rfl;rw[a];simp only[jj,jm,Vs g];exact⟨_,rfl⟩
theorem V2{acc:List Nd}{a:Nd}(h:acc.length<=30000)(b:Bool):zo 64 (⟨acc,b⟩:Sl Nd) [a]=o ⟨acc++[a],j⟩:=by
 rw[yy ji ji];simp
abbrev zpv:=Step (PSt×Sl Nd) (((Int×Int)×PSt)⊕(PSt×Sl Nd))
def zeo(d:Int)(one:List Tk->PR Nd)(f:PSt×Sl Nd->U3 zpv):Prop:=∀(ts:List Tk) (acc:List Nd),TGood ts->acc.length<=30000->
 (isP [44] ts=C->f (⟨⟨ts,j⟩,d⟩,⟨acc,j⟩)=o (.done (.inr (⟨⟨ts,j⟩,d⟩,⟨acc,j⟩))))/\
 (isP [44] ts=j->match one ts.tail with
  | .error e=>∃st,f (⟨⟨ts,j⟩,d⟩,⟨acc,j⟩)=o (.done (.inl (e,st)))
  | .ok (a,b)=>TGood b/\b.length+1<=ts.length/\f (⟨⟨ts,j⟩,d⟩,⟨acc,j⟩)=o (.next (⟨⟨b,j⟩,d⟩,⟨acc++[a],j⟩)))
theorem zdO {one:List Tk->PR Nd}{f:PSt×Sl Nd->U3 zpv}(i:zeo d one f):∀(k:Nat) (ts:List Tk) (acc:List Nd),TGood ts->ts.length<=k->acc.length+ts.length<=30000->
    Sm d ts.length (Zt one k acc ts) (lpO f (⟨⟨ts,j⟩,d⟩,⟨acc,j⟩)) A (λl st=>B (st,⟨l,j⟩))/\∀l b,Zt one k acc ts = .ok (l,b)->l.length+b.length<=acc.length+ts.length
 |0,ts,acc,g,hk,ha=>absurd (UQ Zc) g.ne
 |k+1,ts,acc,g,hk,ha=>by
  obtain⟨h0,h1⟩:=i ts acc g Zc;rw[Zv];show Sm d _ (if isP [44] ts=j then _ else _) _ _ _/\∀l b,(if isP [44] ts=j then _ else _)=_->_
  cases h:isP [44] ts with
  |false=>
   rw[h0 h];simp only[jk,jp,jj];exact⟨.ok g (UK _) rfl,λl b e=>jE⟩
  |true=>
   have h1:=h1 h;simp only[jq];cases e:one ts.tail with
   |error er=>
    rw[e] at h1;obtain⟨st,h1⟩:=h1;rw[h1];exact⟨⟨st,rfl⟩,λl b e=>by cases e⟩
   |ok p=>
    obtain⟨a,b⟩:=p;rw[e] at h1;obtain⟨q,t,h1⟩:=h1;rw[h1];have c:=zdO i k b (acc++[a]) q Zc ji;exact⟨c.1.mono Zc,λl t2 r=>by have:=c.2 l t2 r;grind⟩
theorem zh2:zeo d Z4 (qal q2p q11):=by
 intro ts acc g c;unfold qal;simp only[zY g,jj];refine⟨λh=>by rw[h];rfl,λh=>?_⟩;rw[h];simp only[jq];have s:=X4 (d:=d) (g.is h);cases e:Z4 ts.tail with
 |error er=>obtain⟨st,s⟩:=s.err e;grind
 |ok p=>
  obtain⟨a,i⟩:=p;obtain⟨s,b,l⟩:=s.out e;have:=g.tail_len;refine⟨b,Zc,?_⟩;have f:=X3 e;rw[s];simp only[jj,jm,zm,V2 c]
end
section
variable {d:Int}{n:Nat}{ts:List Tk}
theorem zcu {one:List Tk->PR Nd}{f:PSt×Sl Nd->U3 zpv}(q:zeo d one f) {er:(Int×Int)×PSt->β}{ok:Nd->PSt->β}{K:β->U3 (((Int×Int)×PSt)⊕(PSt×Sl Nd))}(g:TGood ts) (h:Sm d (ts.length - 1) (one ts) m er ok)
    (x:∀e,K (er e)=o (A e)) (u:∀a b,one ts = .ok (a,b)->K (ok a ⟨⟨b,j⟩,d⟩)=(lpO f (⟨⟨b,j⟩,d⟩,⟨[a],j⟩)).bind λv=>E (λp=>o (A p)) (λc=>o (B c)) v) :
    Sm d (ts.length - 1) (yb one ts) (m.bind K) A (λl st=>B (st,⟨l,j⟩))/\∀l b,yb one ts = .ok (l,b)->l.length+b.length<=ts.length:=by
 have t:=g.len;have h0:=g.tail_len;constructor
 · refine h.bd x λa b e i r=>?_
   rw[u a b e];have:=(zdO q ts.length b [a] i Zc ji).1;refine Sm.mono ?_ r;exact Sm.map this (λe=>rfl) λl t2 _ _=>rfl
 ·intro l t2 e;obtain⟨a,b,w,y⟩:=bd_ok e;obtain⟨_,i,r⟩:=h.out w;have:=(zdO q ts.length b [a] i Zc ji).2 l t2 y;grind
theorem zlI(g:TGood ts):Sm d (ts.length - 1) (yb Z4 ts) (qau ⟨⟨ts,j⟩,d⟩) A (λl st=>B (st,⟨l,j⟩))/\∀l b,yb Z4 ts = .ok (l,b)->l.length+b.length<=ts.length:=by
 refine zcu zh2 g (X4 g) (λe=>rfl) λa b e=>?_
 simp only[jm,zm]
theorem zh3(g:TGood ts):Sm d (ts.length - 1) (zas ts) (q6b ⟨⟨ts,j⟩,d⟩) A (λl st=>B (st,l)):=by
 show Sm d _ _ ((q17 (lit [40],⟨⟨ts,j⟩,d⟩)).bind _) _ _;refine(ZL g [40]).bd (λe=>rfl) λ_ f _ a i=>?_
 refine zbo a (λh g2 l=>?_) λh=>?_
 ·exact .ok g2 Zc rfl
 ·refine(zlI a).1.bd (λe=>rfl) λl t2 _ g2 l2=>?_
  refine(ZL g2 [41]).bd (λe=>rfl) λ_ t3 _ b c =>.ok b Zc rfl
def ndK(n:Nd)(st:PSt):(Int×U0×Int×Int)×PSt×Sl Nd:=(ndT n,st,n.K_)
theorem zw4(g:TGood ts):Sm d (ts.length - 1) (vo ts) (qdi ⟨⟨ts,j⟩,d⟩) B (λn st=>A (ndK n st)):=by
 show Sm d _ _ ((q14 ⟨⟨ts,j⟩,d⟩).bind _) _ _;rw[ZK g,jj,ZK g,jj,zY g,jj];have l:=g.tail_len;unfold vo
 have nm:∀{K:((Int×Int)×PSt⊕(Int×U0×Int×Int)×PSt)->U3 ((Int×U0×Int×Int)×PSt×Sl Nd⊕(Int×Int)×PSt)},TGood ts.tail->
     (∀e,K (A e)=o (B e))->(∀k a,Zb ts.tail = .ok (k,a)->K (B (ndT k,⟨⟨a,j⟩,d⟩))=o (A (ndK ⟨2,(hd ts).T_,0,(hd ts).a_,⟨[k],j⟩⟩ ⟨⟨a,j⟩,d⟩)))->
     Sm d (ts.length - 1) ((Zb ts.tail).bd λk a =>.ok (⟨2,(hd ts).T_,0,(hd ts).a_,⟨[k],j⟩⟩,a)) ((q1d ⟨⟨ts.tail,j⟩,d⟩).bind K) B (λn st=>A (ndK n st)):=
  λ{K} b h1 h2=>(ZS b).bd h1 λk a e g2 l2 =>.ok g2 Zc (h2 k a e)
 have kk:∀k a,Zb ts.tail = .ok (k,a)->q8.mk (ndT k).1 (ndT k).2.1 (ndT k).2.2.1 (ndT k).2.2.2 (D [] C)=k:=λk a e=>XN (zP e)
 cases h1:isP [111,119,110] ts with
 |true=>exact .ok (g.is h1) Zc rfl
 |false=>
  simp only[jk,jp,zY g,jj];cases h2:isP [99,101,108,108] ts with
  |true=>exact .ok (g.is h2) Zc rfl
  |false=>
   simp only[jk,jp,zY g,jj];cases i:isP [99,111,117,110,116,101,100] ts with
   |true=>
    simp only[jq,jj,gh];exact nm (g.is i) (λe=>rfl) λk a e=>by
     simp only[jm,jj,kk k a e];rfl
   |false=>
    simp only[jk,jp,zY g,jj];cases f:isP [108,111,99,107] ts with
    |true=>
     simp only[jq,jj,gh];exact nm (g.is f) (λe=>rfl) λk a e=>by
      simp only[jm,jj,kk k a e];rfl
    |false=>
     simp only[jk,jp,zY g,jj];cases c:isP [103,117,97,114,100] ts with
     |true=>
      simp only[jq,jj,gh];exact nm (g.is c) (λe=>rfl) λk a e=>by
       simp only[jm,jj,kk k a e];rfl
     |false=>
      simp only[jk,jp,jj,Vs g];exact⟨_,rfl⟩
theorem zlJ(g:TGood ts):Sm d (ts.length - 1) (xG ts) (q9n ⟨⟨ts,j⟩,d⟩) A (λn st=>B (ndK n st)):=by
 show Sm d _ _ ((q1d ⟨⟨ts,j⟩,d⟩).bind _) _ _;refine(ZS g).bd (λe=>rfl) λn p _ a q=>?_
 refine zbo a (λh g2 l=>?_) λh=>?_
 ·simp only[jq,gh];refine(ZS g2).bd (λe=>rfl) λk t2 e c f=>?_
  show Sm d _ _ (((q17 (lit [93],⟨⟨t2,j⟩,d⟩)).bind _).bind _) _ _;rw[gh];refine(ZL c [93]).bd (λe=>rfl) λ_ t4 _ b i =>.ok b Zc ?_
  have:=XN (zP e);simp only[jm,jj,ndT,this];rfl
 ·exact .ok a Zc rfl
theorem zh4(g:TGood ts):Sm d (ts.length - 1) (YI ts) (q55 ⟨⟨ts,j⟩,d⟩) A (λn st=>B (ndK n st)):=by
 show Sm d _ _ ((q2p ⟨⟨ts,j⟩,d⟩).bind _) _ _;refine(X4 g).bd (λe=>rfl) λa p q c r=>?_
 refine(zyN c).bd (λe=>rfl) λop t2 _ g2 l2=>?_
 refine(X4 g2).bd (λe=>rfl) λb t3 i f l =>.ok f Zc ?_
 simp only[jm,zm];rfl
theorem zgM:zeo d xG (q9a q9n q11):=by
 intro ts acc g c;unfold q9a;simp only[zY g,jj];refine⟨λh=>by rw[h];rfl,λh=>?_⟩;rw[h];simp only[jq];have s:=zlJ (d:=d) (g.is h);cases e:xG ts.tail with
 |error er=>obtain⟨st,s⟩:=s.err e;grind
 |ok p=>
  obtain⟨a,i⟩:=p;obtain⟨s,b,f⟩:=s.out e;have:=g.tail_len;refine⟨b,Zc,?_⟩;rw[s];simp only[jj,jm,ndK,ndT,zm,V2 c]
theorem zh5:zeo d YI (qam q55 q11):=by
 intro ts acc g c;unfold qam;simp only[zY g,jj];refine⟨λh=>by rw[h];rfl,λh=>?_⟩;rw[h];simp only[jq];have s:=zh4 (d:=d) (g.is h);cases e:YI ts.tail with
 |error er=>obtain⟨st,s⟩:=s.err e;grind
 |ok p=>
  obtain⟨a,i⟩:=p;obtain⟨s,b,f⟩:=s.out e;have:=g.tail_len;refine⟨b,Zc,?_⟩;rw[s];simp only[jj,jm,ndK,ndT,zm,V2 c]
theorem zc0(g:TGood ts):Sm d (ts.length - 1) (yb xG ts) (qan ⟨⟨ts,j⟩,d⟩) A (λl st=>B (st,⟨l,j⟩))/\∀l b,yb xG ts = .ok (l,b)->l.length+b.length<=ts.length:=by
 refine zcu zgM g (zlJ g) (λe=>rfl) λa b e=>?_
 simp only[jm,ndK,ndT,zm]
theorem zlK(g:TGood ts):Sm d (ts.length - 1) (yb YI ts) (qav ⟨⟨ts,j⟩,d⟩) A (λl st=>B (st,⟨l,j⟩))/\∀l b,yb YI ts = .ok (l,b)->l.length+b.length<=ts.length:=by
 refine zcu zh5 g (zh4 g) (λe=>rfl) λa b e=>?_
 simp only[jm,ndK,ndT,zm]
theorem znA{xs l:List Nd}(h:xs.length+l.length<=60000):zo 64 (⟨xs,j⟩:Sl Nd) l=o ⟨xs++l,j⟩:=by
 rw[yy ji ji];simp
theorem zyO(g:TGood ts)(a:Int):Sm d (ts.length - 1) (zdN a ts) (qbj (a,⟨⟨ts,j⟩,d⟩)) A (λn st=>B (ndK n st)):=by
 have u:=g.len;show Sm d _ _ ((q1d ⟨⟨ts,j⟩,d⟩).bind _) _ _;refine(ZS g).bd (λe=>rfl) λn R _ y Q=>?_
 refine(zw4 y).bd (λe=>rfl) λs t2 _ g2 l2=>?_
 show Sm d _ _ ((q11 (lit [123],⟨⟨t2,j⟩,d⟩)).bind _) _ _;rw[zY g2,jj];have hs:q8.mk (ndK s ⟨⟨t2,j⟩,d⟩).1.1 (ndK s ⟨⟨t2,j⟩,d⟩).1.2.1 (ndK s ⟨⟨t2,j⟩,d⟩).1.2.2.1 (ndK s ⟨⟨t2,j⟩,d⟩).1.2.2.2 (ndK s ⟨⟨t2,j⟩,d⟩).2.2=s:=zm s;simp only[hs];have r:=g2.len;refine Sm.bd (er:=A) (ok:=λ(l:List Nd) (st:PSt)=>B (st,(0,lit [],0,0),(1,n.T_,n.n_,a),(⟨l,j⟩:Sl Nd))) (n:=t2.length) ?_ (λe=>rfl) λks t5 v b H=>?_
 ·cases h:isP [123] t2 with
  |false=>exact .ok g2 (UK _) rfl
  |true=>
   simp only[jq];have i:=g2.is h;have c:=g2.tail_len;obtain⟨f,t⟩:=zc0 (d:=d) i;refine f.bd (λe=>rfl) λl t3 e p G=>?_
   have:=t l t3 e;simp only[jm];rw[znA ji,jj];exact(ZL p [125]).bd (λe=>rfl) λ_ t4 _ b H =>.ok b Zc rfl
 have L:ks.length<=20001:=by
  split at v
  ·rename_i h;have c:=g2.tail_len;obtain⟨l,t3,w,x⟩:=bd_ok v;obtain⟨_,t4,_,K⟩:=bd_ok x;cases K;have:=(zc0 (d:=d) (g2.is h)).2 l t3 w;simp;omega
  grind
 show Sm d _ _ ((q11 (lit [119,104,101,114,101],⟨⟨t5,j⟩,d⟩)).bind _) _ _;rw[zY b,jj];have q:=b.len;refine Sm.bd (er:=A) (ok:=λ(l:List Nd) (st:PSt)=>B (st,(0,lit [],0,0),(1,n.T_,n.n_,a),(⟨l,j⟩:Sl Nd))) (n:=t5.length) ?_ (λe=>rfl) λI M P z N=>?_
 ·cases h:isP [119,104,101,114,101] t5 with
  |false=>exact .ok b (UK _) rfl
  |true=>
   simp only[jq];have i:=b.is h;have c:=b.tail_len;obtain⟨f,t⟩:=zlK (d:=d) i;refine f.bd (λe=>rfl) λl t3 e p G=>?_
   have:=t l t3 e;simp only[jm];rw[znA Zc,jj];exact .ok p Zc rfl
 exact(ZL z [59]).bd (λe=>rfl) λ_ S _ F O =>.ok F Zc rfl
end
section
variable {d:Int}{n:Nat}{ts:List Tk}
theorem znB(g:TGood ts):Sm d (ts.length - 1) (Wx ts) (qaw ⟨⟨ts,j⟩,d⟩) B (λn st=>A (n,st)):=by
 show Sm d _ _ ((q14 ⟨⟨ts,j⟩,d⟩).bind _) _ _;rw[ZK g,jj,ZK g,jj,zY g,jj];have i:=g.tail_len;unfold Wx;cases h1:isP [105,110,116] ts with
 |true=>exact .ok (g.is h1) Zc rfl
 |false=>
  simp only[jk,jp,zY g,jj];cases h2:isP [111,119,110] ts with
  |true=>
   simp only[jq,jj,jo];refine(ZS (g.is h2)).bd (λe=>rfl) λk b e a c =>.ok a Zc ?_
   have:=XN (zP e);simp only[jm,ndT,this]
  |false=>
   simp only[jk,jp,gh];refine(ZL g [38]).bd (λe=>rfl) λ_ b _ a c=>?_
   simp only[jm,zY a,jj,gh];cases f:isP [109,117,116] b with
   |true=>
    simp only[jq,jj,jo];have:=a.tail_len;refine(ZS (a.is f)).bd (λe=>rfl) λk t2 e g2 l2 =>.ok g2 Zc ?_
    have:=XN (zP e);simp only[jm,ndT,this]
   |false=>
    simp only[jk,jp,jj,jo];refine(ZS a).bd (λe=>rfl) λk t2 e g2 l2 =>.ok g2 Zc ?_
    have:=XN (zP e);simp only[jm,ndT,this]
theorem zlL(g:TGood ts):Sm d (ts.length - 1) (xH ts) (q9o ⟨⟨ts,j⟩,d⟩) A (λn st=>B (ndK n st)):=by
 show Sm d _ _ ((q1d ⟨⟨ts,j⟩,d⟩).bind _) _ _;refine(ZS g).bd (λe=>rfl) λn f _ a i=>?_
 refine(ZL a [58]).bd (λe=>rfl) λ_ t2 _ g2 l2=>?_
 exact(znB g2).bd (λe=>rfl) λm t3 _ b c =>.ok b Zc (by simp only[jo,zm];rfl)
theorem zgN:zeo d xH (q9b q9o q11):=by
 intro ts acc g c;unfold q9b;simp only[zY g,jj];refine⟨λh=>by rw[h];rfl,λh=>?_⟩;rw[h];simp only[jq];have s:=zlL (d:=d) (g.is h);cases e:xH ts.tail with
 |error er=>obtain⟨st,s⟩:=s.err e;grind
 |ok p=>
  obtain⟨a,i⟩:=p;obtain⟨s,b,f⟩:=s.out e;have:=g.tail_len;refine⟨b,Zc,?_⟩;rw[s];simp only[jj,jm,ndK,ndT,zm,V2 c]
theorem zc1(g:TGood ts):Sm d (ts.length - 1) (yb xH ts) (qao ⟨⟨ts,j⟩,d⟩) A (λl st=>B (st,⟨l,j⟩))/\∀l b,yb xH ts = .ok (l,b)->l.length+b.length<=ts.length:=by
 refine zcu zgN g (zlL g) (λe=>rfl) λa b e=>?_
 simp only[jm,ndK,ndT,zm]
theorem zvo(g:TGood ts)(k:Int):Sm d (ts.length - 1) (atP k ts) (qbz (k,⟨⟨ts,j⟩,d⟩)) A (λn st=>B (ndT n,st)):=by
 show Sm d _ _ ((q1d ⟨⟨ts,j⟩,d⟩).bind _) _ _;refine(ZS g).bd (λe=>rfl) λn l _ a p=>?_
 refine(ZL a [91]).bd (λe=>rfl) λ_ t2 _ g2 l2=>?_
 refine(X0 g2 1 (.inl rfl)).bd (λe=>rfl) λv t3 _ c i=>?_
 exact(ZL c [93]).bd (λe=>rfl) λ_ t4 _ b f =>.ok b Zc rfl
theorem vK(g:TGood ts)(n:Nd):Sm d (ts.length - 1) (va n ts) (q78 (n,⟨⟨ts,j⟩,d⟩)) A (λn st=>B (n,st)):=by
 show Sm d _ _ ((q17 (lit [59],⟨⟨ts,j⟩,d⟩)).bind _) _ _;exact(ZL g [59]).bd (λe=>rfl) λ_ c _ a b =>.ok a Zc (by simp only[jm,zm])
theorem TGood.idx1{ts:List Tk}(g:TGood ts.tail):za (⟨ts,j⟩:Sl Tk) 1=o (hd ts.tail):=by
 match ts,g with
 |[],g=>exact absurd rfl g.ne
 |[t],g=>exact absurd rfl g.ne
 |t::u::r,_=>rfl
theorem zh6{ts:List Tk}(h:isP [43] ts=j):isP [45] ts=false:=by
 unfold isP at h |-
 simp only[gf,jl] at h;have:¬ (hd ts).T_=lit [45]:=by
  rw[h.2];intro e;have:=congrArg bs e;simp[wy] at this
 simp[this]
theorem zw5(g:TGood ts):Sm d (ts.length - 1) (Va ts) (qdj ⟨⟨ts,j⟩,d⟩) A (λn st=>B (n,st)):=by
 show Sm d _ _ ((q14 ⟨⟨ts,j⟩,d⟩).bind _) _ _;rw[ZK g,jj,zY g,jj];have Q:=g.tail_len;unfold Va;cases h1:isP [110,101,119] ts with
 |true=>
  simp only[jq,gh];exact(X0 (g.is h1) 1 (.inl rfl)).bd (λe=>rfl) λv f _ c G =>.ok c Zc rfl
 |false=>
 simp only[jk,jp,zY g,jj];cases h2:isP [97,114,114,97,121] ts with
 |true=>
  simp only[jq,gh];exact(ZS (g.is h2)).bd (λe=>rfl) λv f _ c G =>.ok c Zc rfl
 |false=>
 simp only[jk,jp,zY g,jj];cases M:isP [38] ts with
 |true=>
  have c:=g.is M;simp only[jq,zY c,jj];cases H:isP [109,117,116] ts.tail with
  |true=>
   have:=c.tail_len;simp only[jq,jj,gh];exact(ZS (c.is H)).bd (λe=>rfl) λv f _ g2 l2 =>.ok g2 Zc rfl
  |false=>
   simp only[jk,jp,jj,gh];exact(ZS c).bd (λe=>rfl) λv f _ g2 l2 =>.ok g2 Zc rfl
 |false=>
 simp only[jk,jp,ZK g,jj,jl];by_cases I:(hd ts).k_=1
 case neg=>
  simp only[Dj,I,ju,jq,gh];refine Sm.map (X4 g) (λe=>rfl) λv f e g2=>?_
  simp only[jm,jo,jj,zm]
 case pos=>
 simp only[Dj,I,jt,jp,jj,jm];refine(ZS g).bd (λe=>rfl) λn f P c G=>?_
 have F:=XN (zP P);have O:=c.tail_len;simp only[jm,xh c,jj];cases H:isP [40] f with
 |true=>
  simp only[jq,gh];exact(zh3 c).bd (λe=>rfl) λv t2 _ g2 l2 =>.ok g2 Zc rfl
 |false=>
 simp only[jk,jp,zY c,jj];cases K:isP [91] f with
 |true=>
  simp only[jq,gh];refine(X4 (c.is K)).bd (λe=>rfl) λa t2 N g2 l2=>?_
  have R:=XN (X3 N);show Sm d _ _ (((q17 (lit [93],⟨⟨t2,j⟩,d⟩)).bind _).bind _) _ _;rw[gh];exact(ZL g2 [93]).bd (λe=>rfl) λ_ t3 _ L S =>.ok L Zc (by simp only[jm,jo,jj,ndT,zm])
 |false=>
 simp only[jk,jp,jj,jm,xh c];by_cases hp:isP [43] f=j/\(hd f.tail).k_=1
 ·obtain⟨b,i⟩:=hp;have r:=zh6 b;have l:=c.is b;have t:=(ZL (d:=d) c [43]).out (show zX [43] f = .ok ((),f.tail) by unfold zX;grind);rw[jv ⟨b,i⟩];simp only[b,r,jq,jk,jp,jj,l.idx1,i,js,t.1,jm];have nm:=ZS (d:=d) l;cases e:Zb f.tail with
  |error er=>
   obtain⟨st,h⟩:=nm.err e;simp only[h,xh c,b,r,jq,jk,jp,l.idx1,i,js,t.1,jj,jm,jo,Zs];exact⟨st,rfl⟩
  |ok q=>
   obtain⟨k,t2⟩:=q;obtain⟨h,g2,l2⟩:=nm.out e;have u:=XN (zP e);simp only[h,xh c,b,r,jq,jk,jp,l.idx1,i,js,t.1,jj,jm,jo,Zs];simp only[ndT,u,F];exact .ok g2 Zc rfl
 ·rw[jx hp];by_cases x:isP [45] f=j/\(hd f.tail).k_=1
  ·obtain⟨b,i⟩:=x;have r:isP [43] f=false:=by
    grind
   have l:=c.is b;have t:=(ZL (d:=d) c [45]).out (show zX [45] f = .ok ((),f.tail) by unfold zX;grind);rw[jv ⟨b,i⟩];simp only[b,r,jq,jk,jp,jj,l.idx1,i,js,t.1,jm];have nm:=ZS (d:=d) l;cases e:Zb f.tail with
   |error er=>
    obtain⟨st,h⟩:=nm.err e;simp only[h,xh c,b,r,jq,jk,jp,l.idx1,i,js,t.1,jj,jm,jo,Zs];exact⟨st,rfl⟩
   |ok q=>
    obtain⟨k,t2⟩:=q;obtain⟨h,g2,l2⟩:=nm.out e;have u:=XN (zP e);simp only[h,xh c,b,r,jq,jk,jp,l.idx1,i,js,t.1,jj,jm,jo,Zs];simp only[ndT,u,F];exact .ok g2 Zc rfl
  ·rw[jx x];have fin:Sm d (ts.length - 1) (xX n f) ((q6a (q8.mk (ndT n).1 (ndT n).2.1 (ndT n).2.2.1 (ndT n).2.2.2 (D [] C),⟨⟨f,j⟩,d⟩)).bind λy=>E (λe=>o (A e)) (λz=>o (B (ke z.1,z.2))) y) A (λn st=>B (n,st)):=by
    refine Sm.mono ?_ G;rw[show q8.mk (ndT n).1 (ndT n).2.1 (ndT n).2.2.1 (ndT n).2.2.2 (D [] C)=n from F];refine Sm.map (znz c) (λe=>rfl) λa t2 e _=>?_
    simp only[jm,zm]
   cases b:isP [43] f with
   |true=>
    have l:=c.is b;have r:=zh6 b;have w:¬ (hd f.tail).k_=1:=λe=>hp ⟨b,e⟩
    simp only[xh c,b,r,jq,jk,jp,jj,l.idx1,w,jr,jm,Zs];exact fin
   |false=>
    cases p:isP [45] f with
    |true=>
     have l:=c.is p;have w:¬ (hd f.tail).k_=1:=λe=>x ⟨p,e⟩
     simp only[xh c,b,p,jq,jk,jp,jj,l.idx1,w,jr,jm,Zs];exact fin
    |false=>
     simp only[xh c,b,p,jk,jp,jj,jm,Zs];exact fin
end
section
variable {d:Int}{n:Nat}{ts:List Tk}
theorem zt6(g:TGood ts)(n:Nd):Sm d (ts.length - 1) (vJ n ts) (q9p (n,⟨⟨ts,j⟩,d⟩)) A (λn st=>B (ndK n st)):=by
 show Sm d _ _ ((q2h (lit [40],⟨⟨ts,j⟩,d⟩)).bind _) _ _;rw[xh g,jj];have w:=g.tail_len;unfold vJ;cases h1:isP [40] ts with
 |true=>
  simp only[jq,gh];exact(zh3 g).bd (λe=>rfl) λv f _ c i =>.ok c Zc rfl
 |false=>
 simp only[jk,jp,zY g,jj];cases h2:isP [91] ts with
 |true=>
  simp only[jq,gh];refine(X4 (g.is h2)).bd (λe=>rfl) λa f u c i=>?_
  show Sm d _ _ (((q17 (lit [93],⟨⟨f,j⟩,d⟩)).bind _).bind _) _ _;rw[gh];refine(ZL c [93]).bd (λe=>rfl) λ_ t2 _ g2 l2=>?_
  show Sm d _ _ (((q17 (lit [61],⟨⟨t2,j⟩,d⟩)).bind _).bind _) _ _;rw[gh];refine(ZL g2 [61]).bd (λe=>rfl) λ_ t3 _ p r=>?_
  show Sm d _ _ (((q2p ⟨⟨t3,j⟩,d⟩).bind _).bind _) _ _;rw[gh];refine(X4 p).bd (λe=>rfl) λb t4 q l t =>.ok l Zc ?_
  simp only[jm,jo,jj,zm];rfl
 |false=>
 simp only[jk,jp,jj,jm];refine(ZL g [61]).bd (λe=>rfl) λ_ f _ c i=>?_
 refine(zw5 c).bd (λe=>rfl) λa t2 _ g2 l2 =>.ok g2 Zc ?_
 simp only[jm,zm];rfl
def zgO(d:Int)(h:PSt->U3 ((Int×Int)×PSt⊕(Int×U0×Int×Int)×PSt×Sl Nd))(blk:List Tk->PR Nd):Prop:=∀ts,TGood ts->Sm d (ts.length - 1) (blk ts) (h ⟨⟨ts,j⟩,d⟩) A (λn st=>B (ndK n st))
variable {h:PSt->U3 ((Int×Int)×PSt⊕(Int×U0×Int×Int)×PSt×Sl Nd)}{blk:List Tk->PR Nd}
theorem zcv{ts c:List Tk}{n:Nd}(h:YI ts = .ok (n,c)):∃a b,n.K_=⟨[a,b],j⟩:=by
 obtain⟨a,t,_,h⟩:=bd_ok h;obtain⟨op,t2,_,h⟩:=bd_ok h;obtain⟨b,t3,_,h⟩:=bd_ok h;grind
theorem ziU(hb:zgO d h blk)(g:TGood ts)(k a:Int):Sm d (ts.length - 1) (wT blk k a ts) (q48 h (k,a,⟨⟨ts,j⟩,d⟩)) A (λn st=>B (ndK n st)):=by
 show Sm d _ _ ((q55 ⟨⟨ts,j⟩,d⟩).bind _) _ _;refine(zh4 g).bd (λe=>rfl) λn l i c p=>?_
 refine(hb l c).bd (λe=>rfl) λb t2 q g2 l2 =>.ok g2 Zc ?_
 obtain⟨x,y,f⟩:=zcv i;simp only[jm,ndK,ndT,f,zm];rw[V2 je];rfl
theorem zdP{ts f:List Tk}{n:Nd}{a:Int}(h:wT blk k a ts = .ok (n,f)):∃a b c,n.K_=⟨[a,b,c],j⟩:=by
 obtain⟨m,t,e,h⟩:=bd_ok h;obtain⟨b,t2,_,h⟩:=bd_ok h;obtain⟨x,y,g⟩:=zcv e;grind
theorem zcw(x:Nd×Int):q8p x=o (⟨x.1.k_,x.1.T_,x.1.n_,x.2,x.1.K_⟩,x.2):=rfl
set_option maxHeartbeats 1000000 in
theorem zw6(hb:zgO d h blk)(g:TGood ts):Sm d (ts.length - 1) (Y1 blk ts) (q41 h ⟨⟨ts,j⟩,d⟩) A (λn st=>B (n,st)):=by
 show Sm d _ _ ((q14 ⟨⟨ts,j⟩,d⟩).bind _) _ _;rw[ZK g,jj,zY g,jj];have I:=g.tail_len;unfold Y1;cases h1:isP [102,114,101,101] ts with
 |true=>
  simp only[jq,gh];refine(ZS (g.is h1)).bd (λe=>rfl) λn f _ c l=>?_
  refine Sm.mono (n:=f.length - 1) ?_ Zc;simp only[jm,zcw,jj,gh,ndT];exact Sm.map (vK c ⟨12,n.T_,n.n_,(hd ts).a_,nilS⟩) (λe=>rfl) λa t2 i g2=>by
   simp only[jm,jo,jj,zm]
 |false=>
 simp only[jk,jp,zY g,jj];cases h2:isP [108,111,99,107] ts with
 |true=>
  simp only[jq,gh];refine(zvo (g.is h2) 13).bd (λe=>rfl) λn f _ c l=>?_
  refine Sm.mono (n:=f.length - 1) ?_ Zc;simp only[jm,zcw,jj,gh,ndT];exact Sm.map (vK c ⟨n.k_,n.T_,n.n_,(hd ts).a_,nilS⟩) (λe=>rfl) λa t2 i g2=>by
   simp only[jm,jo,jj,zm]
 |false=>
 simp only[jk,jp,zY g,jj];cases G:isP [117,110,108,111,99,107] ts with
 |true=>
  simp only[jq,gh];refine(zvo (g.is G) 14).bd (λe=>rfl) λn f _ c l=>?_
  refine Sm.mono (n:=f.length - 1) ?_ Zc;simp only[jm,zcw,jj,gh,ndT];exact Sm.map (vK c ⟨n.k_,n.T_,n.n_,(hd ts).a_,nilS⟩) (λe=>rfl) λa t2 i g2=>by
   simp only[jm,jo,jj,zm]
 |false=>
 simp only[jk,jp,zY g,jj];cases F:isP [105,102] ts with
 |true=>
  simp only[jq,gh];refine(ziU hb (g.is F) 15 (hd ts).a_).bd (λe=>rfl) λn f q c l=>?_
  obtain⟨x,y,z,w⟩:=zdP q;simp only[jm,ndK,ndT,w,zY c,jj,gh];cases p:isP [101,108,115,101] f with
  |true=>
   have:=c.tail_len;simp only[jq,gh];refine(hb f.tail (c.is p)).bd (λe=>rfl) λb t2 _ g2 l2 =>.ok g2 Zc ?_
   simp only[jm,ndK,ndT,zm];rw[V2 je];rfl
  |false=>
   simp only[jk,jp];rw[V2 je];exact .ok c Zc rfl
 |false=>
 simp only[jk,jp,zY g,jj];cases p:isP [119,104,105,108,101] ts with
 |true=>
  simp only[jq,gh];refine Sm.mono (n:=ts.tail.length - 1) ?_ Zc;exact Sm.map (ziU hb (g.is p) 16 (hd ts).a_) (λe=>rfl) λa f i c=>by
   simp only[jm,jo,jj,ndK,ndT,zm]
 |false=>
 simp only[jk,jp,zY g,jj];cases v:isP [114,101,116,117,114,110] ts with
 |true=>
  have c:=g.is v;simp only[jq,xh c,jj,gh];cases t:isP [59] ts.tail with
  |true=>
   simp only[Do,jk,jp,jq,jj,jm];refine Sm.mono (n:=ts.tail.length - 1) ?_ Zc;show Sm d _ _ (((q78 (_,⟨⟨ts.tail,j⟩,d⟩)).bind _).bind _) _ _;rw[gh];exact Sm.map (vK c ⟨17,lit [],0,(hd ts).a_,nilS⟩) (λe=>rfl) λa f i c=>by
    simp only[jm,jo,jj,zm]
  |false=>
   simp only[D6,jk,jp,jq,gh];refine(X4 c).bd (λe=>rfl) λa f i g2 l2=>?_
   simp only[jm,jj,gh,zm];refine Sm.mono (n:=f.length - 1) ?_ Zc;exact Sm.map (vK g2 ⟨17,lit [],0,(hd ts).a_,⟨[a],j⟩⟩) (λe=>rfl) λb t2 r u=>by
    simp only[jm,jo,jj,zm]
 |false=>
 simp only[jk,jp,zY g,jj];cases t:isP [97,98,111,114,116] ts with
 |true=>
  have c:=g.is t;simp only[jq,gh];refine Sm.mono (n:=ts.tail.length - 1) ?_ Zc;exact Sm.map (vK c ⟨18,lit [],0,(hd ts).a_,nilS⟩) (λe=>rfl) λa t2 i g2=>by
   simp only[jm,jo,jj,zm]
 |false=>
 simp only[jk,jp,zY g,jj];cases H:isP [102,111,114,107] ts with
 |true=>
  simp only[jq,gh];refine(ZS (g.is H)).bd (λe=>rfl) λn f _ c l=>?_
  simp only[jm,gh];refine(zh3 c).bd (λe=>rfl) λks t2 _ g2 l2=>?_
  simp only[jm,zcw,jj,gh,ndT];refine Sm.mono (n:=t2.length - 1) ?_ Zc;exact Sm.map (vK g2 ⟨19,n.T_,n.n_,(hd ts).a_,ks⟩) (λe=>rfl) λb t2 r u=>by
   simp only[jm,jo,jj,zm]
 |false=>
 simp only[jk,jp,jj,jm,gh];refine(ZS g).bd (λe=>rfl) λn f q c l=>?_
 simp only[jm,gh];rw[show q8.mk (ndT n).1 (ndT n).2.1 (ndT n).2.2.1 (ndT n).2.2.2 (D [] C)=n from XN (zP q)];refine(zt6 c n).bd (λe=>rfl) λm t2 _ g2 l2=>?_
 simp only[jm,gh,ndK,ndT,zm];refine Sm.mono (n:=t2.length - 1) ?_ Zc;exact Sm.map (vK g2 m) (λe=>rfl) λb t2 r u=>by
  grind
end
section
variable {d:Int}{n:Nat}{ts:List Tk}
variable {h:PSt->U3 ((Int×Int)×PSt⊕(Int×U0×Int×Int)×PSt×Sl Nd)}{blk:List Tk->PR Nd}
theorem zvp{acc:List Nd}{a:Nd}(h:acc.length<=30000):zo 64 (mkS acc) [a]=o (mkS (acc++[a])):=by
 rw[yy (by simp[mkS];omega) (by simp[mkS];omega)];simp[mkS]
noncomputable abbrev zh7(h:PSt->U3 ((Int×Int)×PSt⊕(Int×U0×Int×Int)×PSt×Sl Nd)):=qfa q14 q2h q1y q17 q11 (q41 h)
theorem zgP (hb:zgO d h blk) {u v:Int×U0×Int×Int}:∀(k:Nat) (ts:List Tk) (acc:List Nd),TGood ts->ts.length<=k->acc.length+ts.length<=30000->
    Sm d (ts.length - 1) (xI (Y1 blk) k acc ts) (lpO (zh7 h) (⟨⟨ts,j⟩,d⟩,u,v,mkS acc)) A (λl st=>B (st,u,v,mkS l))/\∀l b,xI (Y1 blk) k acc ts = .ok (l,b)->l.length+b.length<=acc.length+ts.length
 |0,ts,acc,g,hk,ha=>absurd (UQ Zc) g.ne
 |k+1,ts,acc,g,hk,ha=>by
  have q:=g.tail_len;rw[Zv];show Sm d _ (if isP [125] ts=j then _ else _) ((((q11 (lit [125],⟨⟨ts,j⟩,d⟩)).bind _)).bind _) _ _/\∀l b,(if isP [125] ts=j then _ else _)=_->_
  rw[zY g,jj];cases e:isP [125] ts with
  |true=>
   simp only[jq,Do,jk,jp];exact⟨.ok (g.is e) Zc rfl,λl b e=>by cases e;omega⟩
  |false=>
   simp only[jk,jp,D6,jq];have s:=zw6 hb g;cases es:Y1 blk ts with
   |error er=>
    obtain⟨st,s⟩:=s.err es;rw[s];exact⟨⟨st,rfl⟩,λl b e=>by cases e⟩
   |ok p=>
    obtain⟨a,b⟩:=p;obtain⟨s,f,r⟩:=s.out es;rw[s];simp only[jj,jm,zm];rw[zvp Zc];simp only[jj];have c:=zgP hb (u:=u) (v:=v) k b (acc++[a]) f Zc ji;exact⟨c.1.mono Zc,λl t2 i=>by have:=c.2 l t2 i;grind⟩
theorem zlM:∀(r:Nat) (k:Nat) (d:Int),d=8 - (r:Int)->0<=d->r+1<=k->zgO d (q3p k) (yj r)
 |r,0,d,_,_,hk=>Zc
 |0,k+1,d,hd',h0,hk=>by
  intro ts g;show Sm d _ _ ((q14 ⟨⟨ts,j⟩,d⟩).bind _) _ _;rw[ZK g,jj,xh g,jj];unfold yj;cases e:isP [123] ts with
  |true=>
   have:decide (8<=d)=true:=gm Zc;simp only[jq,jj,this,Vs g];exact⟨_,rfl⟩
  |false=>
   simp only[jk,jp,jj];have F:zX [123] ts = .error ((hd ts).a_,20):=by unfold zX;rw[e];rfl
   obtain⟨st,s⟩:=(ZL (d:=d) g [123]).err F;rw[s];exact⟨st,rfl⟩
 |r+1,k+1,d,hd',h0,hk=>by
  intro ts g;show Sm d _ _ ((q14 ⟨⟨ts,j⟩,d⟩).bind _) _ _;rw[ZK g,jj,xh g,jj];unfold yj;have I:decide (8<=d)=false:=decide_eq_false Zc;have hb:=zlM r k (d+1) Zc Zc Zc;have G:U4 (d+1)=d+1:=zE Zc Zc;have c:U4 (d+1 - 1)=d:=by rw[zE Zc Zc];omega
  have q:=g.len
  have fin:Sm d (ts.length - 1) ((zX [123] ts).bd λ_ b=>(xI (Y1 (yj r)) b.length [] b).bd λl t2 =>.ok (⟨9,lit [],0,(hd ts).a_,mkS l⟩,t2))
      ((q17 (lit [123],⟨⟨ts,j⟩,d⟩)).bind λy=>E (λz=>o (A z)) (λw=>(lpO (zh7 (q3p k)) (q7.mk w.Z_ (U4 (w.D_+1)),(0,lit [],0,0),(9,lit [],0,(hd ts).a_),D [] C)).bind λf=>
        E (λi=>o (A i)) (λa=>o (B (a.2.2.1,q7.mk a.1.Z_ (U4 (a.1.D_ - 1)),a.2.2.2))) f) y) A (λn st=>B (ndK n st)):=by
   refine(ZL g [123]).bd (λe=>rfl) λ_ b _ x H=>?_
   have t:=(zgP hb (u:=(0,lit [],0,0)) (v:=(9,lit [],0,(hd ts).a_)) b.length b [] x (UK _) ji).1;simp only[jm,G];show Sm d _ _ ((lpO (zh7 (q3p k)) (⟨⟨b,j⟩,d+1⟩,(0,lit [],0,0),(9,lit [],0,(hd ts).a_),mkS [])).bind _) _ _;cases es:xI (Y1 (yj r)) b.length [] b with
   |error er=>obtain⟨st,s⟩:=t.err es;rw[s];exact⟨st,rfl⟩
   |ok p=>
    obtain⟨l,t2⟩:=p;obtain⟨s,g2,l2⟩:=t.out es;rw[s];simp only[jj,jm,c];exact .ok g2 Zc rfl
  cases e:isP [123] ts with
  |true=>
   grind
  |false=>
   grind
theorem zw7:zgO 0 qd5 (yj 8):=zlM 8 100000 0 Zc Zc Zc
theorem zAt{xs l:List Nd}{b:Bool}(h:xs.length+l.length<=60000)(a:l≠[]):zo 64 (⟨xs,b⟩:Sl Nd) l=o ⟨xs++l,j⟩:=by
 rw[yy ji ji];grind
theorem zAu(g:TGood ts)(c:Int):Sm 0 (ts.length - 1) (fnP c ts) (qc0 (c,⟨⟨ts,j⟩,0⟩)) A (λn st=>B (ndK n st)):=by
 have v:=g.len;show Sm 0 _ _ ((q1d ⟨⟨ts,j⟩,0⟩).bind _) _ _;refine(ZS g).bd (λe=>rfl) λn P _ z M=>?_
 refine(ZL z [40]).bd (λe=>rfl) λ_ t2 _ g2 l2=>?_
 simp only[jm,xh g2,jj];have h2:=g2.tail_len;refine Sm.bd (er:=A) (ok:=λ(l:List Nd) (st:PSt)=>B (st,(0,lit [],0,0),(6,n.T_,n.n_,c),(mkS l:Sl Nd))) (n:=t2.length) ?_ (λe=>rfl) λks t3 q u K=>?_
 ·cases e:isP [41] t2 with
  |true=>exact .ok g2 (UK _) rfl
  |false=>
   simp only[jk,jp,D6,jq];refine Sm.mono (n:=t2.length - 1) ?_ Zc;obtain⟨w,S⟩:=zc1 (d:=0) g2;refine Sm.map w (λe=>rfl) λl t3 y u=>?_
   have F:l≠[]:=by
    obtain⟨a,t,_,x⟩:=bd_ok y;have:∀(k:Nat) (acc:List Nd) (t:List Tk) (l:List Nd) (t3:List Tk),acc≠[]->Zt xH k acc t = .ok (l,t3)->l≠[]:=by
     intro k
     induction k with
     |zero=>intro acc t l t3 r e;cases e;exact r
     |succ k L=>
      intro acc t l t3 r e;unfold Zt at e;split at e
      ·obtain⟨a,R,_,e⟩:=bd_ok e;grind
      grind
    grind
   cases l with
   |nil=>grind
   |cons a l=>rfl
 have G:ks.length<=20001:=by
  have p:=g2.len;split at q
  ·cases q;simp
  ·have:=(zc1 (d:=0) g2).2 ks t3 q;omega
 refine(ZL u [41]).bd (λe=>rfl) λ_ t4 _ i N=>?_
 simp only[jm,zY i,jj];have I:=i.tail_len;refine Sm.bd (er:=A) (ok:=λ(m:Nd) (st:PSt)=>B (st,(0,lit [],0,0),(6,n.T_,n.n_,c),m,(mkS ks:Sl Nd))) (n:=t4.length) ?_ (λe=>rfl) λret t5 Q f T=>?_
 ·cases e:isP [45,62] t4 with
  |true=>
   have f:=i.is e;simp only[jq,xh f,jj];cases x:isP [38] t4.tail with
   |true=>simp only[jq,Vs f,jj];exact⟨_,rfl⟩
   |false=>
    simp only[jk,jp];refine Sm.mono (n:=t4.tail.length - 1) ?_ Zc;exact Sm.map (znB f) (λe=>rfl) λa t _ _=>by simp only[jo,zm]
  |false=>
   simp only[jk,jp,ZK i,jj];exact .ok i (UK _) rfl
 refine(zw7 t5 f).bd (λe=>rfl) λb U _ H O =>.ok H Zc ?_
 simp only[jm,ndK,ndT,zm,mkS];rw[zAt ji je];rfl
end
section
mutual
def zl:Nd->Nat
 |⟨_,_,_,_,ks⟩=>zvq ks+1
def zvq:Sl Nd->Nat
 |⟨xs,_⟩=>zd xs
def zd:List Nd->Nat
 |[]=>0
 |a::r=>zl a+zd r
end
theorem zk(n:Nd):zl n=zd n.K_.xs+1:=by
 obtain⟨a,b,c,d,⟨xs,nn⟩⟩:=n;simp[zl,zvq]
theorem zN:∀(a b:List Nd),zd (a++b)=zd a+zd b
 |[],b=>by simp[zd]
 |x::a,b=>by simp[zd,zN a b];omega
theorem zO{ts:List Tk}(h:isP s ts=j):ts.tail.length+1=ts.length:=by
 cases ts with
 |nil=>exact absurd rfl (zfI h)
 |cons=>simp
theorem Zp{ts a:List Tk}{u:Unit}(h:zX s ts = .ok (u,a)):a.length+1=ts.length:=by
 unfold zX at h;split at h
 ·rename_i h1;cases h;exact zO h1
 ·cases h
theorem ziV(b:k≠0){ts a:List Tk}{t:Tk}(h:wD k ts = .ok (t,a)):a.length+1=ts.length:=by
 unfold wD at h;split at h
 ·rename_i h1;cases h;cases ts with
  |nil=>exact absurd h1.symm b
  |cons=>simp
 ·cases h
theorem Xk{c:Int}{ts b:List Tk}{v:Int}(h:Yu c ts = .ok (v,b)):b.length+1=ts.length:=by
 obtain⟨a,t,e,h⟩:=bd_ok h;cases h;exact ziV Zc e
def Sz(p:List Tk->PR Nd):Prop:=∀ts n a,p ts = .ok (n,a)->zl n+3 * a.length<=3 * ts.length/\a.length+1<=ts.length
def SzL(p:List Tk->PR (List Nd)):Prop:=∀ts n a,p ts = .ok (n,a)->zd n+3 * a.length<=3 * ts.length/\a.length+1<=ts.length
theorem ZO{ts b:List Tk}{n:Nd}(h:Zb ts = .ok (n,b)):zl n=1/\b.length+1=ts.length:=by
 obtain⟨a,t,e,h⟩:=bd_ok h;cases h;exact⟨by simp[zk,zd],ziV Zc e⟩
theorem zlN{ts b:List Tk}{n m:Nd}(h:xX n ts = .ok (m,b)):zl m=zl n/\b.length<=ts.length:=by
 unfold xX at h;split at h
 ·rename_i hp;obtain⟨a,t,e,h⟩:=bd_ok h;cases h;have:=Xk e;have:=zO hp;exact⟨by simp[zk,Nd.num],Zc⟩
 ·split at h
  ·rename_i hp;obtain⟨a,t,e,h⟩:=bd_ok h;cases h;have:=Xk e;have:=zO hp;exact⟨by simp[zk,Nd.num],Zc⟩
  grind
theorem wM{ts b:List Tk}{n:Nd}(h:Z4 ts = .ok (n,b)):zl n=1/\b.length+1<=ts.length:=by
 unfold Z4 at h;split at h
 ·obtain⟨a,t,e,h⟩:=bd_ok h;cases h;have:=Xk e;exact⟨by simp[zk,zd],Zc⟩
 ·split at h
  ·rename_i hp;obtain⟨a,t,e,h⟩:=bd_ok h;cases h;have:=Xk e;have:=zO hp;exact⟨by simp[zk,zd],Zc⟩
  ·obtain⟨a,t,e,h⟩:=bd_ok h;have h1:=ZO e;have h2:=zlN h;grind
theorem zfe{one:List Tk->PR Nd}(c:Sz one):∀(k:Nat) (acc:List Nd) (ts:List Tk) (l:List Nd) (b:List Tk),Zt one k acc ts = .ok (l,b)->zd l+3 * b.length<=zd acc+3 * ts.length/\b.length<=ts.length
 |0,acc,ts,l,b,h=>by cases h;grind
 |k+1,acc,ts,l,b,h=>by
  unfold Zt at h;split at h
  ·rename_i hp;obtain⟨a,t,e,h⟩:=bd_ok h;have h1:=c _ _ _ e;have h2:=zfe c k _ _ _ _ h;have f:=zO hp;rw[zN] at h2;simp only[zd] at h2;omega
  grind
theorem zcx{one:List Tk->PR Nd}(b:Sz one):SzL (yb one):=by
 intro ts l c h;obtain⟨a,t,e,h⟩:=bd_ok h;have h1:=b _ _ _ e;have h2:=zfe b _ _ _ _ _ h;simp only[zd] at h2;omega
theorem zlO:Sz Z4:=λts n a h=>by have:=wM h;omega
theorem zfJ{ts a:List Tk}{ks:Sl Nd}(h:zas ts = .ok (ks,a)):zd ks.xs+3 * a.length+3<=3 * ts.length/\a.length+1<=ts.length:=by
 obtain⟨u,t,e,h⟩:=bd_ok h;have h0:=Zp e;split at h
 ·rename_i hp;have:=zO hp;cases h;simp[zd];omega
 ·obtain⟨l,t2,c,h⟩:=bd_ok h;obtain⟨u,t3,b,h⟩:=bd_ok h;cases h;have h1:=zcx zlO _ _ _ c;have h2:=Zp b;grind
theorem zdQ:Sz xG:=λts n f h=>by
 obtain⟨a,t,e,h⟩:=bd_ok h;have h0:=ZO e;split at h
 ·rename_i hp;have:=zO hp;obtain⟨k,t2,c,h⟩:=bd_ok h;obtain⟨u,t3,b,h⟩:=bd_ok h;cases h;have h1:=ZO c;have h2:=Zp b;simp only[zk,zd] at h1 |-;omega
 ·cases h;simp only[zk,zd];omega
theorem zt7{ts a:List Tk}{s:U0}(h:zct ts = .ok (s,a)):a.length+1=ts.length:=by
 unfold zct at h;split at h
 ·rename_i hp;cases h;exact zO hp
 ·split at h
  ·rename_i hp;cases h;exact zO hp
  ·split at h
   ·rename_i hp;cases h;exact zO hp
   ·cases h
theorem zlP:Sz YI:=λts n g h=>by
 obtain⟨a,t,e,h⟩:=bd_ok h;obtain⟨op,t2,c,h⟩:=bd_ok h;obtain⟨b,t3,f,h⟩:=bd_ok h;cases h;have h0:=wM e;have h1:=zt7 c;have h2:=wM f;simp only[zk,zd] at h0 h2 |-;omega
theorem zt8:Sz vo:=λts n f h=>by
 have go:∀{w:List UInt8} {a b:U0} {c d:Int},isP w ts=j->((Zb ts.tail).bd λk f=>(.ok (⟨2,a,c,d,⟨[k],j⟩⟩,f):PR Nd)) = .ok (n,f)->zl n+3 * f.length<=3 * ts.length/\f.length+1<=ts.length:=by
  intro w a b c d hp h;obtain⟨k,t,e,h⟩:=bd_ok h;cases h;have h0:=ZO e;have:=zO hp;simp only[zk,zd] at h0 |-;omega
 unfold vo at h;split at h
 ·rename_i hp;have:=zO hp;cases h;simp only[zk,zd];omega
 ·split at h
  ·rename_i hp;have:=zO hp;cases h;simp only[zk,zd];omega
  ·split at h
   ·rename_i hp;exact go (b:=lit []) hp h
   ·split at h
    ·rename_i hp;exact go (b:=lit []) hp h
    ·split at h
     ·rename_i hp;exact go (b:=lit []) hp h
     ·cases h
theorem zw8(a:Int):Sz (zdN a):=λts n G h=>by
 obtain⟨m,t,e,h⟩:=bd_ok h;obtain⟨s,t2,x,h⟩:=bd_ok h;obtain⟨ks,t3,f,h⟩:=bd_ok h;obtain⟨c,t4,i,h⟩:=bd_ok h;obtain⟨u,t5,r,h⟩:=bd_ok h;cases h;have h0:=ZO e;have h1:=zt8 _ _ _ x;have z:=Zp r;have w:zd ks+3 * t3.length<=zl s+3 * t2.length:=by
  split at f
  ·rename_i hp;obtain⟨l,q,g,b⟩:=bd_ok f;obtain⟨u,y,b,v⟩:=bd_ok b;cases v;have:=zO hp;have p:=zcx zdQ _ _ _ g;have:=Zp b;simp only[List.cons_append,Dp,zd];omega
  ·cases f;simp only[zd];omega
 have F:zd c+3 * t4.length<=zd ks+3 * t3.length:=by
  split at i
  ·rename_i hp;obtain⟨l,q,g,b⟩:=bd_ok i;cases b;have:=zO hp;have p:=zcx zlP _ _ _ g;rw[zN];omega
  grind
 simp only[zk] at h1 w |-;omega
theorem zlQ:Sz Wx:=λts n b h=>by
 have go:∀{t0:List Tk} {a:U0} {c d:Int},t0.length+1<=ts.length->((Zb t0).bd λk b=>(.ok (⟨8,a,c,d,⟨[k],j⟩⟩,b):PR Nd)) = .ok (n,b)->zl n+3 * b.length<=3 * ts.length/\b.length+1<=ts.length:=by
  intro t0 a c d hp h;obtain⟨k,t,e,h⟩:=bd_ok h;cases h;have h0:=ZO e;simp only[zk,zd] at h0 |-;omega
 unfold Wx at h;split at h
 ·rename_i hp;have:=zO hp;cases h;simp only[zk,zd];omega
 ·split at h
  ·rename_i hp;exact go (by have:=zO hp;omega) h
  ·obtain⟨u,t,e,h⟩:=bd_ok h;have:=Zp e;split at h
   ·rename_i hp;exact go jE h
   ·exact go Zc h
theorem zrO:Sz xH:=λts n c h=>by
 obtain⟨m,t,e,h⟩:=bd_ok h;obtain⟨s,t2,a,h⟩:=bd_ok h;obtain⟨k,t3,b,h⟩:=bd_ok h;cases h;have h0:=ZO e;have h1:=Zp a;have h2:=zlQ _ _ _ b;simp only[zk,zd] at h2 |-;omega
theorem zrP{ts a:List Tk}{n:Nd}(h:atP k ts = .ok (n,a)):zl n=1/\a.length+1<=ts.length:=by
 obtain⟨m,t,e,h⟩:=bd_ok h;obtain⟨s,t2,f,h⟩:=bd_ok h;obtain⟨v,t3,b,h⟩:=bd_ok h;obtain⟨u,t4,c,h⟩:=bd_ok h;cases h;have h0:=ZO e;have h1:=Zp f;have h2:=Xk b;have g:=Zp c;exact⟨by simp[zk,zd],Zc⟩
theorem zt9:Sz Va:=λts n g h=>by
 unfold Va at h;split at h
 ·rename_i hp;obtain⟨a,t,e,h⟩:=bd_ok h;cases h;have:=zO hp;have:=Xk e;simp only[zk,zd];omega
 split at h
 ·rename_i hp;obtain⟨a,t,e,h⟩:=bd_ok h;cases h;have:=zO hp;have:=ZO e;simp only[zk,zd];omega
 split at h
 ·rename_i hp;have:=zO hp;split at h
  ·rename_i c;obtain⟨a,t,e,h⟩:=bd_ok h;cases h;have:=zO c;have:=ZO e;simp only[zk,zd];omega
  ·obtain⟨a,t,e,h⟩:=bd_ok h;cases h;have:=ZO e;simp only[zk,zd];omega
 split at h
 ·exact zlO _ _ _ h
 obtain⟨m,t,e,h⟩:=bd_ok h;have h0:=ZO e;split at h
 ·obtain⟨ks,t2,b,h⟩:=bd_ok h;cases h;have:=zfJ b;simp only[zk];omega
 split at h
 ·rename_i hp;obtain⟨a,t2,b,h⟩:=bd_ok h;obtain⟨u,t3,f,h⟩:=bd_ok h;cases h;have:=zO hp;have h1:=wM b;have:=Zp f;simp only[zk,zd] at h1 |-;omega
 split at h
 ·rename_i hp;obtain⟨a,t2,b,h⟩:=bd_ok h;cases h;have:=zO hp.1;have h1:=ZO b;simp only[zk,zd] at h0 h1 |-;omega
 split at h
 ·rename_i hp;obtain⟨a,t2,b,h⟩:=bd_ok h;cases h;have:=zO hp.1;have h1:=ZO b;simp only[zk,zd] at h0 h1 |-;omega
 ·have:=zlN h;omega
theorem zrQ{m n:Nd}{ts c:List Tk}(h:vJ m ts = .ok (n,c)):zl n+3 * c.length<=3 * ts.length+2/\c.length+1<=ts.length:=by
 unfold vJ at h;split at h
 ·obtain⟨ks,t2,g,h⟩:=bd_ok h;cases h;have:=zfJ g;simp only[zk,zd];omega
 split at h
 ·rename_i hp;obtain⟨a,t2,g,h⟩:=bd_ok h;obtain⟨u,t3,i,h⟩:=bd_ok h;obtain⟨u,t4,e,h⟩:=bd_ok h;obtain⟨b,t5,f,h⟩:=bd_ok h;cases h;have:=zO hp;have h1:=wM g;have:=Zp i;have:=Zp e;have h2:=wM f;simp only[zk,zd] at h1 h2 |-;omega
 ·obtain⟨u,t4,e,h⟩:=bd_ok h;obtain⟨b,t5,f,h⟩:=bd_ok h;cases h;have:=Zp e;have h2:=zt9 _ _ _ f;simp only[zk,zd] at h2 |-;omega
theorem wU{m n:Nd}{ts a:List Tk}(h:va m ts = .ok (n,a)):n=m/\a.length+1=ts.length:=by
 obtain⟨u,t,e,h⟩:=bd_ok h;cases h;exact⟨rfl,Zp e⟩
theorem zgQ{blk:List Tk->PR Nd}(hb:Sz blk)(k a:Int):Sz (wT blk k a):=λts n f h=>by
 obtain⟨m,t,e,h⟩:=bd_ok h;obtain⟨b,t2,c,h⟩:=bd_ok h;cases h;have h0:=zlP _ _ _ e;have h1:=hb _ _ _ c;simp only[zk] at h0 h1 |-
 simp only[zN,zd,zk];omega
theorem zua{blk:List Tk->PR Nd}(hb:Sz blk):Sz (Y1 blk):=λts n g h=>by
 unfold Y1 at h;split at h
 ·rename_i hp;obtain⟨a,t,e,h⟩:=bd_ok h;have:=zO hp;have:=ZO e;obtain⟨rfl,h2⟩:=wU h;simp only[zk,zd];omega
 split at h
 ·rename_i hp;obtain⟨a,t,e,h⟩:=bd_ok h;have:=zO hp;have:=zrP e;obtain⟨rfl,h2⟩:=wU h;simp only[zk,zd];omega
 split at h
 ·rename_i hp;obtain⟨a,t,e,h⟩:=bd_ok h;have:=zO hp;have:=zrP e;obtain⟨rfl,h2⟩:=wU h;simp only[zk,zd];omega
 split at h
 ·rename_i hp;obtain⟨a,t,e,h⟩:=bd_ok h;have:=zO hp;have h1:=zgQ hb _ _ _ _ _ e;split at h
  ·rename_i f;obtain⟨b,t2,c,h⟩:=bd_ok h;cases h;have:=zO f;have h2:=hb _ _ _ c;simp only[zk] at h1 h2 |-
   simp only[zN,zd,zk];omega
  ·cases h;simp only[zk] at h1 |-
   simp only[zN,zd,zk];omega
 split at h
 ·rename_i hp;have:=zO hp;have h1:=zgQ hb _ _ _ _ _ h;omega
 split at h
 ·rename_i hp;have:=zO hp;split at h
  ·obtain⟨rfl,h2⟩:=wU h;simp only[zk,zd];omega
  ·obtain⟨a,t,e,h⟩:=bd_ok h;have h1:=wM e;obtain⟨rfl,h2⟩:=wU h;simp only[zk,zd] at h1 |-;omega
 split at h
 ·rename_i hp;have:=zO hp;obtain⟨rfl,h2⟩:=wU h;simp only[zk,zd];omega
 split at h
 ·rename_i hp;obtain⟨a,t,e,h⟩:=bd_ok h;obtain⟨ks,t2,c,h⟩:=bd_ok h;have:=zO hp;have:=ZO e;have:=zfJ c;obtain⟨rfl,h2⟩:=wU h;simp only[zk];omega
 ·obtain⟨a,t,e,h⟩:=bd_ok h;obtain⟨m,t2,c,h⟩:=bd_ok h;have:=ZO e;have:=zrQ c;obtain⟨rfl,h2⟩:=wU h;omega
theorem ziW{one:List Tk->PR Nd}(c:Sz one):∀(k:Nat) (acc:List Nd) (ts:List Tk) (l:List Nd) (b:List Tk),xI one k acc ts = .ok (l,b)->zd l+3 * b.length+3<=zd acc+3 * ts.length/\b.length+1<=ts.length
 |0,acc,ts,l,b,h=>by cases h
 |k+1,acc,ts,l,b,h=>by
  unfold xI at h;split at h
  ·rename_i hp;have:=zO hp;cases h;omega
  ·obtain⟨a,t,e,h⟩:=bd_ok h;have h1:=c _ _ _ e;have h2:=ziW c k _ _ _ _ h;rw[zN] at h2;simp only[zd] at h2;omega
theorem ziX:∀r,Sz (yj r)
 |0=>λts n b h=>by unfold yj at h;split at h<;>cases h
 |r+1=>λts n b h=>by
  obtain⟨u,t,e,h⟩:=bd_ok (show((zX [123] ts).bd _)=_ from h);obtain⟨l,t2,a,h⟩:=bd_ok h;cases h;have:=Zp e;have:=ziW (zua (ziX r)) _ _ _ _ _ a;simp only[zk,mkS,zd] at this |-;omega
theorem zyP(a:Int):Sz (fnP a):=λts n v h=>by
 obtain⟨m,t,e,h⟩:=bd_ok h;obtain⟨u,t2,q,h⟩:=bd_ok h;obtain⟨ps,t3,f,h⟩:=bd_ok h;obtain⟨u,t4,p,h⟩:=bd_ok h;obtain⟨ret,t5,c,h⟩:=bd_ok h;obtain⟨b,r,i,h⟩:=bd_ok h;cases h;have:=ZO e;have:=Zp q;have:=Zp p;have g:=ziX _ _ _ _ i;have w:zd ps+3 * t3.length<=3 * t2.length:=by
  split at f
  ·cases f;simp only[zd];omega
  ·have:=zcx zrO _ _ _ f;omega
 have l:zl ret+3 * t5.length<=3 * t4.length+1:=by
  split at c
  ·rename_i hp;have:=zO hp;split at c
   ·cases c
   ·have:=zlQ _ _ _ c;omega
  ·cases c;simp only[zk,zd];omega
 simp only[zk] at l g |-
 simp only[zN,zd,zk];omega
theorem zat:∀(k:Nat) (acc:List Nd) (ts:List Tk) (l:List Nd) (b:List Tk),YE k acc ts = .ok (l,b)->zd l+3 * b.length<=zd acc+3 * ts.length
 |0,acc,ts,l,b,h=>by cases h
 |k+1,acc,ts,l,b,h=>by
  unfold YE at h;split at h
  ·cases h;omega
  split at h
  ·rename_i hp;obtain⟨a,t,e,h⟩:=bd_ok h;have:=zO hp;have h1:=zyP _ _ _ _ e;have h2:=zat k _ _ _ _ h;rw[zN] at h2;simp only[zd] at h2;omega
  ·obtain⟨u,t,e,h⟩:=bd_ok h;obtain⟨a,t2,c,h⟩:=bd_ok h;have:=Zp e;have h1:=zw8 _ _ _ _ c;have h2:=zat k _ _ _ _ h;rw[zN] at h2;simp only[zd] at h2;omega
theorem z6(n:Nd):1<=zl n:=by rw[zk];omega
theorem zff{xs:List Nd}{i:Nat}(h:i < xs.length):zd (xs.take (i+1))=zd (xs.take i)+zl xs[i]:=by
 rw[List.take_succ_eq_append_getElem h,zN];simp[zd]
theorem zbp(xs:List Nd)(i:Nat):zd (xs.take i)<=zd xs:=by
 have:=zN (xs.take i) (xs.drop i);rw[List.take_append_drop] at this;omega
theorem znC:∀(k:Nat) (n:Nd),zl n<=k->zl n<=1000000000->q6c k n=o (zl n:Int)
 |0,n,h,_=>by have:=z6 n;omega
 |k+1,n,h,hb=>by
  obtain⟨a,b,c,d,⟨xs,nn⟩⟩:=n;show((lpO (qd6 (q6c k)) (1,(⟨xs,nn⟩:Sl Nd),Sl.len (⟨xs,nn⟩:Sl Nd),0)).bind λt=>o t)=_;have hs:zl ⟨a,b,c,d,⟨xs,nn⟩⟩=zd xs+1:=by rw[zk]
  have loop:∀(m i:Nat),i+m=xs.length->lpO (qd6 (q6c k)) (((1+zd (xs.take i):Nat):Int),(⟨xs,nn⟩:Sl Nd),Sl.len (⟨xs,nn⟩:Sl Nd),(i:Int))=o ((1+zd xs:Nat):Int):=by
   intro m
   induction m with
   |zero=>
    intro i hi;rw[Zv];have q:qd6 (q6c k) (((1+zd (xs.take i):Nat):Int),(⟨xs,nn⟩:Sl Nd),Sl.len (⟨xs,nn⟩:Sl Nd),(i:Int))=o (.done ((1+zd (xs.take i):Nat):Int)):=by
     show(if decide ((i:Int) < (xs.length:Int))=j then _ else _)=_;grind
    grind
   |succ m f=>
    intro i hi;have e:i < xs.length:=Zc
    rw[Zv];have g:za (⟨xs,nn⟩:Sl Nd) (i:Int)=o xs[i]:=by
     unfold za;rw[jv Zc];simp[e]
    have h1:=zff e;have h2:=zbp xs (i+1);have l:q6c k xs[i]=o (zl xs[i]:Int):=znC k xs[i] Zc Zc;have p:xs.length<=zd xs:=by
     clear l h1 h2 g f hs hb h e hi
     induction xs with
     |nil=>simp
     |cons x r f=>have:=z6 x;simp only[zd,jz];omega
    have q:qd6 (q6c k) (((1+zd (xs.take i):Nat):Int),(⟨xs,nn⟩:Sl Nd),Sl.len (⟨xs,nn⟩:Sl Nd),(i:Int))=o (.next (((1+zd (xs.take (i+1)):Nat):Int),(⟨xs,nn⟩:Sl Nd),Sl.len (⟨xs,nn⟩:Sl Nd),((i+1:Nat):Int))):=by
     show(if decide ((i:Int) < (xs.length:Int))=j then(za (⟨xs,nn⟩:Sl Nd) (i:Int)).bind _ else _)=_;rw[jv ji,g];simp only[jj,zm,l];rw[zE Zc Zc,zE Zc Zc,h1];have u:((1+zd (xs.take i):Nat):Int)+(zl xs[i]:Int)=((1+(zd (xs.take i)+zl xs[i]):Nat):Int):=Zc
     grind
    grind
  have:=loop xs.length 0 Zc;simp only[List.take_zero,zd,Df] at this;grind
theorem zw9{l:List UInt8}{n:Nat}{v:Int}(h:nxt l = .tok k n v):(0<=v/\v<=1099511627776)/\k≠0:=by
 cases l with
 |nil=>cases h
 |cons c r=>
  unfold nxt at h;simp only at h;split at h
  ·cases h
  split at h
  ·cases h
  split at h
  ·unfold XZ at h;split at h
   ·cases h
   ·rename_i hb;cases h;unfold vI at hb;grind
  split at h
  ·unfold xE at h;grind
  ·unfold xF at h;grind
theorem zxa{l:List UInt8}{e:Int}(h:nxt l = .err e):e≠0:=by
 cases l with
 |nil=>cases h;omega
 |cons c r=>
  unfold nxt at h;simp only at h;split at h
  ·cases h
  split at h
  ·cases h
  split at h
  ·unfold XZ at h;grind
  split at h
  ·unfold xE at h;grind
  ·unfold xF at h;grind
theorem zfK:∀(f a:Nat) (l:List UInt8) (ts:List Tk),Wv f a l = .inr ts->∀t∈ts,(0<=t.n_/\t.n_<=1099511627776)/\t.k_≠0
 |0,a,l,ts,h=>by cases h;simp
 |f+1,a,l,ts,h=>by
  unfold Wv at h;split at h
  ·cases h;simp
  split at h
  ·exact zfK f _ _ ts h
  ·cases h
  ·rename_i k n v g;split at h
   ·cases h
   ·rename_i e b;cases h;intro t c;rcases Db.1 c with rfl | c
    ·exact zw9 g
    ·exact zfK f _ _ e b t c
theorem zdR{s:U0}(h:(Z1 s).2.1=0):TGood (Z1 s).2.2.xs/\(Z1 s).2.2.nn=true:=by
 unfold Z1 at h |-
 by_cases hs:16384 < s.size
 ·grind
 ·rw[jx hs] at h |-
  cases e:W7 0 (bs s) with
  |inl x=>
   rw[e] at h;exfalso;have:∀(f a:Nat) (l:List UInt8) (x:Nat×Int),Wv f a l = .inl x->x.2≠0:=by
    intro f
    induction f with
    |zero=>intro a l x h;cases h
    |succ f i=>
     intro a l x h;unfold Wv at h;split at h
     ·cases h
     split at h
     ·grind
     ·rename_i e g;cases h;exact zxa g
     grind
   exact this _ _ _ _ e h
  |inr ts=>
   have c:=V1 (bs s).length (bs s) 0 ts (UK _) e;rw[yi] at c;refine⟨⟨je,λ_=>je,ji,λt b=>?_⟩,rfl⟩;simp only[U5,Dz] at b;rcases b with b | rfl
   ·exact(zfK _ _ _ _ e t b).1
   ·simp
def vp:Nd:=⟨0,lit [],0,0,nilS⟩
def Xd(s:U0):Nd×Int×Int:=if(Z1 s).2.1≠0 then(vp,(Z1 s).1,(Z1 s).2.1) else
 match YE (Z1 s).2.2.xs.length [] (Z1 s).2.2.xs with
 | .error e=>(vp,e.1,e.2)
 | .ok (ks,_)=>if 4096 < zd ks+1 then(vp,0,22) else(⟨0,lit [],0,0,mkS ks⟩,0,0)
noncomputable abbrev Zw:=q6p qd3 q14 q11 qc0 q17 qbj qdk qfq qck
theorem zlR{acc:List Nd}{z a:Nd}(h:acc.length<=30000):∃b:Sl Nd,zo 64 (mkS acc) [z]=o b/\za b (Sl.len (mkS acc))=o z/\b.set (Sl.len (mkS acc)) a=mkS (acc++[a]):=by
 refine⟨_,zvp h,?_,?_⟩
 ·unfold za mkS Sl.len;grind
 ·unfold mkS Sl.len Sl.set;cases acc<;>simp
theorem zcy {a0 e0:Int}:∀(k:Nat) (ts:List Tk) (acc:List Nd),TGood ts->ts.length<=k->acc.length+ts.length<=30000->
    match YE k acc ts with
    | .error e=>∃st u v w,lpO Zw ((0,lit [],0,0),a0,e0,⟨⟨ts,j⟩,0⟩,mkS acc)=o (.inl (e,u,v,w,st))
    | .ok (l,_)=>lpO Zw ((0,lit [],0,0),a0,e0,⟨⟨ts,j⟩,0⟩,mkS acc)=o (.inr ((0,lit [],0,0),a0,e0,mkS l))
 |0,ts,acc,g,hk,ha=>absurd (UQ Zc) g.ne
 |k+1,ts,acc,g,hk,ha=>by
  have M:=g.tail_len;have key:∀z,Zw ((0,lit [],0,0),a0,e0,⟨⟨ts,j⟩,0⟩,mkS acc)=o z->lpO Zw ((0,lit [],0,0),a0,e0,⟨⟨ts,j⟩,0⟩,mkS acc)=(match z with | .next I=>lpO Zw I | .done y=>o y):=λz b=>by rw[Zv,b];grind
  unfold YE;by_cases h0:(hd ts).k_=0
  · rw [jv h0];have b:Zw ((0,lit [],0,0),a0,e0,⟨⟨ts,j⟩,0⟩,mkS acc)=o (.done (.inr ((0,lit [],0,0),a0,e0,mkS acc))):=by
      unfold Zw q6p;simp only[ZK g,jj,jl];grind
    exact key _ b
  · rw[jx h0];cases e:isP [102,110] ts with
    |true=>
     simp only[jq];have s:=zAu (g.is e) (hd ts).a_;cases es:fnP (hd ts).a_ ts.tail with
     |error er=>
      obtain⟨st,s⟩:=s.err es;have b:Zw ((0,lit [],0,0),a0,e0,⟨⟨ts,j⟩,0⟩,mkS acc)=o (.done (.inl (er,(0,lit [],0,0),a0,e0,mkS acc))):=by
       unfold Zw q6p;simp only[ZK g,jj,jl];rw[jv h0];simp only[zY g,jj,e,jq,s,jo]
      exact⟨_,_,_,_,key _ b⟩
     |ok p=>
      obtain⟨a,c⟩:=p;obtain⟨s,q,K⟩:=s.out es;obtain⟨H,i,f,r⟩:=zlR (acc:=acc) (z:=⟨0,lit [],0,0,D [] C⟩) (a:=a) Zc;have b:Zw ((0,lit [],0,0),a0,e0,⟨⟨ts,j⟩,0⟩,mkS acc)=o (.next ((0,lit [],0,0),a0,e0,⟨⟨c,j⟩,0⟩,mkS (acc++[a]))):=by
       unfold Zw q6p;simp only[ZK g,jj,jl];rw[jv h0];simp only[zY g,jj,e,jq,s,jm,i,f,Zs,ndK,ndT,zm,r]
      have x:=zcy (a0:=a0) (e0:=e0) k c (acc++[a]) q Zc ji;rw[key _ b];exact x
    |false=>
     simp only[jk,jp];have G:=ZL (d:=0) g [116,121,112,101];cases F:zX [116,121,112,101] ts with
     |error er=>
      obtain⟨st,s⟩:=G.err F;have b:Zw ((0,lit [],0,0),a0,e0,⟨⟨ts,j⟩,0⟩,mkS acc)=o (.done (.inl (er,(0,lit [],0,0),a0,e0,mkS acc))):=by
       unfold Zw q6p;simp only[ZK g,jj,jl];rw[jv h0];simp only[zY g,jj,e,jk,jp,s,jo]
      exact⟨_,_,_,_,key _ b⟩
     |ok p=>
      obtain⟨u,t0⟩:=p;obtain⟨s,g0,L⟩:=G.out F;have s1:=zyO (d:=0) g0 (hd ts).a_;simp only[PR.bd];cases es:zdN (hd ts).a_ t0 with
      |error er=>
       obtain⟨st,t⟩:=s1.err es;have b:Zw ((0,lit [],0,0),a0,e0,⟨⟨ts,j⟩,0⟩,mkS acc)=o (.done (.inl (er,(0,lit [],0,0),a0,e0,mkS acc))):=by
        unfold Zw q6p;simp only[ZK g,jj,jl];rw[jv h0];simp only[zY g,jj,e,jk,jp,s,t,jm,jo]
       grind
      |ok p=>
       obtain⟨a,c⟩:=p;obtain⟨t,q,K⟩:=s1.out es;obtain⟨H,i,f,r⟩:=zlR (acc:=acc) (z:=⟨0,lit [],0,0,D [] C⟩) (a:=a) Zc;have b:Zw ((0,lit [],0,0),a0,e0,⟨⟨ts,j⟩,0⟩,mkS acc)=o (.next ((0,lit [],0,0),a0,e0,⟨⟨c,j⟩,0⟩,mkS (acc++[a]))):=by
        unfold Zw q6p;simp only[ZK g,jj,jl];rw[jv h0];simp only[zY g,jj,e,jk,jp,s,t,jm,i,f,Zs,ndK,ndT,zm,r]
       have x:=zcy (a0:=a0) (e0:=e0) k c (acc++[a]) q Zc ji;grind
theorem zfL(s:U0):q6d s=o (Xd s):=by
 show((qd3 s).bind _)=_;rw[zrL,jj];unfold Xd;simp only[jl];by_cases h:(Z1 s).2.1=0
 case neg=>rw[jv h,jv h];rfl
 case pos=>
 rw[jx (by simpa using h),jx (by simpa using h)];obtain⟨g,f⟩:=zdR h;generalize q:(Z1 s).2.2=X at g f;obtain⟨ts,nn⟩:=X;simp only at g f;subst f;have b:=zcy (a0:=(Z1 s).1) (e0:=(Z1 s).2.1) ts.length ts [] g (UK _) (by have:=g.len;simp;omega);have i:=g.len;show((lpO Zw ((0,lit [],0,0),(Z1 s).1,(Z1 s).2.1,(⟨⟨ts,j⟩,0⟩:PSt),mkS [])).bind _)=_;cases e:YE ts.length [] ts with
 |error er=>
  rw[e] at b;obtain⟨st,u,v,w,b⟩:=b;rw[b];rfl
 |ok p=>
  obtain⟨l,r⟩:=p;rw[e] at b;simp only at b;rw[b];have c:=zat _ _ _ _ _ e;simp only[zd] at c;have a:qfq ⟨0,lit [],0,0,mkS l⟩=o ((zd l+1:Nat):Int):=by
   have:=znC 100000 ⟨0,lit [],0,0,mkS l⟩ (by rw[zk];simp only[mkS];omega) (by rw[zk];simp only[mkS];omega);rw[zk] at this;exact this
  simp only[jj,jm,a,jl];by_cases hb:4096 < zd l+1
  ·rw[jv Zc,jv hb];rfl
  ·rw[jx Zc,jx hb];rfl
end
end Go.Px
