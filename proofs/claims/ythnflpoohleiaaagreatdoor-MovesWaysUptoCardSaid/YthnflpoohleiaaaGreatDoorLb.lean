/- Part Lb. -/
import Derived.Test.YthnflpoohleiaaaGreatDoorLa
set_option linter.unusedVariables false
set_option linter.unusedSimpArgs false
namespace Go.Px
open Bool renaming true->j,false->C
open _root_.Option renaming some->o
open Sl renaming mk->D
open Sum renaming inl->A,inr->B,elim->E
variable{k:Int}{s:List UInt8}{α β:Type}{m:Uv β}
section
abbrev Tk:=qr
abbrev Nd:=q8
abbrev nilS:Sl α:=⟨[],C⟩
def hd:List Tk->Tk
 |[]=>⟨0,lit [],0,0⟩
 |t::_=>t
abbrev PR(α:Type):=Except (Int×Int) (α×List Tk)
def PR.bd(r:PR α)(f:α->List Tk->PR β):PR β:=match r with
 | .error e =>.error e
 | .ok (a,ts)=>f a ts
def isP(s:List UInt8)(ts:List Tk):Bool:=(decide ((hd ts).k_=2) || decide ((hd ts).k_=4)) && decide ((hd ts).T_=lit s)
def xV(e:Int)(ts:List Tk):PR α :=.error ((hd ts).a_,e)
def zY(s:List UInt8)(ts:List Tk):PR Unit:=if isP s ts=j then .ok ((),ts.tail) else xV 20 ts
def wD(k:Int)(ts:List Tk):PR Tk:=if(hd ts).k_=k then .ok (hd ts,ts.tail) else xV 20 ts
def Zc(ts:List Tk):PR Nd:=(wD 1 ts).bd λt ts =>.ok (⟨5,t.T_,0,t.a_,nilS⟩,ts)
def Yt(a:Int)(ts:List Tk):PR Int:=(wD 3 ts).bd λt ts =>.ok (a * t.n_,ts)
def Nd.num(n:Nd)(v:Int):Nd:=⟨n.k_,n.T_,v,n.a_,n.K_⟩
def xW(n:Nd)(ts:List Tk):PR Nd:=
 if isP [43] ts=j then(Yt 1 ts.tail).bd λv ts =>.ok (Nd.num n v,ts)
 else if isP [45] ts=j then(Yt (-1) ts.tail).bd λv ts =>.ok (Nd.num n v,ts)
 else .ok (n,ts)
def Z4(ts:List Tk):PR Nd:=
 if(hd ts).k_=3 then(Yt 1 ts).bd λv a =>.ok (⟨5,lit [],v,(hd ts).a_,nilS⟩,a)
 else if isP [45] ts=j then(Yt (-1) ts.tail).bd λv a =>.ok (⟨5,lit [],v,(hd ts).a_,nilS⟩,a)
 else(Zc ts).bd xW
def zcv(ts:List Tk):PR Ut:=
 if isP [60] ts=j then .ok (lit [60],ts.tail) else if isP [60,61] ts=j then .ok (lit [60,61],ts.tail) else if isP [61,61] ts=j then .ok (lit [61,61],ts.tail) else xV 20 ts
def Zt(one:List Tk->PR Nd):Nat->List Nd->List Tk->PR (List Nd)
 |0,acc,ts =>.ok (acc,ts)
 |k+1,acc,ts=>if isP [44] ts=j then(one ts.tail).bd λa ts=>Zt one k (acc++[a]) ts else .ok (acc,ts)
def yc(one:List Tk->PR Nd)(ts:List Tk):PR (List Nd):=(one ts).bd λa b=>Zt one ts.length [a] b
def zav(ts:List Tk):PR (Sl Nd):=(zY [40] ts).bd λ_ a=>
 if isP [41] a=j then .ok (nilS,a.tail) else(yc Z4 a).bd λl t2=>(zY [41] t2).bd λ_ t3 =>.ok (⟨l,j⟩,t3)
def vm(ts:List Tk):PR Nd:=
 if isP [111,119,110] ts=j then .ok (⟨2,(hd ts).T_,0,(hd ts).a_,nilS⟩,ts.tail)
 else if isP [99,101,108,108] ts=j then .ok (⟨2,(hd ts).T_,0,(hd ts).a_,nilS⟩,ts.tail)
 else if isP [99,111,117,110,116,101,100] ts=j then(Zc ts.tail).bd λk a =>.ok (⟨2,(hd ts).T_,0,(hd ts).a_,⟨[k],j⟩⟩,a)
 else if isP [108,111,99,107] ts=j then(Zc ts.tail).bd λk a =>.ok (⟨2,(hd ts).T_,0,(hd ts).a_,⟨[k],j⟩⟩,a)
 else if isP [103,117,97,114,100] ts=j then(Zc ts.tail).bd λk a =>.ok (⟨2,(hd ts).T_,0,(hd ts).a_,⟨[k],j⟩⟩,a)
 else xV 20 ts
def xE(ts:List Tk):PR Nd:=(Zc ts).bd λn a=>
 if isP [91] a=j then(Zc a.tail).bd λk t2=>(zY [93] t2).bd λ_ t3 =>.ok (⟨3,n.T_,n.n_,n.a_,⟨[k],j⟩⟩,t3)
 else .ok (⟨3,n.T_,n.n_,n.a_,nilS⟩,a)
def YI(ts:List Tk):PR Nd:=(Z4 ts).bd λa c=>(zcv c).bd λop t2=>(Z4 t2).bd λb t3 =>.ok (⟨4,op,0,a.a_,⟨[a,b],j⟩⟩,t3)
def zdQ(a:Int)(ts:List Tk):PR Nd:=(Zc ts).bd λn c=>(vm c).bd λs t2=>
 (if isP [123] t2=j then(yc xE t2.tail).bd λl t3=>(zY [125] t3).bd λ_ t4 =>.ok ([s]++l,t4) else .ok ([s],t2):PR (List Nd)).bd λks t5=>
 (if isP [119,104,101,114,101] t5=j then(yc YI t5.tail).bd λl d =>.ok (ks++l,d) else .ok (ks,t5):PR (List Nd)).bd λks b=>
 (zY [59] b).bd λ_ e =>.ok (⟨1,n.T_,n.n_,a,⟨ks,j⟩⟩,e)
def Wu(ts:List Tk):PR Nd:=
 if isP [105,110,116] ts=j then .ok (⟨8,(hd ts).T_,0,(hd ts).a_,nilS⟩,ts.tail)
 else if isP [111,119,110] ts=j then(Zc ts.tail).bd λk a =>.ok (⟨8,(hd ts).T_,0,(hd ts).a_,⟨[k],j⟩⟩,a)
 else(zY [38] ts).bd λ_ a=>
  if isP [109,117,116] a=j then(Zc a.tail).bd λk t2 =>.ok (⟨8,lit [38,109,117,116],0,(hd ts).a_,⟨[k],j⟩⟩,t2)
  else(Zc a).bd λk t2 =>.ok (⟨8,(hd ts).T_,0,(hd ts).a_,⟨[k],j⟩⟩,t2)
def xF(ts:List Tk):PR Nd:=(Zc ts).bd λn a=>(zY [58] a).bd λ_ t2=>(Wu t2).bd λm t3 =>.ok (⟨7,n.T_,n.n_,n.a_,⟨[m],j⟩⟩,t3)
def atP(k:Int)(ts:List Tk):PR Nd:=(Zc ts).bd λn a=>(zY [91] a).bd λ_ t2=>(Yt 1 t2).bd λv t3=>(zY [93] t3).bd λ_ t4 =>.ok (⟨k,n.T_,v,n.a_,nilS⟩,t4)
def v8(ts:List Tk):PR Nd:=
 if isP [110,101,119] ts=j then(Yt 1 ts.tail).bd λv c =>.ok (⟨23,lit [],v,(hd ts).a_,nilS⟩,c)
 else if isP [97,114,114,97,121] ts=j then(Zc ts.tail).bd λk c =>.ok (⟨24,k.T_,0,(hd ts).a_,nilS⟩,c)
 else if isP [38] ts=j then
  (if isP [109,117,116] ts.tail=j then(Zc ts.tail.tail).bd λk c =>.ok (⟨27,k.T_,0,(hd ts).a_,nilS⟩,c) else(Zc ts.tail).bd λk c =>.ok (⟨26,k.T_,0,(hd ts).a_,nilS⟩,c))
 else if(hd ts).k_≠1 then Z4 ts
 else(Zc ts).bd λn c=>
  if isP [40] c=j then(zav c).bd λks t2 =>.ok (⟨28,n.T_,n.n_,n.a_,ks⟩,t2)
  else if isP [91] c=j then(Z4 c.tail).bd λa t2=>(zY [93] t2).bd λ_ t3 =>.ok (⟨25,n.T_,n.n_,n.a_,⟨[a],j⟩⟩,t3)
  else if isP [43] c=j/\(hd c.tail).k_=1 then(Zc c.tail).bd λb t2 =>.ok (⟨21,lit [],0,n.a_,⟨[n,b],j⟩⟩,t2)
  else if isP [45] c=j/\(hd c.tail).k_=1 then(Zc c.tail).bd λb t2 =>.ok (⟨22,lit [],0,n.a_,⟨[n,b],j⟩⟩,t2)
  else xW n c
def vG(n:Nd)(ts:List Tk):PR Nd:=
 if isP [40] ts=j then(zav ts).bd λks c =>.ok (⟨20,lit [],0,n.a_,⟨[⟨28,n.T_,n.n_,n.a_,ks⟩],j⟩⟩,c)
 else if isP [91] ts=j then(Z4 ts.tail).bd λa c=>(zY [93] c).bd λ_ t2=>(zY [61] t2).bd λ_ t3=>(Z4 t3).bd λb t4 =>.ok (⟨11,n.T_,n.n_,n.a_,⟨[a,b],j⟩⟩,t4)
 else(zY [61] ts).bd λ_ c=>(v8 c).bd λe t2 =>.ok (⟨10,n.T_,n.n_,n.a_,⟨[e],j⟩⟩,t2)
def W8(n:Nd)(ts:List Tk):PR Nd:=(zY [59] ts).bd λ_ a =>.ok (n,a)
def wS(blk:List Tk->PR Nd)(k a:Int)(ts:List Tk):PR Nd:=(YI ts).bd λn c=>(blk c).bd λb t2 =>.ok (⟨k,n.T_,n.n_,a,⟨n.K_.xs++[b],j⟩⟩,t2)
def YZ(blk:List Tk->PR Nd)(ts:List Tk):PR Nd:=
 if isP [102,114,101,101] ts=j then(Zc ts.tail).bd λn c=>W8 ⟨12,n.T_,n.n_,(hd ts).a_,nilS⟩ c
 else if isP [108,111,99,107] ts=j then(atP 13 ts.tail).bd λn c=>W8 ⟨n.k_,n.T_,n.n_,(hd ts).a_,nilS⟩ c
 else if isP [117,110,108,111,99,107] ts=j then(atP 14 ts.tail).bd λn c=>W8 ⟨n.k_,n.T_,n.n_,(hd ts).a_,nilS⟩ c
 else if isP [105,102] ts=j then(wS blk 15 (hd ts).a_ ts.tail).bd λn c=>
  if isP [101,108,115,101] c=j then(blk c.tail).bd λb t2 =>.ok (⟨n.k_,n.T_,n.n_,n.a_,⟨n.K_.xs++[b],j⟩⟩,t2)
  else .ok (⟨n.k_,n.T_,n.n_,n.a_,⟨n.K_.xs++[⟨9,lit [],0,(hd ts).a_,nilS⟩],j⟩⟩,c)
 else if isP [119,104,105,108,101] ts=j then wS blk 16 (hd ts).a_ ts.tail
 else if isP [114,101,116,117,114,110] ts=j then
  (if isP [59] ts.tail=j then W8 ⟨17,lit [],0,(hd ts).a_,nilS⟩ ts.tail else(Z4 ts.tail).bd λa c=>W8 ⟨17,lit [],0,(hd ts).a_,⟨[a],j⟩⟩ c)
 else if isP [97,98,111,114,116] ts=j then W8 ⟨18,lit [],0,(hd ts).a_,nilS⟩ ts.tail
 else if isP [102,111,114,107] ts=j then(Zc ts.tail).bd λn c=>(zav c).bd λks t2=>W8 ⟨19,n.T_,n.n_,(hd ts).a_,ks⟩ t2
 else(Zc ts).bd λn c=>(vG n c).bd W8
def xG(one:List Tk->PR Nd):Nat->List Nd->List Tk->PR (List Nd)
 |0,acc,ts=>xV 20 ts
 |k+1,acc,ts=>if isP [125] ts=j then .ok (acc,ts.tail) else(one ts).bd λa b=>xG one k (acc++[a]) b
def mkS(l:List α):Sl α:=⟨l, !l.isEmpty⟩
def yi:Nat->List Tk->PR Nd
 |0,ts=>if isP [123] ts=j then xV 21 ts else xV 20 ts
 |r+1,ts=>(zY [123] ts).bd λ_ a=>(xG (YZ (yi r)) a.length [] a).bd λl t2 =>.ok (⟨9,lit [],0,(hd ts).a_,mkS l⟩,t2)
def fnP(a:Int)(ts:List Tk):PR Nd:=(Zc ts).bd λn d=>(zY [40] d).bd λ_ t2=>
 (if isP [41] t2=j then .ok ([],t2) else yc xF t2:PR (List Nd)).bd λps t3=>(zY [41] t3).bd λ_ t4=>
 (if isP [45,62] t4=j then(if isP [38] t4.tail=j then xV 20 t4.tail else Wu t4.tail) else .ok (⟨8,lit [],0,(hd t4).a_,nilS⟩,t4):PR Nd).bd λret t5=>
 (yi 8 t5).bd λb c =>.ok (⟨6,n.T_,n.n_,a,⟨ps++[ret,b],j⟩⟩,c)
def YD:Nat->List Nd->List Tk->PR (List Nd)
 |0,acc,ts=>xV 20 ts
 |k+1,acc,ts=>if(hd ts).k_=0 then .ok (acc,ts)
  else if isP [102,110] ts=j then(fnP (hd ts).a_ ts.tail).bd λa b=>YD k (acc++[a]) b
  else(zY [116,121,112,101] ts).bd λ_ b=>(zdQ (hd ts).a_ b).bd λa t2=>YD k (acc++[a]) t2
structure TGood(ts:List Tk):Prop where
 ne:ts≠[]
 last:∀h:ts≠[],(ts.getLast h).k_=0
 len:ts.length<=20000
 num:∀t∈ts,0<=t.n_/\t.n_<=1099511627776
theorem TGood.tail{ts:List Tk}(g:TGood ts)(h:(hd ts).k_≠0):TGood ts.tail:=by
 match ts,g,h with
 |[],g,_=>grind
 |[t],g,h=>exact absurd (g.last je) h
 |t::u::r,g,h=>
  refine⟨je,λ_=>?_,?_,λx a=>g.num x (Du _ a)⟩
  ·have:=g.last je;grind
  ·have:=g.len;grind
theorem TGood.hd_idx{ts:List Tk}(g:TGood ts)(b:Bool):za (⟨ts,b⟩:Sl Tk) 0=o (hd ts):=by
 match ts,g with
 |[],g=>exact absurd rfl g.ne
 |t::r,_=>rfl
theorem TGood.tl{ts:List Tk}(g:TGood ts)(b:Bool):z8 (⟨ts,b⟩:Sl Tk) 1 (Sl.len (⟨ts,b⟩:Sl Tk))=o ⟨ts.tail,b⟩:=by
 match ts,g with
 |[],g=>exact absurd rfl g.ne
 |t::r,_=>
  unfold z8;rw[jv ⟨Zd,by simp[Sl.len];omega,by simp[Sl.len]⟩];simp[Sl.len]
theorem zfH{ts:List Tk}(h:isP s ts=j):(hd ts).k_≠0:=by
 unfold isP at h;grind
theorem TGood.is{ts:List Tk}(g:TGood ts)(h:isP s ts=j):TGood ts.tail:=g.tail (zfH h)
theorem TGood.tail_len{ts:List Tk}(g:TGood ts):ts.tail.length+1=ts.length:=by
 match ts,g with
 |[],g=>exact absurd rfl g.ne
 |t::r,_=>simp
abbrev PSt:=q7
def Sm(d:Int)(n:Nat)(r:PR α)(m:Uv β)(er:(Int×Int)×PSt->β)(ok:α->PSt->β):Prop:=match r with
 | .error e=>∃st,m=o (er (e,st))
 | .ok (a,ts)=>m=o (ok a ⟨⟨ts,j⟩,d⟩)/\TGood ts/\ts.length<=n
theorem Sm.bd {γ δ:Type}{d:Int}{n i:Nat}{r:PR α}{f:α->List Tk->PR γ}{K:β->Uv δ}{er:(Int×Int)×PSt->β}{ok:α->PSt->β}{b:(Int×Int)×PSt->δ}{c:γ->PSt->δ}
    (h:Sm d n r m er ok) (q:∀e,K (er e)=o (b e)) (k:∀a ts,r = .ok (a,ts)->TGood ts->ts.length<=n->Sm d i (f a ts) (K (ok a ⟨⟨ts,j⟩,d⟩)) b c):Sm d i (r.bd f) (m.bind K) b c:=by
 cases r with
 |error e=>
  obtain⟨st,rfl⟩:=h;exact⟨st,q _⟩
 |ok p=>
  obtain⟨a,ts⟩:=p;obtain⟨rfl,g,l⟩:=h;exact k a ts rfl g l
theorem Sm.ok{d:Int}{n:Nat}{a:α}{ts:List Tk}{er:(Int×Int)×PSt->β}{ok:α->PSt->β}(g:TGood ts)(l:ts.length<=n)(h:m=o (ok a ⟨⟨ts,j⟩,d⟩)):Sm d n (.ok (a,ts)) m er ok:=⟨h,g,l⟩
theorem Sm.mono{d:Int}{n a:Nat}{r:PR α}{er:(Int×Int)×PSt->β}{ok:α->PSt->β}(h:Sm d n r m er ok)(l:n<=a):Sm d a r m er ok:=by
 cases r with
 |error e=>exact h
 |ok p=>exact⟨h.1,h.2.1,UF h.2.2 l⟩
variable {d:Int}{n:Nat}{ts:List Tk}
theorem ZL(g:TGood ts):q14 ⟨⟨ts,j⟩,d⟩=o (hd ts,⟨⟨ts,j⟩,d⟩):=by
 show((za (⟨ts,j⟩:Sl Tk) 0).bind λa=>o (a,(⟨⟨ts,j⟩,d⟩:PSt)))=_;rw[g.hd_idx];rfl
theorem xf(g:TGood ts)(s:List UInt8):q2k (lit s,⟨⟨ts,j⟩,d⟩)=o (isP s ts,⟨⟨ts,j⟩,d⟩):=by
 show((q14 ⟨⟨ts,j⟩,d⟩).bind _)=_;rw[ZL g,jj];simp only[jl];unfold isP;by_cases h2:(hd ts).k_=2
 ·grind
 grind
theorem zZ(g:TGood ts)(s:List UInt8):q11 (lit s,⟨⟨ts,j⟩,d⟩)=o (isP s ts,if isP s ts=j then⟨⟨ts.tail,j⟩,d⟩ else⟨⟨ts,j⟩,d⟩):=by
 show((q2k (lit s,⟨⟨ts,j⟩,d⟩)).bind _)=_;rw[xf g,jj];cases h:isP s ts with
 |false=>rfl
 |true=>
  simp only[Dg,jk,jp,jq];rw[g.tl];rfl
theorem Vu(g:TGood ts)(e:Int):q1y (e,⟨⟨ts,j⟩,d⟩)=o (((hd ts).a_,e),⟨⟨ts,j⟩,d⟩):=by
 show((q14 ⟨⟨ts,j⟩,d⟩).bind _)=_;rw[ZL g];rfl
theorem zbq (g:TGood ts) {K:Bool×PSt->Uv β}{p q:PR α}{er:(Int×Int)×PSt->β}{ok:α->PSt->β}(h1:isP s ts=j->TGood ts.tail->ts.tail.length+1=ts.length->Sm d n p (K (j,⟨⟨ts.tail,j⟩,d⟩)) er ok)
    (h0:isP s ts=C->Sm d n q (K (C,⟨⟨ts,j⟩,d⟩)) er ok):Sm d n (if isP s ts=j then p else q) ((q11 (lit s,⟨⟨ts,j⟩,d⟩)).bind K) er ok:=by
 rw[zZ g,jj];cases h:isP s ts with
 |true=>simp only[jq];exact h1 h (g.is h) g.tail_len
 |false=>grind
theorem ZM(g:TGood ts)(s:List UInt8):Sm d (ts.length - 1) (zY s ts) (q19 (lit s,⟨⟨ts,j⟩,d⟩)) A (λ_ st=>B st):=by
 show Sm d _ _ ((q11 (lit s,⟨⟨ts,j⟩,d⟩)).bind _) _ _;unfold zY;refine zbq g (λh a l=>?_) λh=>?_
 ·exact .ok a Zd rfl
 ·refine⟨⟨⟨ts,j⟩,d⟩,?_⟩;show((q1y (20,⟨⟨ts,j⟩,d⟩)).bind _)=_;rw[Vu g];rfl
theorem zno(g:TGood ts)(k:Int)(a:k≠0):Sm d (ts.length - 1) (wD k ts) (q69 (k,⟨⟨ts,j⟩,d⟩)) A (λt st=>B (t,st)):=by
 show Sm d _ _ ((q14 ⟨⟨ts,j⟩,d⟩).bind _) _ _;rw[ZL g,jj];unfold wD;simp only[jl];by_cases h:(hd ts).k_=k
 ·rw[jv h,jx (by simpa using h),g.tl];exact .ok (g.tail Zd) jE rfl
 ·rw[jx h,jv h,Vu g];exact⟨_,rfl⟩
theorem ziK{ts a:List Tk}{t:Tk}(g:TGood ts)(h:wD k ts = .ok (t,a)):0<=t.n_/\t.n_<=1099511627776:=by
 unfold wD at h;split at h
 ·cases h
  match ts,g with
  |[],g=>exact absurd rfl g.ne
  |t::r,g=>exact g.num t (by simp[hd])
 ·cases h
def ndT(n:Nd):Int×Ut×Int×Int:=(n.k_,n.T_,n.n_,n.a_)
theorem ZT(g:TGood ts):Sm d (ts.length - 1) (Zc ts) (q1d ⟨⟨ts,j⟩,d⟩) A (λn st=>B (ndT n,st)):=by
 show Sm d _ _ ((q69 (1,⟨⟨ts,j⟩,d⟩)).bind _) _ _;exact(zno g 1 Zd).bd (λe=>rfl) λt b _ a l =>.ok a l rfl
theorem XZ(g:TGood ts)(a:Int)(hs:a=1\/a = -1):Sm d (ts.length - 1) (Yt a ts) (q5f (a,⟨⟨ts,j⟩,d⟩)) A (λv st=>B (v,st)):=by
 show Sm d _ _ ((q69 (3,⟨⟨ts,j⟩,d⟩)).bind _) _ _;refine(zno g 3 Zd).bd (λe=>rfl) λt f b c l =>.ok c l ?_
 have:=ziK g b;show o (B (Uw (a * t.n_),_))=_;rw[zF jE jE]
end
section
variable {d:Int}{n:Nat}{ts:List Tk}
theorem Sm.out{r:PR α}{er:(Int×Int)×PSt->β}{ok:α->PSt->β}(h:Sm d n r m er ok){a:α}{b:List Tk}(e:r = .ok (a,b)):m=o (ok a ⟨⟨b,j⟩,d⟩)/\TGood b/\b.length<=n:=by
 rw[e] at h;exact h
theorem Sm.err{r:PR α}{er:(Int×Int)×PSt->β}{ok:α->PSt->β}(h:Sm d n r m er ok){e:Int×Int}(a:r = .error e):∃st,m=o (er (e,st)):=by
 rw[a] at h;exact h
theorem bd_ok{r:PR α}{f:α->List Tk->PR β}{b:β}{t:List Tk}(h:r.bd f = .ok (b,t)):∃a c,r = .ok (a,c)/\f a c = .ok (b,t):=by
 cases r with
 |error e=>cases h
 |ok p=>exact⟨p.1,p.2,rfl,h⟩
theorem Sm.map{γ:Type}{r:PR α}{K:β->Uv γ}{er:(Int×Int)×PSt->β}{ok:α->PSt->β}{c:(Int×Int)×PSt->γ}{b:α->PSt->γ}(h:Sm d n r m er ok)(k:∀e,K (er e)=o (c e))(i:∀a f,r = .ok (a,f)->TGood f->K (ok a ⟨⟨f,j⟩,d⟩)=o (b a ⟨⟨f,j⟩,d⟩)):Sm d n r (m.bind K) c b:=by
 cases r with
 |error e=>obtain⟨st,rfl⟩:=h;exact⟨st,k _⟩
 |ok p=>obtain⟨rfl,g,l⟩:=h;exact⟨i _ _ rfl g,g,l⟩
theorem zP{ts b:List Tk}{n:Nd}(h:Zc ts = .ok (n,b)):n.K_=nilS:=by
 obtain⟨a,t,_,h⟩:=bd_ok h;cases h;rfl
theorem XM{a:Nd}(h:a.K_=nilS):q8.mk a.k_ a.T_ a.n_ a.a_ (D [] C)=a:=by cases a;grind
theorem zm(a:Nd):ke a=a:=by cases a;rfl
theorem znp{b:Nd}(g:TGood ts):Sm d ts.length (xW b ts) (q6a (b,⟨⟨ts,j⟩,d⟩)) A (λn st=>B (n,st)):=by
 show Sm d _ _ ((q11 (lit [43],⟨⟨ts,j⟩,d⟩)).bind _) _ _;unfold xW;refine zbq g (λh a l=>?_) λh=>?_
 ·simp only[jq,gh];exact(XZ a 1 (.inl rfl)).bd (λe=>rfl) λv c _ g2 l2 =>.ok g2 Zd rfl
 ·simp only[jk,jp,gh];refine zbq g (λh a l=>?_) λh=>?_
  ·simp only[jq,gh];exact(XZ a (-1) (.inr rfl)).bd (λe=>rfl) λv c _ g2 l2 =>.ok g2 Zd rfl
  ·exact .ok g Zd (by simp only[jk,jp,jj,zm,jm])
theorem zgJ{ts c:List Tk}{n b:Nd}(h0:b.K_=nilS)(h:xW b ts = .ok (n,c)):n.K_=nilS:=by
 unfold xW at h;split at h
 ·obtain⟨a,t,_,h⟩:=bd_ok h;cases h;exact h0
 ·split at h
  ·obtain⟨a,t,_,h⟩:=bd_ok h;cases h;exact h0
  grind
theorem X0{ts b:List Tk}{n:Nd}(h:Z4 ts = .ok (n,b)):n.K_=nilS:=by
 unfold Z4 at h;split at h
 ·obtain⟨a,t,_,h⟩:=bd_ok h;cases h;rfl
 ·split at h
  ·obtain⟨a,t,_,h⟩:=bd_ok h;cases h;rfl
  ·obtain⟨a,t,h1,h⟩:=bd_ok h;exact zgJ (zP h1) h
theorem X3(g:TGood ts):Sm d (ts.length - 1) (Z4 ts) (q2s ⟨⟨ts,j⟩,d⟩) A (λn st=>B (n,st)):=by
 show Sm d _ _ ((q14 ⟨⟨ts,j⟩,d⟩).bind _) _ _;rw[ZL g,jj,ZL g,jj];unfold Z4;simp only[jl];by_cases b:(hd ts).k_=3
 ·rw[jv b,jv b];simp only[gh];exact(XZ g 1 (.inl rfl)).bd (λe=>rfl) λv f _ g2 l2 =>.ok g2 Zd rfl
 ·rw[jx b,jx b];simp only[gh];refine zbq g (λh c l=>?_) λh=>?_
  ·simp only[jq,gh];exact(XZ c (-1) (.inr rfl)).bd (λe=>rfl) λv f _ g2 l2 =>.ok g2 Zd rfl
  ·show Sm d _ _ ((q1d ⟨⟨ts,j⟩,d⟩).bind _) _ _;refine(ZT g).bd (λe=>rfl) λn f k c i=>?_
   show Sm d _ _ (((q6a (q8.mk n.k_ n.T_ n.n_ n.a_ (D [] C),⟨⟨f,j⟩,d⟩)).bind _).bind _) _ _;rw[gh,XM (zP k)];refine Sm.mono ?_ i;exact Sm.map (znp c) (λe=>rfl) λa t2 _ _=>by simp only[jm,jj,zm]
theorem zyI(g:TGood ts):Sm d (ts.length - 1) (zcv ts) (qe7 ⟨⟨ts,j⟩,d⟩) B (λs st=>A (s,st)):=by
 have body:∀(i:Int) (s:List UInt8),0<=i->i < 3->vL [lit [60],lit [60,61],lit [61,61]] i=o (lit s)->
     q7y q11 q1y ((lit [60],lit [60,61],lit [61,61]),i,⟨⟨ts,j⟩,d⟩)=if isP s ts=j then o (.done (.inl (lit s,⟨⟨ts.tail,j⟩,d⟩))) else o (.next ((lit [60],lit [60,61],lit [61,61]),i+1,⟨⟨ts,j⟩,d⟩)):=by
  intro i s h0 c f;unfold q7y;simp only[jl,jv c,f,jj,zZ g];cases h:isP s ts with
  |true=>grind
  |false=>simp only[jk,jp];rw[zF Zd Zd]
 have e0:=body 0 [60] Zd Zd rfl;have b:=body 1 [60,61] Zd Zd rfl;have a:=body 2 [61,61] Zd Zd rfl;show Sm d _ _ ((lpO (q7y q11 q1y) ((lit [60],lit [60,61],lit [61,61]),0,⟨⟨ts,j⟩,d⟩)).bind _) _ _;unfold zcv;rw[Zu,e0];cases h0:isP [60] ts with
 |true=>exact .ok (g.is h0) jE rfl
 |false=>
  simp only[jk,jp,jj];rw[Zu,show(0:Int)+1=1 from rfl,b];cases h1:isP [60,61] ts with
  |true=>exact .ok (g.is h1) jE rfl
  |false=>
   simp only[jk,jp,jj];rw[Zu,show(1:Int)+1=2 from rfl,a];cases h2:isP [61,61] ts with
   |true=>exact .ok (g.is h2) jE rfl
   |false=>
    simp only[jk,jp,jj];rw[Zu,show(2:Int)+1=3 from rfl];have e:q7y q11 q1y ((lit [60],lit [60,61],lit [61,61]),3,⟨⟨ts,j⟩,d⟩)=o (.done (.inr ⟨⟨ts,j⟩,d⟩)):=rfl;rw[e];simp only[jj,jm,Vu g];exact⟨_,rfl⟩
theorem V4{acc:List Nd}{a:Nd}(h:acc.length<=30000)(b:Bool):zo 64 (⟨acc,b⟩:Sl Nd) [a]=o ⟨acc++[a],j⟩:=by
 rw[yy ji ji];simp
abbrev zpl:=Step (PSt×Sl Nd) (((Int×Int)×PSt)⊕(PSt×Sl Nd))
def zer(d:Int)(one:List Tk->PR Nd)(f:PSt×Sl Nd->Uv zpl):Prop:=∀(ts:List Tk) (acc:List Nd),TGood ts->acc.length<=30000->
 (isP [44] ts=C->f (⟨⟨ts,j⟩,d⟩,⟨acc,j⟩)=o (.done (.inr (⟨⟨ts,j⟩,d⟩,⟨acc,j⟩))))/\
 (isP [44] ts=j->match one ts.tail with
  | .error e=>∃st,f (⟨⟨ts,j⟩,d⟩,⟨acc,j⟩)=o (.done (.inl (e,st)))
  | .ok (a,b)=>TGood b/\b.length+1<=ts.length/\f (⟨⟨ts,j⟩,d⟩,⟨acc,j⟩)=o (.next (⟨⟨b,j⟩,d⟩,⟨acc++[a],j⟩)))
theorem zdR {one:List Tk->PR Nd}{f:PSt×Sl Nd->Uv zpl}(c:zer d one f):∀(k:Nat) (ts:List Tk) (acc:List Nd),TGood ts->ts.length<=k->acc.length+ts.length<=30000->
    Sm d ts.length (Zt one k acc ts) (lpO f (⟨⟨ts,j⟩,d⟩,⟨acc,j⟩)) A (λl st=>B (st,⟨l,j⟩))/\∀l b,Zt one k acc ts = .ok (l,b)->l.length+b.length<=acc.length+ts.length
 |0,ts,acc,g,hk,ha=>absurd (UJ Zd) g.ne
 |k+1,ts,acc,g,hk,ha=>by
  obtain⟨h0,h1⟩:=c ts acc g Zd;rw[Zu];show Sm d _ (if isP [44] ts=j then _ else _) _ _ _/\∀l b,(if isP [44] ts=j then _ else _)=_->_
  cases h:isP [44] ts with
  |false=>
   rw[h0 h];simp only[jk,jp,jj];exact⟨.ok g (UD _) rfl,λl b e=>jE⟩
  |true=>
   have h1:=h1 h;simp only[jq];cases e:one ts.tail with
   |error er=>
    rw[e] at h1;obtain⟨st,h1⟩:=h1;rw[h1];exact⟨⟨st,rfl⟩,λl b e=>by cases e⟩
   |ok p=>
    obtain⟨a,b⟩:=p;rw[e] at h1;obtain⟨n,q,h1⟩:=h1;rw[h1];have i:=zdR c k b (acc++[a]) n Zd ji;exact⟨i.1.mono Zd,λl t2 m=>by have:=i.2 l t2 m;grind⟩
theorem zhV:zer d Z4 (qai q2s q11):=by
 intro ts acc g c;unfold qai;simp only[zZ g,jj];refine⟨λh=>by rw[h];rfl,λh=>?_⟩;rw[h];simp only[jq];have s:=X3 (d:=d) (g.is h);cases e:Z4 ts.tail with
 |error er=>obtain⟨st,s⟩:=s.err e;grind
 |ok p=>
  obtain⟨a,i⟩:=p;obtain⟨s,b,f⟩:=s.out e;have:=g.tail_len;refine⟨b,Zd,?_⟩;have k:=X0 e;rw[s];simp only[jj,jm,zm,V4 c]
end
section
variable {d:Int}{n:Nat}{ts:List Tk}
theorem zcw {one:List Tk->PR Nd}{f:PSt×Sl Nd->Uv zpl}(n:zer d one f) {er:(Int×Int)×PSt->β}{ok:Nd->PSt->β}{K:β->Uv (((Int×Int)×PSt)⊕(PSt×Sl Nd))}(g:TGood ts) (h:Sm d (ts.length - 1) (one ts) m er ok)
    (u:∀e,K (er e)=o (A e)) (t:∀a b,one ts = .ok (a,b)->K (ok a ⟨⟨b,j⟩,d⟩)=(lpO f (⟨⟨b,j⟩,d⟩,⟨[a],j⟩)).bind λr=>E (λk=>o (A k)) (λc=>o (B c)) r) :
    Sm d (ts.length - 1) (yc one ts) (m.bind K) A (λl st=>B (st,⟨l,j⟩))/\∀l b,yc one ts = .ok (l,b)->l.length+b.length<=ts.length:=by
 have q:=g.len;have h0:=g.tail_len;constructor
 · refine h.bd u λa b e i p=>?_
   rw[t a b e];have:=(zdR n ts.length b [a] i Zd ji).1;refine Sm.mono ?_ p;exact Sm.map this (λe=>rfl) λl t2 _ _=>rfl
 ·intro l t2 e;obtain⟨a,b,v,s⟩:=bd_ok e;obtain⟨_,i,p⟩:=h.out v;have:=(zdR n ts.length b [a] i Zd ji).2 l t2 s;grind
theorem zlx(g:TGood ts):Sm d (ts.length - 1) (yc Z4 ts) (qar ⟨⟨ts,j⟩,d⟩) A (λl st=>B (st,⟨l,j⟩))/\∀l b,yc Z4 ts = .ok (l,b)->l.length+b.length<=ts.length:=by
 refine zcw zhV g (X3 g) (λe=>rfl) λa b e=>?_
 simp only[jm,zm]
theorem zhW(g:TGood ts):Sm d (ts.length - 1) (zav ts) (q6b ⟨⟨ts,j⟩,d⟩) A (λl st=>B (st,l)):=by
 show Sm d _ _ ((q19 (lit [40],⟨⟨ts,j⟩,d⟩)).bind _) _ _;refine(ZM g [40]).bd (λe=>rfl) λ_ f _ a c=>?_
 refine zbq a (λh g2 l=>?_) λh=>?_
 ·exact .ok g2 Zd rfl
 ·refine(zlx a).1.bd (λe=>rfl) λl t2 _ g2 l2=>?_
  refine(ZM g2 [41]).bd (λe=>rfl) λ_ t3 _ b i =>.ok b Zd rfl
def ndK(n:Nd)(st:PSt):(Int×Ut×Int×Int)×PSt×Sl Nd:=(ndT n,st,n.K_)
theorem zw0(g:TGood ts):Sm d (ts.length - 1) (vm ts) (qdm ⟨⟨ts,j⟩,d⟩) B (λn st=>A (ndK n st)):=by
 show Sm d _ _ ((q14 ⟨⟨ts,j⟩,d⟩).bind _) _ _;rw[ZL g,jj,ZL g,jj,zZ g,jj];have i:=g.tail_len;unfold vm
 have nm:∀{K:((Int×Int)×PSt⊕(Int×Ut×Int×Int)×PSt)->Uv ((Int×Ut×Int×Int)×PSt×Sl Nd⊕(Int×Int)×PSt)},TGood ts.tail->
     (∀e,K (A e)=o (B e))->(∀k a,Zc ts.tail = .ok (k,a)->K (B (ndT k,⟨⟨a,j⟩,d⟩))=o (A (ndK ⟨2,(hd ts).T_,0,(hd ts).a_,⟨[k],j⟩⟩ ⟨⟨a,j⟩,d⟩)))->
     Sm d (ts.length - 1) ((Zc ts.tail).bd λk a =>.ok (⟨2,(hd ts).T_,0,(hd ts).a_,⟨[k],j⟩⟩,a)) ((q1d ⟨⟨ts.tail,j⟩,d⟩).bind K) B (λn st=>A (ndK n st)):=
  λ{K} c h1 h2=>(ZT c).bd h1 λk a e g2 l2 =>.ok g2 Zd (h2 k a e)
 have kk:∀k a,Zc ts.tail = .ok (k,a)->q8.mk (ndT k).1 (ndT k).2.1 (ndT k).2.2.1 (ndT k).2.2.2 (D [] C)=k:=λk a e=>XM (zP e)
 cases h1:isP [111,119,110] ts with
 |true=>exact .ok (g.is h1) Zd rfl
 |false=>
  simp only[jk,jp,zZ g,jj];cases h2:isP [99,101,108,108] ts with
  |true=>exact .ok (g.is h2) Zd rfl
  |false=>
   simp only[jk,jp,zZ g,jj];cases f:isP [99,111,117,110,116,101,100] ts with
   |true=>
    simp only[jq,jj,gh];exact nm (g.is f) (λe=>rfl) λk a e=>by
     simp only[jm,jj,kk k a e];rfl
   |false=>
    simp only[jk,jp,zZ g,jj];cases b:isP [108,111,99,107] ts with
    |true=>
     simp only[jq,jj,gh];exact nm (g.is b) (λe=>rfl) λk a e=>by
      simp only[jm,jj,kk k a e];rfl
    |false=>
     simp only[jk,jp,zZ g,jj];cases h:isP [103,117,97,114,100] ts with
     |true=>
      simp only[jq,jj,gh];exact nm (g.is h) (λe=>rfl) λk a e=>by
       simp only[jm,jj,kk k a e];rfl
     |false=>
      simp only[jk,jp,jj,Vu g];exact⟨_,rfl⟩
theorem zly(g:TGood ts):Sm d (ts.length - 1) (xE ts) (q9m ⟨⟨ts,j⟩,d⟩) A (λn st=>B (ndK n st)):=by
 show Sm d _ _ ((q1d ⟨⟨ts,j⟩,d⟩).bind _) _ _;refine(ZT g).bd (λe=>rfl) λn i _ a f=>?_
 refine zbq a (λh g2 l=>?_) λh=>?_
 ·simp only[jq,gh];refine(ZT g2).bd (λe=>rfl) λk t2 e c m=>?_
  show Sm d _ _ (((q19 (lit [93],⟨⟨t2,j⟩,d⟩)).bind _).bind _) _ _;rw[gh];refine(ZM c [93]).bd (λe=>rfl) λ_ t4 _ b p =>.ok b Zd ?_
  have:=XM (zP e);simp only[jm,jj,ndT,this];rfl
 ·exact .ok a Zd rfl
theorem zhX(g:TGood ts):Sm d (ts.length - 1) (YI ts) (q58 ⟨⟨ts,j⟩,d⟩) A (λn st=>B (ndK n st)):=by
 show Sm d _ _ ((q2s ⟨⟨ts,j⟩,d⟩).bind _) _ _;refine(X3 g).bd (λe=>rfl) λa i h c k=>?_
 refine(zyI c).bd (λe=>rfl) λop t2 _ g2 l2=>?_
 refine(X3 g2).bd (λe=>rfl) λb t3 l f m =>.ok f Zd ?_
 simp only[jm,zm];rfl
theorem zgK:zer d xE (q9d q9m q11):=by
 intro ts acc g c;unfold q9d;simp only[zZ g,jj];refine⟨λh=>by rw[h];rfl,λh=>?_⟩;rw[h];simp only[jq];have s:=zly (d:=d) (g.is h);cases e:xE ts.tail with
 |error er=>obtain⟨st,s⟩:=s.err e;grind
 |ok p=>
  obtain⟨a,i⟩:=p;obtain⟨s,b,f⟩:=s.out e;have:=g.tail_len;refine⟨b,Zd,?_⟩;rw[s];simp only[jj,jm,ndK,ndT,zm,V4 c]
theorem zhY:zer d YI (qaj q58 q11):=by
 intro ts acc g c;unfold qaj;simp only[zZ g,jj];refine⟨λh=>by rw[h];rfl,λh=>?_⟩;rw[h];simp only[jq];have s:=zhX (d:=d) (g.is h);cases e:YI ts.tail with
 |error er=>obtain⟨st,s⟩:=s.err e;grind
 |ok p=>
  obtain⟨a,i⟩:=p;obtain⟨s,b,f⟩:=s.out e;have:=g.tail_len;refine⟨b,Zd,?_⟩;rw[s];simp only[jj,jm,ndK,ndT,zm,V4 c]
theorem zc3(g:TGood ts):Sm d (ts.length - 1) (yc xE ts) (qak ⟨⟨ts,j⟩,d⟩) A (λl st=>B (st,⟨l,j⟩))/\∀l b,yc xE ts = .ok (l,b)->l.length+b.length<=ts.length:=by
 refine zcw zgK g (zly g) (λe=>rfl) λa b e=>?_
 simp only[jm,ndK,ndT,zm]
theorem zlz(g:TGood ts):Sm d (ts.length - 1) (yc YI ts) (qas ⟨⟨ts,j⟩,d⟩) A (λl st=>B (st,⟨l,j⟩))/\∀l b,yc YI ts = .ok (l,b)->l.length+b.length<=ts.length:=by
 refine zcw zhY g (zhX g) (λe=>rfl) λa b e=>?_
 simp only[jm,ndK,ndT,zm]
theorem znq{xs l:List Nd}(h:xs.length+l.length<=60000):zo 64 (⟨xs,j⟩:Sl Nd) l=o ⟨xs++l,j⟩:=by
 rw[yy ji ji];simp
theorem zyJ(g:TGood ts)(a:Int):Sm d (ts.length - 1) (zdQ a ts) (qbg (a,⟨⟨ts,j⟩,d⟩)) A (λn st=>B (ndK n st)):=by
 have r:=g.len;show Sm d _ _ ((q1d ⟨⟨ts,j⟩,d⟩).bind _) _ _;refine(ZT g).bd (λe=>rfl) λn N _ u Q=>?_
 refine(zw0 u).bd (λe=>rfl) λs t2 _ g2 l2=>?_
 show Sm d _ _ ((q11 (lit [123],⟨⟨t2,j⟩,d⟩)).bind _) _ _;rw[zZ g2,jj];have hs:q8.mk (ndK s ⟨⟨t2,j⟩,d⟩).1.1 (ndK s ⟨⟨t2,j⟩,d⟩).1.2.1 (ndK s ⟨⟨t2,j⟩,d⟩).1.2.2.1 (ndK s ⟨⟨t2,j⟩,d⟩).1.2.2.2 (ndK s ⟨⟨t2,j⟩,d⟩).2.2=s:=zm s;simp only[hs];have i:=g2.len;refine Sm.bd (er:=A) (ok:=λ(l:List Nd) (st:PSt)=>B (st,(0,lit [],0,0),(1,n.T_,n.n_,a),(⟨l,j⟩:Sl Nd))) (n:=t2.length) ?_ (λe=>rfl) λks t5 t b w=>?_
 ·cases h:isP [123] t2 with
  |false=>exact .ok g2 (UD _) rfl
  |true=>
   simp only[jq];have m:=g2.is h;have c:=g2.tail_len;obtain⟨q,f⟩:=zc3 (d:=d) m;refine q.bd (λe=>rfl) λl t3 e p H=>?_
   have:=f l t3 e;simp only[jm];rw[znq ji,jj];exact(ZM p [125]).bd (λe=>rfl) λ_ t4 _ b w =>.ok b Zd rfl
 have v:ks.length<=20001:=by
  split at t
  ·rename_i h;have c:=g2.tail_len;obtain⟨l,t3,y,x⟩:=bd_ok t;obtain⟨_,t4,_,F⟩:=bd_ok x;cases F;have:=(zc3 (d:=d) (g2.is h)).2 l t3 y;simp;omega
  grind
 show Sm d _ _ ((q11 (lit [119,104,101,114,101],⟨⟨t5,j⟩,d⟩)).bind _) _ _;rw[zZ b,jj];have k:=b.len;refine Sm.bd (er:=A) (ok:=λ(l:List Nd) (st:PSt)=>B (st,(0,lit [],0,0),(1,n.T_,n.n_,a),(⟨l,j⟩:Sl Nd))) (n:=t5.length) ?_ (λe=>rfl) λz O K G L=>?_
 ·cases h:isP [119,104,101,114,101] t5 with
  |false=>exact .ok b (UD _) rfl
  |true=>
   simp only[jq];have m:=b.is h;have c:=b.tail_len;obtain⟨q,f⟩:=zlz (d:=d) m;refine q.bd (λe=>rfl) λl t3 e p H=>?_
   have:=f l t3 e;simp only[jm];rw[znq Zd,jj];exact .ok p Zd rfl
 exact(ZM G [59]).bd (λe=>rfl) λ_ P _ I M =>.ok I Zd rfl
end
section
variable {d:Int}{n:Nat}{ts:List Tk}
theorem znr(g:TGood ts):Sm d (ts.length - 1) (Wu ts) (qat ⟨⟨ts,j⟩,d⟩) B (λn st=>A (n,st)):=by
 show Sm d _ _ ((q14 ⟨⟨ts,j⟩,d⟩).bind _) _ _;rw[ZL g,jj,ZL g,jj,zZ g,jj];have h:=g.tail_len;unfold Wu;cases h1:isP [105,110,116] ts with
 |true=>exact .ok (g.is h1) Zd rfl
 |false=>
  simp only[jk,jp,zZ g,jj];cases h2:isP [111,119,110] ts with
  |true=>
   simp only[jq,jj,jo];refine(ZT (g.is h2)).bd (λe=>rfl) λk b e a c =>.ok a Zd ?_
   have:=XM (zP e);simp only[jm,ndT,this]
  |false=>
   simp only[jk,jp,gh];refine(ZM g [38]).bd (λe=>rfl) λ_ b _ a c=>?_
   simp only[jm,zZ a,jj,gh];cases f:isP [109,117,116] b with
   |true=>
    simp only[jq,jj,jo];have:=a.tail_len;refine(ZT (a.is f)).bd (λe=>rfl) λk t2 e g2 l2 =>.ok g2 Zd ?_
    have:=XM (zP e);simp only[jm,ndT,this]
   |false=>
    simp only[jk,jp,jj,jo];refine(ZT a).bd (λe=>rfl) λk t2 e g2 l2 =>.ok g2 Zd ?_
    have:=XM (zP e);simp only[jm,ndT,this]
theorem zlA(g:TGood ts):Sm d (ts.length - 1) (xF ts) (q9n ⟨⟨ts,j⟩,d⟩) A (λn st=>B (ndK n st)):=by
 show Sm d _ _ ((q1d ⟨⟨ts,j⟩,d⟩).bind _) _ _;refine(ZT g).bd (λe=>rfl) λn f _ a c=>?_
 refine(ZM a [58]).bd (λe=>rfl) λ_ t2 _ g2 l2=>?_
 exact(znr g2).bd (λe=>rfl) λm t3 _ b h =>.ok b Zd (by simp only[jo,zm];rfl)
theorem zgL:zer d xF (q9e q9n q11):=by
 intro ts acc g c;unfold q9e;simp only[zZ g,jj];refine⟨λh=>by rw[h];rfl,λh=>?_⟩;rw[h];simp only[jq];have s:=zlA (d:=d) (g.is h);cases e:xF ts.tail with
 |error er=>obtain⟨st,s⟩:=s.err e;grind
 |ok p=>
  obtain⟨a,i⟩:=p;obtain⟨s,b,f⟩:=s.out e;have:=g.tail_len;refine⟨b,Zd,?_⟩;rw[s];simp only[jj,jm,ndK,ndT,zm,V4 c]
theorem zc4(g:TGood ts):Sm d (ts.length - 1) (yc xF ts) (qal ⟨⟨ts,j⟩,d⟩) A (λl st=>B (st,⟨l,j⟩))/\∀l b,yc xF ts = .ok (l,b)->l.length+b.length<=ts.length:=by
 refine zcw zgL g (zlA g) (λe=>rfl) λa b e=>?_
 simp only[jm,ndK,ndT,zm]
theorem zvj(g:TGood ts)(k:Int):Sm d (ts.length - 1) (atP k ts) (qc2 (k,⟨⟨ts,j⟩,d⟩)) A (λn st=>B (ndT n,st)):=by
 show Sm d _ _ ((q1d ⟨⟨ts,j⟩,d⟩).bind _) _ _;refine(ZT g).bd (λe=>rfl) λn f _ b h=>?_
 refine(ZM b [91]).bd (λe=>rfl) λ_ t2 _ g2 l2=>?_
 refine(XZ g2 1 (.inl rfl)).bd (λe=>rfl) λv t3 _ c i=>?_
 exact(ZM c [93]).bd (λe=>rfl) λ_ t4 _ a l =>.ok a Zd rfl
theorem vH(g:TGood ts)(n:Nd):Sm d (ts.length - 1) (W8 n ts) (q7a (n,⟨⟨ts,j⟩,d⟩)) A (λn st=>B (n,st)):=by
 show Sm d _ _ ((q19 (lit [59],⟨⟨ts,j⟩,d⟩)).bind _) _ _;exact(ZM g [59]).bd (λe=>rfl) λ_ c _ a b =>.ok a Zd (by simp only[jm,zm])
theorem TGood.idx1{ts:List Tk}(g:TGood ts.tail):za (⟨ts,j⟩:Sl Tk) 1=o (hd ts.tail):=by
 match ts,g with
 |[],g=>exact absurd rfl g.ne
 |[t],g=>exact absurd rfl g.ne
 |t::u::r,_=>rfl
theorem zhZ{ts:List Tk}(h:isP [43] ts=j):isP [45] ts=false:=by
 unfold isP at h |-
 simp only[gf,jl] at h;have:¬ (hd ts).T_=lit [45]:=by
  rw[h.2];intro e;have:=congrArg bs e;simp[wy] at this
 simp[this]
theorem zw1(g:TGood ts):Sm d (ts.length - 1) (v8 ts) (qdn ⟨⟨ts,j⟩,d⟩) A (λn st=>B (n,st)):=by
 show Sm d _ _ ((q14 ⟨⟨ts,j⟩,d⟩).bind _) _ _;rw[ZL g,jj,zZ g,jj];have O:=g.tail_len;unfold v8;cases h1:isP [110,101,119] ts with
 |true=>
  simp only[jq,gh];exact(XZ (g.is h1) 1 (.inl rfl)).bd (λe=>rfl) λv f _ c w =>.ok c Zd rfl
 |false=>
 simp only[jk,jp,zZ g,jj];cases h2:isP [97,114,114,97,121] ts with
 |true=>
  simp only[jq,gh];exact(ZT (g.is h2)).bd (λe=>rfl) λv f _ c w =>.ok c Zd rfl
 |false=>
 simp only[jk,jp,zZ g,jj];cases L:isP [38] ts with
 |true=>
  have c:=g.is L;simp only[jq,zZ c,jj];cases F:isP [109,117,116] ts.tail with
  |true=>
   have:=c.tail_len;simp only[jq,jj,gh];exact(ZT (c.is F)).bd (λe=>rfl) λv f _ g2 l2 =>.ok g2 Zd rfl
  |false=>
   simp only[jk,jp,jj,gh];exact(ZT c).bd (λe=>rfl) λv f _ g2 l2 =>.ok g2 Zd rfl
 |false=>
 simp only[jk,jp,ZL g,jj,jl];by_cases G:(hd ts).k_=1
 case neg=>
  simp only[Dc,G,ju,jq,gh];refine Sm.map (X3 g) (λe=>rfl) λv f e g2=>?_
  simp only[jm,jo,jj,zm]
 case pos=>
 simp only[Dc,G,jt,jp,jj,jm];refine(ZT g).bd (λe=>rfl) λn f M c w=>?_
 have x:=XM (zP M);have I:=c.tail_len;simp only[jm,xf c,jj];cases F:isP [40] f with
 |true=>
  simp only[jq,gh];exact(zhW c).bd (λe=>rfl) λv t2 _ g2 l2 =>.ok g2 Zd rfl
 |false=>
 simp only[jk,jp,zZ c,jj];cases H:isP [91] f with
 |true=>
  simp only[jq,gh];refine(X3 (c.is H)).bd (λe=>rfl) λa t2 N g2 l2=>?_
  have P:=XM (X0 N);show Sm d _ _ (((q19 (lit [93],⟨⟨t2,j⟩,d⟩)).bind _).bind _) _ _;rw[gh];exact(ZM g2 [93]).bd (λe=>rfl) λ_ t3 _ K Q =>.ok K Zd (by simp only[jm,jo,jj,ndT,zm])
 |false=>
 simp only[jk,jp,jj,jm,xf c];by_cases hp:isP [43] f=j/\(hd f.tail).k_=1
 ·obtain⟨b,i⟩:=hp;have p:=zhZ b;have l:=c.is b;have r:=(ZM (d:=d) c [43]).out (show zY [43] f = .ok ((),f.tail) by unfold zY;grind);rw[jv ⟨b,i⟩];simp only[b,p,jq,jk,jp,jj,l.idx1,i,js,r.1,jm];have nm:=ZT (d:=d) l;cases e:Zc f.tail with
  |error er=>
   obtain⟨st,h⟩:=nm.err e;simp only[h,xf c,b,p,jq,jk,jp,l.idx1,i,js,r.1,jj,jm,jo,ZJ];exact⟨st,rfl⟩
  |ok q=>
   obtain⟨k,t2⟩:=q;obtain⟨h,g2,l2⟩:=nm.out e;have t:=XM (zP e);simp only[h,xf c,b,p,jq,jk,jp,l.idx1,i,js,r.1,jj,jm,jo,ZJ];simp only[ndT,t,x];exact .ok g2 Zd rfl
 ·rw[jx hp];by_cases u:isP [45] f=j/\(hd f.tail).k_=1
  ·obtain⟨b,i⟩:=u;have p:isP [43] f=false:=by
    grind
   have l:=c.is b;have r:=(ZM (d:=d) c [45]).out (show zY [45] f = .ok ((),f.tail) by unfold zY;grind);rw[jv ⟨b,i⟩];simp only[b,p,jq,jk,jp,jj,l.idx1,i,js,r.1,jm];have nm:=ZT (d:=d) l;cases e:Zc f.tail with
   |error er=>
    obtain⟨st,h⟩:=nm.err e;simp only[h,xf c,b,p,jq,jk,jp,l.idx1,i,js,r.1,jj,jm,jo,ZJ];exact⟨st,rfl⟩
   |ok q=>
    obtain⟨k,t2⟩:=q;obtain⟨h,g2,l2⟩:=nm.out e;have t:=XM (zP e);simp only[h,xf c,b,p,jq,jk,jp,l.idx1,i,js,r.1,jj,jm,jo,ZJ];simp only[ndT,t,x];exact .ok g2 Zd rfl
  ·rw[jx u];have fin:Sm d (ts.length - 1) (xW n f) ((q6a (q8.mk (ndT n).1 (ndT n).2.1 (ndT n).2.2.1 (ndT n).2.2.2 (D [] C),⟨⟨f,j⟩,d⟩)).bind λy=>E (λe=>o (A e)) (λz=>o (B (ke z.1,z.2))) y) A (λn st=>B (n,st)):=by
    refine Sm.mono ?_ w;rw[show q8.mk (ndT n).1 (ndT n).2.1 (ndT n).2.2.1 (ndT n).2.2.2 (D [] C)=n from x];refine Sm.map (znp c) (λe=>rfl) λa t2 e _=>?_
    simp only[jm,zm]
   cases b:isP [43] f with
   |true=>
    have l:=c.is b;have p:=zhZ b;have s:¬ (hd f.tail).k_=1:=λe=>hp ⟨b,e⟩
    simp only[xf c,b,p,jq,jk,jp,jj,l.idx1,s,jr,jm,ZJ];exact fin
   |false=>
    cases m:isP [45] f with
    |true=>
     have l:=c.is m;have s:¬ (hd f.tail).k_=1:=λe=>u ⟨m,e⟩
     simp only[xf c,b,m,jq,jk,jp,jj,l.idx1,s,jr,jm,ZJ];exact fin
    |false=>
     simp only[xf c,b,m,jk,jp,jj,jm,ZJ];exact fin
end
section
variable {d:Int}{n:Nat}{ts:List Tk}
theorem zt2(g:TGood ts)(n:Nd):Sm d (ts.length - 1) (vG n ts) (q9o (n,⟨⟨ts,j⟩,d⟩)) A (λn st=>B (ndK n st)):=by
 show Sm d _ _ ((q2k (lit [40],⟨⟨ts,j⟩,d⟩)).bind _) _ _;rw[xf g,jj];have l:=g.tail_len;unfold vG;cases h1:isP [40] ts with
 |true=>
  simp only[jq,gh];exact(zhW g).bd (λe=>rfl) λv f _ c h =>.ok c Zd rfl
 |false=>
 simp only[jk,jp,zZ g,jj];cases h2:isP [91] ts with
 |true=>
  simp only[jq,gh];refine(X3 (g.is h2)).bd (λe=>rfl) λa f m c h=>?_
  show Sm d _ _ (((q19 (lit [93],⟨⟨f,j⟩,d⟩)).bind _).bind _) _ _;rw[gh];refine(ZM c [93]).bd (λe=>rfl) λ_ t2 _ g2 l2=>?_
  show Sm d _ _ (((q19 (lit [61],⟨⟨t2,j⟩,d⟩)).bind _).bind _) _ _;rw[gh];refine(ZM g2 [61]).bd (λe=>rfl) λ_ t3 _ k p=>?_
  show Sm d _ _ (((q2s ⟨⟨t3,j⟩,d⟩).bind _).bind _) _ _;rw[gh];refine(X3 k).bd (λe=>rfl) λb t4 q i r =>.ok i Zd ?_
  simp only[jm,jo,jj,zm];rfl
 |false=>
 simp only[jk,jp,jj,jm];refine(ZM g [61]).bd (λe=>rfl) λ_ f _ c h=>?_
 refine(zw1 c).bd (λe=>rfl) λa t2 _ g2 l2 =>.ok g2 Zd ?_
 simp only[jm,zm];rfl
def zgM(d:Int)(h:PSt->Uv ((Int×Int)×PSt⊕(Int×Ut×Int×Int)×PSt×Sl Nd))(blk:List Tk->PR Nd):Prop:=∀ts,TGood ts->Sm d (ts.length - 1) (blk ts) (h ⟨⟨ts,j⟩,d⟩) A (λn st=>B (ndK n st))
variable {h:PSt->Uv ((Int×Int)×PSt⊕(Int×Ut×Int×Int)×PSt×Sl Nd)}{blk:List Tk->PR Nd}
theorem zcx{ts c:List Tk}{n:Nd}(h:YI ts = .ok (n,c)):∃a b,n.K_=⟨[a,b],j⟩:=by
 obtain⟨a,t,_,h⟩:=bd_ok h;obtain⟨op,t2,_,h⟩:=bd_ok h;obtain⟨b,t3,_,h⟩:=bd_ok h;grind
theorem ziL(hb:zgM d h blk)(g:TGood ts)(k a:Int):Sm d (ts.length - 1) (wS blk k a ts) (q4a h (k,a,⟨⟨ts,j⟩,d⟩)) A (λn st=>B (ndK n st)):=by
 show Sm d _ _ ((q58 ⟨⟨ts,j⟩,d⟩).bind _) _ _;refine(zhX g).bd (λe=>rfl) λn f l c p=>?_
 refine(hb f c).bd (λe=>rfl) λb t2 m g2 l2 =>.ok g2 Zd ?_
 obtain⟨x,y,i⟩:=zcx l;simp only[jm,ndK,ndT,i,zm];rw[V4 je];rfl
theorem zdS{ts d:List Tk}{n:Nd}{a:Int}(h:wS blk k a ts = .ok (n,d)):∃a b c,n.K_=⟨[a,b,c],j⟩:=by
 obtain⟨m,t,e,h⟩:=bd_ok h;obtain⟨b,t2,_,h⟩:=bd_ok h;obtain⟨x,y,f⟩:=zcx e;grind
theorem zcy(x:Nd×Int):q8s x=o (⟨x.1.k_,x.1.T_,x.1.n_,x.2,x.1.K_⟩,x.2):=rfl
set_option maxHeartbeats 1000000 in
theorem zw2(hb:zgM d h blk)(g:TGood ts):Sm d (ts.length - 1) (YZ blk ts) (q44 h ⟨⟨ts,j⟩,d⟩) A (λn st=>B (n,st)):=by
 show Sm d _ _ ((q14 ⟨⟨ts,j⟩,d⟩).bind _) _ _;rw[ZL g,jj,zZ g,jj];have G:=g.tail_len;unfold YZ;cases h1:isP [102,114,101,101] ts with
 |true=>
  simp only[jq,gh];refine(ZT (g.is h1)).bd (λe=>rfl) λn f _ c k=>?_
  refine Sm.mono (n:=f.length - 1) ?_ Zd;simp only[jm,zcy,jj,gh,ndT];exact Sm.map (vH c ⟨12,n.T_,n.n_,(hd ts).a_,nilS⟩) (λe=>rfl) λa t2 i g2=>by
   simp only[jm,jo,jj,zm]
 |false=>
 simp only[jk,jp,zZ g,jj];cases h2:isP [108,111,99,107] ts with
 |true=>
  simp only[jq,gh];refine(zvj (g.is h2) 13).bd (λe=>rfl) λn f _ c k=>?_
  refine Sm.mono (n:=f.length - 1) ?_ Zd;simp only[jm,zcy,jj,gh,ndT];exact Sm.map (vH c ⟨n.k_,n.T_,n.n_,(hd ts).a_,nilS⟩) (λe=>rfl) λa t2 i g2=>by
   simp only[jm,jo,jj,zm]
 |false=>
 simp only[jk,jp,zZ g,jj];cases w:isP [117,110,108,111,99,107] ts with
 |true=>
  simp only[jq,gh];refine(zvj (g.is w) 14).bd (λe=>rfl) λn f _ c k=>?_
  refine Sm.mono (n:=f.length - 1) ?_ Zd;simp only[jm,zcy,jj,gh,ndT];exact Sm.map (vH c ⟨n.k_,n.T_,n.n_,(hd ts).a_,nilS⟩) (λe=>rfl) λa t2 i g2=>by
   simp only[jm,jo,jj,zm]
 |false=>
 simp only[jk,jp,zZ g,jj];cases t:isP [105,102] ts with
 |true=>
  simp only[jq,gh];refine(ziL hb (g.is t) 15 (hd ts).a_).bd (λe=>rfl) λn f l c k=>?_
  obtain⟨x,y,z,u⟩:=zdS l;simp only[jm,ndK,ndT,u,zZ c,jj,gh];cases p:isP [101,108,115,101] f with
  |true=>
   have:=c.tail_len;simp only[jq,gh];refine(hb f.tail (c.is p)).bd (λe=>rfl) λb t2 _ g2 l2 =>.ok g2 Zd ?_
   simp only[jm,ndK,ndT,zm];rw[V4 je];rfl
  |false=>
   simp only[jk,jp];rw[V4 je];exact .ok c Zd rfl
 |false=>
 simp only[jk,jp,zZ g,jj];cases p:isP [119,104,105,108,101] ts with
 |true=>
  simp only[jq,gh];refine Sm.mono (n:=ts.tail.length - 1) ?_ Zd;exact Sm.map (ziL hb (g.is p) 16 (hd ts).a_) (λe=>rfl) λa f i c=>by
   simp only[jm,jo,jj,ndK,ndT,zm]
 |false=>
 simp only[jk,jp,zZ g,jj];cases v:isP [114,101,116,117,114,110] ts with
 |true=>
  have c:=g.is v;simp only[jq,xf c,jj,gh];cases s:isP [59] ts.tail with
  |true=>
   simp only[Dg,jk,jp,jq,jj,jm];refine Sm.mono (n:=ts.tail.length - 1) ?_ Zd;show Sm d _ _ (((q7a (_,⟨⟨ts.tail,j⟩,d⟩)).bind _).bind _) _ _;rw[gh];exact Sm.map (vH c ⟨17,lit [],0,(hd ts).a_,nilS⟩) (λe=>rfl) λa f i c=>by
    simp only[jm,jo,jj,zm]
  |false=>
   simp only[Dy,jk,jp,jq,gh];refine(X3 c).bd (λe=>rfl) λa f i g2 l2=>?_
   simp only[jm,jj,gh,zm];refine Sm.mono (n:=f.length - 1) ?_ Zd;exact Sm.map (vH g2 ⟨17,lit [],0,(hd ts).a_,⟨[a],j⟩⟩) (λe=>rfl) λb t2 q r=>by
    simp only[jm,jo,jj,zm]
 |false=>
 simp only[jk,jp,zZ g,jj];cases s:isP [97,98,111,114,116] ts with
 |true=>
  have c:=g.is s;simp only[jq,gh];refine Sm.mono (n:=ts.tail.length - 1) ?_ Zd;exact Sm.map (vH c ⟨18,lit [],0,(hd ts).a_,nilS⟩) (λe=>rfl) λa t2 i g2=>by
   simp only[jm,jo,jj,zm]
 |false=>
 simp only[jk,jp,zZ g,jj];cases F:isP [102,111,114,107] ts with
 |true=>
  simp only[jq,gh];refine(ZT (g.is F)).bd (λe=>rfl) λn f _ c k=>?_
  simp only[jm,gh];refine(zhW c).bd (λe=>rfl) λks t2 _ g2 l2=>?_
  simp only[jm,zcy,jj,gh,ndT];refine Sm.mono (n:=t2.length - 1) ?_ Zd;exact Sm.map (vH g2 ⟨19,n.T_,n.n_,(hd ts).a_,ks⟩) (λe=>rfl) λb t2 q r=>by
   simp only[jm,jo,jj,zm]
 |false=>
 simp only[jk,jp,jj,jm,gh];refine(ZT g).bd (λe=>rfl) λn f l c k=>?_
 simp only[jm,gh];rw[show q8.mk (ndT n).1 (ndT n).2.1 (ndT n).2.2.1 (ndT n).2.2.2 (D [] C)=n from XM (zP l)];refine(zt2 c n).bd (λe=>rfl) λm t2 _ g2 l2=>?_
 simp only[jm,gh,ndK,ndT,zm];refine Sm.mono (n:=t2.length - 1) ?_ Zd;exact Sm.map (vH g2 m) (λe=>rfl) λb t2 q r=>by
  grind
end
section
variable {d:Int}{n:Nat}{ts:List Tk}
variable {h:PSt->Uv ((Int×Int)×PSt⊕(Int×Ut×Int×Int)×PSt×Sl Nd)}{blk:List Tk->PR Nd}
theorem zvk{acc:List Nd}{a:Nd}(h:acc.length<=30000):zo 64 (mkS acc) [a]=o (mkS (acc++[a])):=by
 rw[yy (by simp[mkS];omega) (by simp[mkS];omega)];simp[mkS]
noncomputable abbrev zh0(h:PSt->Uv ((Int×Int)×PSt⊕(Int×Ut×Int×Int)×PSt×Sl Nd)):=qf3 q14 q2k q1y q19 q11 (q44 h)
theorem zgN (hb:zgM d h blk) {u v:Int×Ut×Int×Int}:∀(k:Nat) (ts:List Tk) (acc:List Nd),TGood ts->ts.length<=k->acc.length+ts.length<=30000->
    Sm d (ts.length - 1) (xG (YZ blk) k acc ts) (lpO (zh0 h) (⟨⟨ts,j⟩,d⟩,u,v,mkS acc)) A (λl st=>B (st,u,v,mkS l))/\∀l b,xG (YZ blk) k acc ts = .ok (l,b)->l.length+b.length<=acc.length+ts.length
 |0,ts,acc,g,hk,ha=>absurd (UJ Zd) g.ne
 |k+1,ts,acc,g,hk,ha=>by
  have m:=g.tail_len;rw[Zu];show Sm d _ (if isP [125] ts=j then _ else _) ((((q11 (lit [125],⟨⟨ts,j⟩,d⟩)).bind _)).bind _) _ _/\∀l b,(if isP [125] ts=j then _ else _)=_->_
  rw[zZ g,jj];cases e:isP [125] ts with
  |true=>
   simp only[jq,Dg,jk,jp];exact⟨.ok (g.is e) Zd rfl,λl b e=>by cases e;omega⟩
  |false=>
   simp only[jk,jp,Dy,jq];have s:=zw2 hb g;cases es:YZ blk ts with
   |error er=>
    obtain⟨st,s⟩:=s.err es;rw[s];exact⟨⟨st,rfl⟩,λl b e=>by cases e⟩
   |ok p=>
    obtain⟨a,b⟩:=p;obtain⟨s,i,n⟩:=s.out es;rw[s];simp only[jj,jm,zm];rw[zvk Zd];simp only[jj];have c:=zgN hb (u:=u) (v:=v) k b (acc++[a]) i Zd ji;exact⟨c.1.mono Zd,λl t2 f=>by have:=c.2 l t2 f;grind⟩
theorem zlB:∀(r:Nat) (k:Nat) (d:Int),d=8 - (r:Int)->0<=d->r+1<=k->zgM d (q3u k) (yi r)
 |r,0,d,_,_,hk=>Zd
 |0,k+1,d,hd',h0,hk=>by
  intro ts g;show Sm d _ _ ((q14 ⟨⟨ts,j⟩,d⟩).bind _) _ _;rw[ZL g,jj,xf g,jj];unfold yi;cases e:isP [123] ts with
  |true=>
   have:decide (8<=d)=true:=gm Zd;simp only[jq,jj,this,Vu g];exact⟨_,rfl⟩
  |false=>
   simp only[jk,jp,jj];have x:zY [123] ts = .error ((hd ts).a_,20):=by unfold zY;rw[e];rfl
   obtain⟨st,s⟩:=(ZM (d:=d) g [123]).err x;rw[s];exact⟨st,rfl⟩
 |r+1,k+1,d,hd',h0,hk=>by
  intro ts g;show Sm d _ _ ((q14 ⟨⟨ts,j⟩,d⟩).bind _) _ _;rw[ZL g,jj,xf g,jj];unfold yi;have G:decide (8<=d)=false:=decide_eq_false Zd;have hb:=zlB r k (d+1) Zd Zd Zd;have y:Uw (d+1)=d+1:=zF Zd Zd;have f:Uw (d+1 - 1)=d:=by rw[zF Zd Zd];omega
  have q:=g.len
  have fin:Sm d (ts.length - 1) ((zY [123] ts).bd λ_ b=>(xG (YZ (yi r)) b.length [] b).bd λl t2 =>.ok (⟨9,lit [],0,(hd ts).a_,mkS l⟩,t2))
      ((q19 (lit [123],⟨⟨ts,j⟩,d⟩)).bind λt=>E (λz=>o (A z)) (λi=>(lpO (zh0 (q3u k)) (q7.mk i.Z_ (Uw (i.D_+1)),(0,lit [],0,0),(9,lit [],0,(hd ts).a_),D [] C)).bind λh=>
        E (λc=>o (A c)) (λa=>o (B (a.2.2.1,q7.mk a.1.Z_ (Uw (a.1.D_ - 1)),a.2.2.2))) h) t) A (λn st=>B (ndK n st)):=by
   refine(ZM g [123]).bd (λe=>rfl) λ_ b _ w F=>?_
   have m:=(zgN hb (u:=(0,lit [],0,0)) (v:=(9,lit [],0,(hd ts).a_)) b.length b [] w (UD _) ji).1;simp only[jm,y];show Sm d _ _ ((lpO (zh0 (q3u k)) (⟨⟨b,j⟩,d+1⟩,(0,lit [],0,0),(9,lit [],0,(hd ts).a_),mkS [])).bind _) _ _;cases es:xG (YZ (yi r)) b.length [] b with
   |error er=>obtain⟨st,s⟩:=m.err es;rw[s];exact⟨st,rfl⟩
   |ok p=>
    obtain⟨l,t2⟩:=p;obtain⟨s,g2,l2⟩:=m.out es;rw[s];simp only[jj,jm,f];exact .ok g2 Zd rfl
  cases e:isP [123] ts with
  |true=>
   grind
  |false=>
   grind
theorem zw3:zgM 0 qd9 (yi 8):=zlB 8 100000 0 Zd Zd Zd
theorem zAl{xs l:List Nd}{b:Bool}(h:xs.length+l.length<=60000)(a:l≠[]):zo 64 (⟨xs,b⟩:Sl Nd) l=o ⟨xs++l,j⟩:=by
 rw[yy ji ji];grind
theorem zAm(g:TGood ts)(c:Int):Sm 0 (ts.length - 1) (fnP c ts) (qc3 (c,⟨⟨ts,j⟩,0⟩)) A (λn st=>B (ndK n st)):=by
 have s:=g.len;show Sm 0 _ _ ((q1d ⟨⟨ts,j⟩,0⟩).bind _) _ _;refine(ZT g).bd (λe=>rfl) λn I _ u R=>?_
 refine(ZM u [40]).bd (λe=>rfl) λ_ t2 _ g2 l2=>?_
 simp only[jm,xf g2,jj];have h2:=g2.tail_len;refine Sm.bd (er:=A) (ok:=λ(l:List Nd) (st:PSt)=>B (st,(0,lit [],0,0),(6,n.T_,n.n_,c),(mkS l:Sl Nd))) (n:=t2.length) ?_ (λe=>rfl) λks t3 p r N=>?_
 ·cases e:isP [41] t2 with
  |true=>exact .ok g2 (UD _) rfl
  |false=>
   simp only[jk,jp,Dy,jq];refine Sm.mono (n:=t2.length - 1) ?_ Zd;obtain⟨F,L⟩:=zc4 (d:=0) g2;refine Sm.map F (λe=>rfl) λl t3 y r=>?_
   have w:l≠[]:=by
    obtain⟨a,t,_,x⟩:=bd_ok y;have:∀(k:Nat) (acc:List Nd) (t:List Tk) (l:List Nd) (t3:List Tk),acc≠[]->Zt xF k acc t = .ok (l,t3)->l≠[]:=by
     intro k
     induction k with
     |zero=>intro acc t l t3 q e;cases e;exact q
     |succ k P=>
      intro acc t l t3 q e;unfold Zt at e;split at e
      ·obtain⟨a,G,_,e⟩:=bd_ok e;grind
      grind
    grind
   cases l with
   |nil=>grind
   |cons a l=>rfl
 have v:ks.length<=20001:=by
  have i:=g2.len;split at p
  ·cases p;simp
  ·have:=(zc4 (d:=0) g2).2 ks t3 p;omega
 refine(ZM r [41]).bd (λe=>rfl) λ_ t4 _ f S=>?_
 simp only[jm,zZ f,jj];have M:=f.tail_len;refine Sm.bd (er:=A) (ok:=λ(m:Nd) (st:PSt)=>B (st,(0,lit [],0,0),(6,n.T_,n.n_,c),m,(mkS ks:Sl Nd))) (n:=t4.length) ?_ (λe=>rfl) λret t5 Q h K=>?_
 ·cases e:isP [45,62] t4 with
  |true=>
   have h:=f.is e;simp only[jq,xf h,jj];cases x:isP [38] t4.tail with
   |true=>simp only[jq,Vu h,jj];exact⟨_,rfl⟩
   |false=>
    simp only[jk,jp];refine Sm.mono (n:=t4.tail.length - 1) ?_ Zd;exact Sm.map (znr h) (λe=>rfl) λa t _ _=>by simp only[jo,zm]
  |false=>
   simp only[jk,jp,ZL f,jj];exact .ok f (UD _) rfl
 refine(zw3 t5 h).bd (λe=>rfl) λb H _ z O =>.ok z Zd ?_
 simp only[jm,ndK,ndT,zm,mkS];rw[zAl ji je];rfl
end
section
mutual
def zl:Nd->Nat
 |⟨_,_,_,_,ks⟩=>zvl ks+1
def zvl:Sl Nd->Nat
 |⟨xs,_⟩=>zd xs
def zd:List Nd->Nat
 |[]=>0
 |a::r=>zl a+zd r
end
theorem zk(n:Nd):zl n=zd n.K_.xs+1:=by
 obtain⟨a,b,c,d,⟨xs,nn⟩⟩:=n;simp[zl,zvl]
theorem zN:∀(a b:List Nd),zd (a++b)=zd a+zd b
 |[],b=>by simp[zd]
 |x::a,b=>by simp[zd,zN a b];omega
theorem zO{ts:List Tk}(h:isP s ts=j):ts.tail.length+1=ts.length:=by
 cases ts with
 |nil=>exact absurd rfl (zfH h)
 |cons=>simp
theorem Zq{ts a:List Tk}{u:Unit}(h:zY s ts = .ok (u,a)):a.length+1=ts.length:=by
 unfold zY at h;split at h
 ·rename_i h1;cases h;exact zO h1
 ·cases h
theorem ziM(b:k≠0){ts a:List Tk}{t:Tk}(h:wD k ts = .ok (t,a)):a.length+1=ts.length:=by
 unfold wD at h;split at h
 ·rename_i h1;cases h;cases ts with
  |nil=>exact absurd h1.symm b
  |cons=>simp
 ·cases h
theorem Xj{c:Int}{ts b:List Tk}{v:Int}(h:Yt c ts = .ok (v,b)):b.length+1=ts.length:=by
 obtain⟨a,t,e,h⟩:=bd_ok h;cases h;exact ziM Zd e
def Sz(p:List Tk->PR Nd):Prop:=∀ts n a,p ts = .ok (n,a)->zl n+3 * a.length<=3 * ts.length/\a.length+1<=ts.length
def SzL(p:List Tk->PR (List Nd)):Prop:=∀ts n a,p ts = .ok (n,a)->zd n+3 * a.length<=3 * ts.length/\a.length+1<=ts.length
theorem ZP{ts b:List Tk}{n:Nd}(h:Zc ts = .ok (n,b)):zl n=1/\b.length+1=ts.length:=by
 obtain⟨a,t,e,h⟩:=bd_ok h;cases h;exact⟨by simp[zk,zd],ziM Zd e⟩
theorem zlC{ts b:List Tk}{n m:Nd}(h:xW n ts = .ok (m,b)):zl m=zl n/\b.length<=ts.length:=by
 unfold xW at h;split at h
 ·rename_i hp;obtain⟨a,t,e,h⟩:=bd_ok h;cases h;have:=Xj e;have:=zO hp;exact⟨by simp[zk,Nd.num],Zd⟩
 ·split at h
  ·rename_i hp;obtain⟨a,t,e,h⟩:=bd_ok h;cases h;have:=Xj e;have:=zO hp;exact⟨by simp[zk,Nd.num],Zd⟩
  grind
theorem wM{ts b:List Tk}{n:Nd}(h:Z4 ts = .ok (n,b)):zl n=1/\b.length+1<=ts.length:=by
 unfold Z4 at h;split at h
 ·obtain⟨a,t,e,h⟩:=bd_ok h;cases h;have:=Xj e;exact⟨by simp[zk,zd],Zd⟩
 ·split at h
  ·rename_i hp;obtain⟨a,t,e,h⟩:=bd_ok h;cases h;have:=Xj e;have:=zO hp;exact⟨by simp[zk,zd],Zd⟩
  ·obtain⟨a,t,e,h⟩:=bd_ok h;have h1:=ZP e;have h2:=zlC h;grind
theorem zff{one:List Tk->PR Nd}(c:Sz one):∀(k:Nat) (acc:List Nd) (ts:List Tk) (l:List Nd) (b:List Tk),Zt one k acc ts = .ok (l,b)->zd l+3 * b.length<=zd acc+3 * ts.length/\b.length<=ts.length
 |0,acc,ts,l,b,h=>by cases h;grind
 |k+1,acc,ts,l,b,h=>by
  unfold Zt at h;split at h
  ·rename_i hp;obtain⟨a,t,e,h⟩:=bd_ok h;have h1:=c _ _ _ e;have h2:=zff c k _ _ _ _ h;have d:=zO hp;rw[zN] at h2;simp only[zd] at h2;omega
  grind
theorem zcz{one:List Tk->PR Nd}(b:Sz one):SzL (yc one):=by
 intro ts l c h;obtain⟨a,t,e,h⟩:=bd_ok h;have h1:=b _ _ _ e;have h2:=zff b _ _ _ _ _ h;simp only[zd] at h2;omega
theorem zlD:Sz Z4:=λts n a h=>by have:=wM h;omega
theorem zfI{ts a:List Tk}{ks:Sl Nd}(h:zav ts = .ok (ks,a)):zd ks.xs+3 * a.length+3<=3 * ts.length/\a.length+1<=ts.length:=by
 obtain⟨u,t,e,h⟩:=bd_ok h;have h0:=Zq e;split at h
 ·rename_i hp;have:=zO hp;cases h;simp[zd];omega
 ·obtain⟨l,t2,b,h⟩:=bd_ok h;obtain⟨u,t3,c,h⟩:=bd_ok h;cases h;have h1:=zcz zlD _ _ _ b;have h2:=Zq c;grind
theorem zdT:Sz xE:=λts n d h=>by
 obtain⟨a,t,e,h⟩:=bd_ok h;have h0:=ZP e;split at h
 ·rename_i hp;have:=zO hp;obtain⟨k,t2,b,h⟩:=bd_ok h;obtain⟨u,t3,c,h⟩:=bd_ok h;cases h;have h1:=ZP b;have h2:=Zq c;simp only[zk,zd] at h1 |-;omega
 ·cases h;simp only[zk,zd];omega
theorem zt3{ts a:List Tk}{s:Ut}(h:zcv ts = .ok (s,a)):a.length+1=ts.length:=by
 unfold zcv at h;split at h
 ·rename_i hp;cases h;exact zO hp
 ·split at h
  ·rename_i hp;cases h;exact zO hp
  ·split at h
   ·rename_i hp;cases h;exact zO hp
   ·cases h
theorem zlE:Sz YI:=λts n f h=>by
 obtain⟨a,t,e,h⟩:=bd_ok h;obtain⟨op,t2,c,h⟩:=bd_ok h;obtain⟨b,t3,d,h⟩:=bd_ok h;cases h;have h0:=wM e;have h1:=zt3 c;have h2:=wM d;simp only[zk,zd] at h0 h2 |-;omega
theorem zt4:Sz vm:=λts n f h=>by
 have go:∀{w:List UInt8} {a b:Ut} {c d:Int},isP w ts=j->((Zc ts.tail).bd λk f=>(.ok (⟨2,a,c,d,⟨[k],j⟩⟩,f):PR Nd)) = .ok (n,f)->zl n+3 * f.length<=3 * ts.length/\f.length+1<=ts.length:=by
  intro w a b c d hp h;obtain⟨k,t,e,h⟩:=bd_ok h;cases h;have h0:=ZP e;have:=zO hp;simp only[zk,zd] at h0 |-;omega
 unfold vm at h;split at h
 ·rename_i hp;have:=zO hp;cases h;simp only[zk,zd];omega
 ·split at h
  ·rename_i hp;have:=zO hp;cases h;simp only[zk,zd];omega
  ·split at h
   ·rename_i hp;exact go (b:=lit []) hp h
   ·split at h
    ·rename_i hp;exact go (b:=lit []) hp h
    ·split at h
     ·rename_i hp;exact go (b:=lit []) hp h
     ·cases h
theorem zw4(a:Int):Sz (zdQ a):=λts n y h=>by
 obtain⟨m,t,e,h⟩:=bd_ok h;obtain⟨s,t2,k,h⟩:=bd_ok h;obtain⟨ks,t3,d,h⟩:=bd_ok h;obtain⟨c,t4,g,h⟩:=bd_ok h;obtain⟨u,t5,i,h⟩:=bd_ok h;cases h;have h0:=ZP e;have h1:=zt4 _ _ _ k;have z:=Zq i;have r:zd ks+3 * t3.length<=zl s+3 * t2.length:=by
  split at d
  ·rename_i hp;obtain⟨l,p,f,b⟩:=bd_ok d;obtain⟨u,x,b,v⟩:=bd_ok b;cases v;have:=zO hp;have q:=zcz zdT _ _ _ f;have:=Zq b;simp only[List.cons_append,Dh,zd];omega
  ·cases d;simp only[zd];omega
 have w:zd c+3 * t4.length<=zd ks+3 * t3.length:=by
  split at g
  ·rename_i hp;obtain⟨l,p,f,b⟩:=bd_ok g;cases b;have:=zO hp;have q:=zcz zlE _ _ _ f;rw[zN];omega
  grind
 simp only[zk] at h1 r |-;omega
theorem zlF:Sz Wu:=λts n b h=>by
 have go:∀{t0:List Tk} {a:Ut} {c d:Int},t0.length+1<=ts.length->((Zc t0).bd λk b=>(.ok (⟨8,a,c,d,⟨[k],j⟩⟩,b):PR Nd)) = .ok (n,b)->zl n+3 * b.length<=3 * ts.length/\b.length+1<=ts.length:=by
  intro t0 a c d hp h;obtain⟨k,t,e,h⟩:=bd_ok h;cases h;have h0:=ZP e;simp only[zk,zd] at h0 |-;omega
 unfold Wu at h;split at h
 ·rename_i hp;have:=zO hp;cases h;simp only[zk,zd];omega
 ·split at h
  ·rename_i hp;exact go (by have:=zO hp;omega) h
  ·obtain⟨u,t,e,h⟩:=bd_ok h;have:=Zq e;split at h
   ·rename_i hp;exact go jE h
   ·exact go Zd h
theorem zrK:Sz xF:=λts n c h=>by
 obtain⟨m,t,e,h⟩:=bd_ok h;obtain⟨s,t2,a,h⟩:=bd_ok h;obtain⟨k,t3,b,h⟩:=bd_ok h;cases h;have h0:=ZP e;have h1:=Zq a;have h2:=zlF _ _ _ b;simp only[zk,zd] at h2 |-;omega
theorem zrL{ts a:List Tk}{n:Nd}(h:atP k ts = .ok (n,a)):zl n=1/\a.length+1<=ts.length:=by
 obtain⟨m,t,e,h⟩:=bd_ok h;obtain⟨s,t2,b,h⟩:=bd_ok h;obtain⟨v,t3,c,h⟩:=bd_ok h;obtain⟨u,t4,d,h⟩:=bd_ok h;cases h;have h0:=ZP e;have h1:=Zq b;have h2:=Xj c;have f:=Zq d;exact⟨by simp[zk,zd],Zd⟩
theorem zt5:Sz v8:=λts n f h=>by
 unfold v8 at h;split at h
 ·rename_i hp;obtain⟨a,t,e,h⟩:=bd_ok h;cases h;have:=zO hp;have:=Xj e;simp only[zk,zd];omega
 split at h
 ·rename_i hp;obtain⟨a,t,e,h⟩:=bd_ok h;cases h;have:=zO hp;have:=ZP e;simp only[zk,zd];omega
 split at h
 ·rename_i hp;have:=zO hp;split at h
  ·rename_i c;obtain⟨a,t,e,h⟩:=bd_ok h;cases h;have:=zO c;have:=ZP e;simp only[zk,zd];omega
  ·obtain⟨a,t,e,h⟩:=bd_ok h;cases h;have:=ZP e;simp only[zk,zd];omega
 split at h
 ·exact zlD _ _ _ h
 obtain⟨m,t,e,h⟩:=bd_ok h;have h0:=ZP e;split at h
 ·obtain⟨ks,t2,b,h⟩:=bd_ok h;cases h;have:=zfI b;simp only[zk];omega
 split at h
 ·rename_i hp;obtain⟨a,t2,b,h⟩:=bd_ok h;obtain⟨u,t3,d,h⟩:=bd_ok h;cases h;have:=zO hp;have h1:=wM b;have:=Zq d;simp only[zk,zd] at h1 |-;omega
 split at h
 ·rename_i hp;obtain⟨a,t2,b,h⟩:=bd_ok h;cases h;have:=zO hp.1;have h1:=ZP b;simp only[zk,zd] at h0 h1 |-;omega
 split at h
 ·rename_i hp;obtain⟨a,t2,b,h⟩:=bd_ok h;cases h;have:=zO hp.1;have h1:=ZP b;simp only[zk,zd] at h0 h1 |-;omega
 ·have:=zlC h;omega
theorem zrM{m n:Nd}{ts e:List Tk}(h:vG m ts = .ok (n,e)):zl n+3 * e.length<=3 * ts.length+2/\e.length+1<=ts.length:=by
 unfold vG at h;split at h
 ·obtain⟨ks,t2,d,h⟩:=bd_ok h;cases h;have:=zfI d;simp only[zk,zd];omega
 split at h
 ·rename_i hp;obtain⟨a,t2,d,h⟩:=bd_ok h;obtain⟨u,t3,g,h⟩:=bd_ok h;obtain⟨u,t4,f,h⟩:=bd_ok h;obtain⟨b,t5,c,h⟩:=bd_ok h;cases h;have:=zO hp;have h1:=wM d;have:=Zq g;have:=Zq f;have h2:=wM c;simp only[zk,zd] at h1 h2 |-;omega
 ·obtain⟨u,t4,f,h⟩:=bd_ok h;obtain⟨b,t5,c,h⟩:=bd_ok h;cases h;have:=Zq f;have h2:=zt5 _ _ _ c;simp only[zk,zd] at h2 |-;omega
theorem wT{m n:Nd}{ts a:List Tk}(h:W8 m ts = .ok (n,a)):n=m/\a.length+1=ts.length:=by
 obtain⟨u,t,e,h⟩:=bd_ok h;cases h;exact⟨rfl,Zq e⟩
theorem zgO{blk:List Tk->PR Nd}(hb:Sz blk)(k a:Int):Sz (wS blk k a):=λts n d h=>by
 obtain⟨m,t,e,h⟩:=bd_ok h;obtain⟨b,t2,c,h⟩:=bd_ok h;cases h;have h0:=zlE _ _ _ e;have h1:=hb _ _ _ c;simp only[zk] at h0 h1 |-
 simp only[zN,zd,zk];omega
theorem zt6{blk:List Tk->PR Nd}(hb:Sz blk):Sz (YZ blk):=λts n f h=>by
 unfold YZ at h;split at h
 ·rename_i hp;obtain⟨a,t,e,h⟩:=bd_ok h;have:=zO hp;have:=ZP e;obtain⟨rfl,h2⟩:=wT h;simp only[zk,zd];omega
 split at h
 ·rename_i hp;obtain⟨a,t,e,h⟩:=bd_ok h;have:=zO hp;have:=zrL e;obtain⟨rfl,h2⟩:=wT h;simp only[zk,zd];omega
 split at h
 ·rename_i hp;obtain⟨a,t,e,h⟩:=bd_ok h;have:=zO hp;have:=zrL e;obtain⟨rfl,h2⟩:=wT h;simp only[zk,zd];omega
 split at h
 ·rename_i hp;obtain⟨a,t,e,h⟩:=bd_ok h;have:=zO hp;have h1:=zgO hb _ _ _ _ _ e;split at h
  ·rename_i d;obtain⟨b,t2,c,h⟩:=bd_ok h;cases h;have:=zO d;have h2:=hb _ _ _ c;simp only[zk] at h1 h2 |-
   simp only[zN,zd,zk];omega
  ·cases h;simp only[zk] at h1 |-
   simp only[zN,zd,zk];omega
 split at h
 ·rename_i hp;have:=zO hp;have h1:=zgO hb _ _ _ _ _ h;omega
 split at h
 ·rename_i hp;have:=zO hp;split at h
  ·obtain⟨rfl,h2⟩:=wT h;simp only[zk,zd];omega
  ·obtain⟨a,t,e,h⟩:=bd_ok h;have h1:=wM e;obtain⟨rfl,h2⟩:=wT h;simp only[zk,zd] at h1 |-;omega
 split at h
 ·rename_i hp;have:=zO hp;obtain⟨rfl,h2⟩:=wT h;simp only[zk,zd];omega
 split at h
 ·rename_i hp;obtain⟨a,t,e,h⟩:=bd_ok h;obtain⟨ks,t2,c,h⟩:=bd_ok h;have:=zO hp;have:=ZP e;have:=zfI c;obtain⟨rfl,h2⟩:=wT h;simp only[zk];omega
 ·obtain⟨a,t,e,h⟩:=bd_ok h;obtain⟨m,t2,c,h⟩:=bd_ok h;have:=ZP e;have:=zrM c;obtain⟨rfl,h2⟩:=wT h;omega
theorem ziN{one:List Tk->PR Nd}(c:Sz one):∀(k:Nat) (acc:List Nd) (ts:List Tk) (l:List Nd) (b:List Tk),xG one k acc ts = .ok (l,b)->zd l+3 * b.length+3<=zd acc+3 * ts.length/\b.length+1<=ts.length
 |0,acc,ts,l,b,h=>by cases h
 |k+1,acc,ts,l,b,h=>by
  unfold xG at h;split at h
  ·rename_i hp;have:=zO hp;cases h;omega
  ·obtain⟨a,t,e,h⟩:=bd_ok h;have h1:=c _ _ _ e;have h2:=ziN c k _ _ _ _ h;rw[zN] at h2;simp only[zd] at h2;omega
theorem ziO:∀r,Sz (yi r)
 |0=>λts n b h=>by unfold yi at h;split at h<;>cases h
 |r+1=>λts n b h=>by
  obtain⟨u,t,e,h⟩:=bd_ok (show((zY [123] ts).bd _)=_ from h);obtain⟨l,t2,a,h⟩:=bd_ok h;cases h;have:=Zq e;have:=ziN (zt6 (ziO r)) _ _ _ _ _ a;simp only[zk,mkS,zd] at this |-;omega
theorem zyK(a:Int):Sz (fnP a):=λts n p h=>by
 obtain⟨m,t,e,h⟩:=bd_ok h;obtain⟨u,t2,f,h⟩:=bd_ok h;obtain⟨ps,t3,d,h⟩:=bd_ok h;obtain⟨u,t4,l,h⟩:=bd_ok h;obtain⟨ret,t5,c,h⟩:=bd_ok h;obtain⟨b,q,k,h⟩:=bd_ok h;cases h;have:=ZP e;have:=Zq f;have:=Zq l;have g:=ziO _ _ _ _ k;have r:zd ps+3 * t3.length<=3 * t2.length:=by
  split at d
  ·cases d;simp only[zd];omega
  ·have:=zcz zrK _ _ _ d;omega
 have i:zl ret+3 * t5.length<=3 * t4.length+1:=by
  split at c
  ·rename_i hp;have:=zO hp;split at c
   ·cases c
   ·have:=zlF _ _ _ c;omega
  ·cases c;simp only[zk,zd];omega
 simp only[zk] at i g |-
 simp only[zN,zd,zk];omega
theorem zaw:∀(k:Nat) (acc:List Nd) (ts:List Tk) (l:List Nd) (b:List Tk),YD k acc ts = .ok (l,b)->zd l+3 * b.length<=zd acc+3 * ts.length
 |0,acc,ts,l,b,h=>by cases h
 |k+1,acc,ts,l,b,h=>by
  unfold YD at h;split at h
  ·cases h;omega
  split at h
  ·rename_i hp;obtain⟨a,t,e,h⟩:=bd_ok h;have:=zO hp;have h1:=zyK _ _ _ _ e;have h2:=zaw k _ _ _ _ h;rw[zN] at h2;simp only[zd] at h2;omega
  ·obtain⟨u,t,e,h⟩:=bd_ok h;obtain⟨a,t2,c,h⟩:=bd_ok h;have:=Zq e;have h1:=zw4 _ _ _ _ c;have h2:=zaw k _ _ _ _ h;rw[zN] at h2;simp only[zd] at h2;omega
theorem z7(n:Nd):1<=zl n:=by rw[zk];omega
theorem zfg{xs:List Nd}{i:Nat}(h:i < xs.length):zd (xs.take (i+1))=zd (xs.take i)+zl xs[i]:=by
 rw[List.take_succ_eq_append_getElem h,zN];simp[zd]
theorem zbr(xs:List Nd)(i:Nat):zd (xs.take i)<=zd xs:=by
 have:=zN (xs.take i) (xs.drop i);rw[List.take_append_drop] at this;omega
theorem zns:∀(k:Nat) (n:Nd),zl n<=k->zl n<=1000000000->q6c k n=o (zl n:Int)
 |0,n,h,_=>by have:=z7 n;omega
 |k+1,n,h,hb=>by
  obtain⟨a,b,c,d,⟨xs,nn⟩⟩:=n;show((lpO (qda (q6c k)) (1,(⟨xs,nn⟩:Sl Nd),Sl.len (⟨xs,nn⟩:Sl Nd),0)).bind λs=>o s)=_;have hs:zl ⟨a,b,c,d,⟨xs,nn⟩⟩=zd xs+1:=by rw[zk]
  have loop:∀(m i:Nat),i+m=xs.length->lpO (qda (q6c k)) (((1+zd (xs.take i):Nat):Int),(⟨xs,nn⟩:Sl Nd),Sl.len (⟨xs,nn⟩:Sl Nd),(i:Int))=o ((1+zd xs:Nat):Int):=by
   intro m
   induction m with
   |zero=>
    intro i hi;rw[Zu];have q:qda (q6c k) (((1+zd (xs.take i):Nat):Int),(⟨xs,nn⟩:Sl Nd),Sl.len (⟨xs,nn⟩:Sl Nd),(i:Int))=o (.done ((1+zd (xs.take i):Nat):Int)):=by
     show(if decide ((i:Int) < (xs.length:Int))=j then _ else _)=_;grind
    grind
   |succ m p=>
    intro i hi;have e:i < xs.length:=Zd
    rw[Zu];have g:za (⟨xs,nn⟩:Sl Nd) (i:Int)=o xs[i]:=by
     unfold za;rw[jv Zd];simp[e]
    have h1:=zfg e;have h2:=zbr xs (i+1);have f:q6c k xs[i]=o (zl xs[i]:Int):=zns k xs[i] Zd Zd;have l:xs.length<=zd xs:=by
     clear f h1 h2 g p hs hb h e hi
     induction xs with
     |nil=>simp
     |cons x r p=>have:=z7 x;simp only[zd,jz];omega
    have q:qda (q6c k) (((1+zd (xs.take i):Nat):Int),(⟨xs,nn⟩:Sl Nd),Sl.len (⟨xs,nn⟩:Sl Nd),(i:Int))=o (.next (((1+zd (xs.take (i+1)):Nat):Int),(⟨xs,nn⟩:Sl Nd),Sl.len (⟨xs,nn⟩:Sl Nd),((i+1:Nat):Int))):=by
     show(if decide ((i:Int) < (xs.length:Int))=j then(za (⟨xs,nn⟩:Sl Nd) (i:Int)).bind _ else _)=_;rw[jv ji,g];simp only[jj,zm,f];rw[zF Zd Zd,zF Zd Zd,h1];have t:((1+zd (xs.take i):Nat):Int)+(zl xs[i]:Int)=((1+(zd (xs.take i)+zl xs[i]):Nat):Int):=Zd
     grind
    grind
  have:=loop xs.length 0 Zd;simp only[List.take_zero,zd,UY] at this;grind
theorem zw5{l:List UInt8}{n:Nat}{v:Int}(h:nxt l = .tok k n v):(0<=v/\v<=1099511627776)/\k≠0:=by
 cases l with
 |nil=>cases h
 |cons c r=>
  unfold nxt at h;simp only at h;split at h
  ·cases h
  split at h
  ·cases h
  split at h
  ·unfold XY at h;split at h
   ·cases h
   ·rename_i hb;cases h;unfold vF at hb;grind
  split at h
  ·unfold xC at h;grind
  ·unfold xD at h;grind
theorem zw6{l:List UInt8}{e:Int}(h:nxt l = .err e):e≠0:=by
 cases l with
 |nil=>cases h;omega
 |cons c r=>
  unfold nxt at h;simp only at h;split at h
  ·cases h
  split at h
  ·cases h
  split at h
  ·unfold XY at h;grind
  split at h
  ·unfold xC at h;grind
  ·unfold xD at h;grind
theorem zfJ:∀(f a:Nat) (l:List UInt8) (ts:List Tk),Ws f a l = .inr ts->∀t∈ts,(0<=t.n_/\t.n_<=1099511627776)/\t.k_≠0
 |0,a,l,ts,h=>by cases h;simp
 |f+1,a,l,ts,h=>by
  unfold Ws at h;split at h
  ·cases h;simp
  split at h
  ·exact zfJ f _ _ ts h
  ·cases h
  ·rename_i k n v e;split at h
   ·cases h
   ·rename_i d c;cases h;intro t b;rcases UU.1 b with rfl | b
    ·exact zw5 e
    ·exact zfJ f _ _ d c t b
theorem zdU{s:Ut}(h:(Z2 s).2.1=0):TGood (Z2 s).2.2.xs/\(Z2 s).2.2.nn=true:=by
 unfold Z2 at h |-
 by_cases hs:16384 < s.size
 ·grind
 ·rw[jx hs] at h |-
  cases e:W5 0 (bs s) with
  |inl x=>
   rw[e] at h;exfalso;have:∀(f a:Nat) (l:List UInt8) (x:Nat×Int),Ws f a l = .inl x->x.2≠0:=by
    intro f
    induction f with
    |zero=>intro a l x h;cases h
    |succ f g=>
     intro a l x h;unfold Ws at h;split at h
     ·cases h
     split at h
     ·grind
     ·rename_i e d;cases h;exact zw6 d
     grind
   exact this _ _ _ _ e h
  |inr ts=>
   have c:=V3 (bs s).length (bs s) 0 ts (UD _) e;rw[yh] at c;refine⟨⟨je,λ_=>je,ji,λt b=>?_⟩,rfl⟩;simp only[Ux,Dr] at b;rcases b with b | rfl
   ·exact(zfJ _ _ _ _ e t b).1
   ·simp
def vn:Nd:=⟨0,lit [],0,0,nilS⟩
def Xc(s:Ut):Nd×Int×Int:=if(Z2 s).2.1≠0 then(vn,(Z2 s).1,(Z2 s).2.1) else
 match YD (Z2 s).2.2.xs.length [] (Z2 s).2.2.xs with
 | .error e=>(vn,e.1,e.2)
 | .ok (ks,_)=>if 4096 < zd ks+1 then(vn,0,22) else(⟨0,lit [],0,0,mkS ks⟩,0,0)
noncomputable abbrev Zv:=q6q qd7 q14 q11 qc3 q19 qbg qdo qfh qcm
theorem zlG{acc:List Nd}{z a:Nd}(h:acc.length<=30000):∃b:Sl Nd,zo 64 (mkS acc) [z]=o b/\za b (Sl.len (mkS acc))=o z/\b.set (Sl.len (mkS acc)) a=mkS (acc++[a]):=by
 refine⟨_,zvk h,?_,?_⟩
 ·unfold za mkS Sl.len;grind
 ·unfold mkS Sl.len Sl.set;cases acc<;>simp
theorem zcA {a0 e0:Int}:∀(k:Nat) (ts:List Tk) (acc:List Nd),TGood ts->ts.length<=k->acc.length+ts.length<=30000->
    match YD k acc ts with
    | .error e=>∃st u v w,lpO Zv ((0,lit [],0,0),a0,e0,⟨⟨ts,j⟩,0⟩,mkS acc)=o (.inl (e,u,v,w,st))
    | .ok (l,_)=>lpO Zv ((0,lit [],0,0),a0,e0,⟨⟨ts,j⟩,0⟩,mkS acc)=o (.inr ((0,lit [],0,0),a0,e0,mkS l))
 |0,ts,acc,g,hk,ha=>absurd (UJ Zd) g.ne
 |k+1,ts,acc,g,hk,ha=>by
  have H:=g.tail_len;have key:∀z,Zv ((0,lit [],0,0),a0,e0,⟨⟨ts,j⟩,0⟩,mkS acc)=o z->lpO Zv ((0,lit [],0,0),a0,e0,⟨⟨ts,j⟩,0⟩,mkS acc)=(match z with | .next G=>lpO Zv G | .done y=>o y):=λz b=>by rw[Zu,b];grind
  unfold YD;by_cases h0:(hd ts).k_=0
  · rw [jv h0];have b:Zv ((0,lit [],0,0),a0,e0,⟨⟨ts,j⟩,0⟩,mkS acc)=o (.done (.inr ((0,lit [],0,0),a0,e0,mkS acc))):=by
      unfold Zv q6q;simp only[ZL g,jj,jl];grind
    exact key _ b
  · rw[jx h0];cases e:isP [102,110] ts with
    |true=>
     simp only[jq];have s:=zAm (g.is e) (hd ts).a_;cases es:fnP (hd ts).a_ ts.tail with
     |error er=>
      obtain⟨st,s⟩:=s.err es;have b:Zv ((0,lit [],0,0),a0,e0,⟨⟨ts,j⟩,0⟩,mkS acc)=o (.done (.inl (er,(0,lit [],0,0),a0,e0,mkS acc))):=by
       unfold Zv q6q;simp only[ZL g,jj,jl];rw[jv h0];simp only[zZ g,jj,e,jq,s,jo]
      exact⟨_,_,_,_,key _ b⟩
     |ok p=>
      obtain⟨a,c⟩:=p;obtain⟨s,i,x⟩:=s.out es;obtain⟨F,m,n,h⟩:=zlG (acc:=acc) (z:=⟨0,lit [],0,0,D [] C⟩) (a:=a) Zd;have b:Zv ((0,lit [],0,0),a0,e0,⟨⟨ts,j⟩,0⟩,mkS acc)=o (.next ((0,lit [],0,0),a0,e0,⟨⟨c,j⟩,0⟩,mkS (acc++[a]))):=by
       unfold Zv q6q;simp only[ZL g,jj,jl];rw[jv h0];simp only[zZ g,jj,e,jq,s,jm,m,n,ZJ,ndK,ndT,zm,h]
      have t:=zcA (a0:=a0) (e0:=e0) k c (acc++[a]) i Zd ji;rw[key _ b];exact t
    |false=>
     simp only[jk,jp];have q:=ZM (d:=0) g [116,121,112,101];cases r:zY [116,121,112,101] ts with
     |error er=>
      obtain⟨st,s⟩:=q.err r;have b:Zv ((0,lit [],0,0),a0,e0,⟨⟨ts,j⟩,0⟩,mkS acc)=o (.done (.inl (er,(0,lit [],0,0),a0,e0,mkS acc))):=by
       unfold Zv q6q;simp only[ZL g,jj,jl];rw[jv h0];simp only[zZ g,jj,e,jk,jp,s,jo]
      exact⟨_,_,_,_,key _ b⟩
     |ok p=>
      obtain⟨u,t0⟩:=p;obtain⟨s,g0,I⟩:=q.out r;have s1:=zyJ (d:=0) g0 (hd ts).a_;simp only[PR.bd];cases es:zdQ (hd ts).a_ t0 with
      |error er=>
       obtain⟨st,f⟩:=s1.err es;have b:Zv ((0,lit [],0,0),a0,e0,⟨⟨ts,j⟩,0⟩,mkS acc)=o (.done (.inl (er,(0,lit [],0,0),a0,e0,mkS acc))):=by
        unfold Zv q6q;simp only[ZL g,jj,jl];rw[jv h0];simp only[zZ g,jj,e,jk,jp,s,f,jm,jo]
       grind
      |ok p=>
       obtain⟨a,c⟩:=p;obtain⟨f,i,x⟩:=s1.out es;obtain⟨F,m,n,h⟩:=zlG (acc:=acc) (z:=⟨0,lit [],0,0,D [] C⟩) (a:=a) Zd;have b:Zv ((0,lit [],0,0),a0,e0,⟨⟨ts,j⟩,0⟩,mkS acc)=o (.next ((0,lit [],0,0),a0,e0,⟨⟨c,j⟩,0⟩,mkS (acc++[a]))):=by
        unfold Zv q6q;simp only[ZL g,jj,jl];rw[jv h0];simp only[zZ g,jj,e,jk,jp,s,f,jm,m,n,ZJ,ndK,ndT,zm,h]
       have t:=zcA (a0:=a0) (e0:=e0) k c (acc++[a]) i Zd ji;grind
theorem zfK(s:Ut):q6d s=o (Xc s):=by
 show((qd7 s).bind _)=_;rw[zrH,jj];unfold Xc;simp only[jl];by_cases h:(Z2 s).2.1=0
 case neg=>rw[jv h,jv h];rfl
 case pos=>
 rw[jx (by simpa using h),jx (by simpa using h)];obtain⟨g,c⟩:=zdU h;generalize i:(Z2 s).2.2=X at g c;obtain⟨ts,nn⟩:=X;simp only at g c;subst c;have b:=zcA (a0:=(Z2 s).1) (e0:=(Z2 s).2.1) ts.length ts [] g (UD _) (by have:=g.len;simp;omega);have f:=g.len;show((lpO Zv ((0,lit [],0,0),(Z2 s).1,(Z2 s).2.1,(⟨⟨ts,j⟩,0⟩:PSt),mkS [])).bind _)=_;cases e:YD ts.length [] ts with
 |error er=>
  rw[e] at b;obtain⟨st,u,v,w,b⟩:=b;rw[b];rfl
 |ok p=>
  obtain⟨l,k⟩:=p;rw[e] at b;simp only at b;rw[b];have d:=zaw _ _ _ _ _ e;simp only[zd] at d;have a:qfh ⟨0,lit [],0,0,mkS l⟩=o ((zd l+1:Nat):Int):=by
   have:=zns 100000 ⟨0,lit [],0,0,mkS l⟩ (by rw[zk];simp only[mkS];omega) (by rw[zk];simp only[mkS];omega);rw[zk] at this;exact this
  simp only[jj,jm,a,jl];by_cases hb:4096 < zd l+1
  ·rw[jv Zd,jv hb];rfl
  ·rw[jx Zd,jx hb];rfl
end
end Go.Px
