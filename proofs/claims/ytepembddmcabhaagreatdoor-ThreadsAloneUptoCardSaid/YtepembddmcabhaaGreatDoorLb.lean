/- Part Lb. -/
import Derived.Test.YtepembddmcabhaaGreatDoorLa
set_option linter.unusedVariables false
set_option linter.unusedSimpArgs false
namespace Go.Px
variable{k:Int}{s:List UInt8}{α β:Type}{m:Uc β}
section
abbrev Tk:=qm
abbrev Nd:=q8
abbrev nilS:Sl α:=⟨[],false⟩
def hd:List Tk->Tk
 |[]=>⟨0,lit [],0,0⟩
 |t::_=>t
abbrev PR (α:Type):=Except (Int×Int) (α×List Tk)
def PR.bd (r:PR α) (f:α->List Tk->PR β):PR β:=match r with
 | .error e =>.error e
 | .ok (a,ts)=>f a ts
def isP (s:List UInt8) (ts:List Tk):Bool:=(decide ((hd ts).k_=2) || decide ((hd ts).k_=4)) && decide ((hd ts).T_=lit s)
def xJ (e:Int) (ts:List Tk):PR α :=.error ((hd ts).a_,e)
def zX (s:List UInt8) (ts:List Tk):PR Unit:=if isP s ts=true then .ok ((),ts.tail) else xJ 20 ts
def X5 (k:Int) (ts:List Tk):PR Tk:=if (hd ts).k_=k then .ok (hd ts,ts.tail) else xJ 20 ts
def Zc (ts:List Tk):PR Nd:=(X5 1 ts).bd fun t ts =>.ok (⟨5,t.T_,0,t.a_,nilS⟩,ts)
def Yh (sg:Int) (ts:List Tk):PR Int:=(X5 3 ts).bd fun t ts =>.ok (sg * t.N_,ts)
def Nd.num (n:Nd) (v:Int):Nd:=⟨n.k_,n.T_,v,n.a_,n.K_⟩
def xK (n:Nd) (ts:List Tk):PR Nd:=
 if isP [43] ts=true then (Yh 1 ts.tail).bd fun v ts =>.ok (Nd.num n v,ts)
 else if isP [45] ts=true then (Yh (-1) ts.tail).bd fun v ts =>.ok (Nd.num n v,ts)
 else .ok (n,ts)
def Z6 (ts:List Tk):PR Nd:=
 if (hd ts).k_=3 then (Yh 1 ts).bd fun v t1 =>.ok (⟨5,lit [],v,(hd ts).a_,nilS⟩,t1)
 else if isP [45] ts=true then (Yh (-1) ts.tail).bd fun v t1 =>.ok (⟨5,lit [],v,(hd ts).a_,nilS⟩,t1)
 else (Zc ts).bd xK
def zbG (ts:List Tk):PR Ua:=
 if isP [60] ts=true then .ok (lit [60],ts.tail) else if isP [60,61] ts=true then .ok (lit [60,61],ts.tail) else if isP [61,61] ts=true then .ok (lit [61,61],ts.tail) else xJ 20 ts
def Zq (one:List Tk->PR Nd):Nat->List Nd->List Tk->PR (List Nd)
 |0,acc,ts =>.ok (acc,ts)
 |k+1,acc,ts=>if isP [44] ts=true then (one ts.tail).bd fun a ts=>Zq one k (acc++[a]) ts else .ok (acc,ts)
def Z7 (one:List Tk->PR Nd) (ts:List Tk):PR (List Nd):=(one ts).bd fun a t1=>Zq one ts.length [a] t1
def VK (ts:List Tk):PR (Sl Nd):=(zX [40] ts).bd fun _ t1=>
 if isP [41] t1=true then .ok (nilS,t1.tail) else (Z7 Z6 t1).bd fun l t2=>(zX [41] t2).bd fun _ t3 =>.ok (⟨l,true⟩,t3)
def WH (ts:List Tk):PR Nd:=
 if isP [111,119,110] ts=true then .ok (⟨2,(hd ts).T_,0,(hd ts).a_,nilS⟩,ts.tail)
 else if isP [99,101,108,108] ts=true then .ok (⟨2,(hd ts).T_,0,(hd ts).a_,nilS⟩,ts.tail)
 else if isP [99,111,117,110,116,101,100] ts=true then (Zc ts.tail).bd fun k t1 =>.ok (⟨2,(hd ts).T_,0,(hd ts).a_,⟨[k],true⟩⟩,t1)
 else if isP [108,111,99,107] ts=true then (Zc ts.tail).bd fun k t1 =>.ok (⟨2,(hd ts).T_,0,(hd ts).a_,⟨[k],true⟩⟩,t1)
 else if isP [103,117,97,114,100] ts=true then (Zc ts.tail).bd fun k t1 =>.ok (⟨2,(hd ts).T_,0,(hd ts).a_,⟨[k],true⟩⟩,t1)
 else xJ 20 ts
def xu (ts:List Tk):PR Nd:=(Zc ts).bd fun n t1=>
 if isP [91] t1=true then (Zc t1.tail).bd fun k t2=>(zX [93] t2).bd fun _ t3 =>.ok (⟨3,n.T_,n.N_,n.a_,⟨[k],true⟩⟩,t3)
 else .ok (⟨3,n.T_,n.N_,n.a_,nilS⟩,t1)
def YM (ts:List Tk):PR Nd:=(Z6 ts).bd fun a t1=>(zbG t1).bd fun op t2=>(Z6 t2).bd fun b t3 =>.ok (⟨4,op,0,a.a_,⟨[a,b],true⟩⟩,t3)
def zcS (at_:Int) (ts:List Tk):PR Nd:=(Zc ts).bd fun n t1=>(WH t1).bd fun s t2=>
 (if isP [123] t2=true then (Z7 xu t2.tail).bd fun l t3=>(zX [125] t3).bd fun _ t4 =>.ok ([s]++l,t4) else .ok ([s],t2):PR (List Nd)).bd fun ks t5=>
 (if isP [119,104,101,114,101] t5=true then (Z7 YM t5.tail).bd fun l t6 =>.ok (ks++l,t6) else .ok (ks,t5):PR (List Nd)).bd fun ks t7=>
 (zX [59] t7).bd fun _ t8 =>.ok (⟨1,n.T_,n.N_,at_,⟨ks,true⟩⟩,t8)
def wR (ts:List Tk):PR Nd:=
 if isP [105,110,116] ts=true then .ok (⟨8,(hd ts).T_,0,(hd ts).a_,nilS⟩,ts.tail)
 else if isP [111,119,110] ts=true then (Zc ts.tail).bd fun k t1 =>.ok (⟨8,(hd ts).T_,0,(hd ts).a_,⟨[k],true⟩⟩,t1)
 else (zX [38] ts).bd fun _ t1=>
  if isP [109,117,116] t1=true then (Zc t1.tail).bd fun k t2 =>.ok (⟨8,lit [38,109,117,116],0,(hd ts).a_,⟨[k],true⟩⟩,t2)
  else (Zc t1).bd fun k t2 =>.ok (⟨8,(hd ts).T_,0,(hd ts).a_,⟨[k],true⟩⟩,t2)
def xv (ts:List Tk):PR Nd:=(Zc ts).bd fun n t1=>(zX [58] t1).bd fun _ t2=>(wR t2).bd fun m t3 =>.ok (⟨7,n.T_,n.N_,n.a_,⟨[m],true⟩⟩,t3)
def atP (k:Int) (ts:List Tk):PR Nd:=(Zc ts).bd fun n t1=>(zX [91] t1).bd fun _ t2=>(Yh 1 t2).bd fun v t3=>(zX [93] t3).bd fun _ t4 =>.ok (⟨k,n.T_,v,n.a_,nilS⟩,t4)
def vf (ts:List Tk):PR Nd:=
 if isP [110,101,119] ts=true then (Yh 1 ts.tail).bd fun v t1 =>.ok (⟨23,lit [],v,(hd ts).a_,nilS⟩,t1)
 else if isP [97,114,114,97,121] ts=true then (Zc ts.tail).bd fun k t1 =>.ok (⟨24,k.T_,0,(hd ts).a_,nilS⟩,t1)
 else if isP [38] ts=true then
  (if isP [109,117,116] ts.tail=true then (Zc ts.tail.tail).bd fun k t1 =>.ok (⟨27,k.T_,0,(hd ts).a_,nilS⟩,t1) else (Zc ts.tail).bd fun k t1 =>.ok (⟨26,k.T_,0,(hd ts).a_,nilS⟩,t1))
 else if (hd ts).k_≠1 then Z6 ts
 else (Zc ts).bd fun n t1=>
  if isP [40] t1=true then (VK t1).bd fun ks t2 =>.ok (⟨28,n.T_,n.N_,n.a_,ks⟩,t2)
  else if isP [91] t1=true then (Z6 t1.tail).bd fun a t2=>(zX [93] t2).bd fun _ t3 =>.ok (⟨25,n.T_,n.N_,n.a_,⟨[a],true⟩⟩,t3)
  else if isP [43] t1=true/\(hd t1.tail).k_=1 then (Zc t1.tail).bd fun b t2 =>.ok (⟨21,lit [],0,n.a_,⟨[n,b],true⟩⟩,t2)
  else if isP [45] t1=true/\(hd t1.tail).k_=1 then (Zc t1.tail).bd fun b t2 =>.ok (⟨22,lit [],0,n.a_,⟨[n,b],true⟩⟩,t2)
  else xK n t1
def WT (n:Nd) (ts:List Tk):PR Nd:=
 if isP [40] ts=true then (VK ts).bd fun ks t1 =>.ok (⟨20,lit [],0,n.a_,⟨[⟨28,n.T_,n.N_,n.a_,ks⟩],true⟩⟩,t1)
 else if isP [91] ts=true then (Z6 ts.tail).bd fun a t1=>(zX [93] t1).bd fun _ t2=>(zX [61] t2).bd fun _ t3=>(Z6 t3).bd fun b t4 =>.ok (⟨11,n.T_,n.N_,n.a_,⟨[a,b],true⟩⟩,t4)
 else (zX [61] ts).bd fun _ t1=>(vf t1).bd fun e t2 =>.ok (⟨10,n.T_,n.N_,n.a_,⟨[e],true⟩⟩,t2)
def Wt (n:Nd) (ts:List Tk):PR Nd:=(zX [59] ts).bd fun _ t1 =>.ok (n,t1)
def wu (blk:List Tk->PR Nd) (k at_:Int) (ts:List Tk):PR Nd:=(YM ts).bd fun n t1=>(blk t1).bd fun b t2 =>.ok (⟨k,n.T_,n.N_,at_,⟨n.K_.xs++[b],true⟩⟩,t2)
def YN (blk:List Tk->PR Nd) (ts:List Tk):PR Nd:=
 if isP [102,114,101,101] ts=true then (Zc ts.tail).bd fun n t1=>Wt ⟨12,n.T_,n.N_,(hd ts).a_,nilS⟩ t1
 else if isP [108,111,99,107] ts=true then (atP 13 ts.tail).bd fun n t1=>Wt ⟨n.k_,n.T_,n.N_,(hd ts).a_,nilS⟩ t1
 else if isP [117,110,108,111,99,107] ts=true then (atP 14 ts.tail).bd fun n t1=>Wt ⟨n.k_,n.T_,n.N_,(hd ts).a_,nilS⟩ t1
 else if isP [105,102] ts=true then (wu blk 15 (hd ts).a_ ts.tail).bd fun n t1=>
  if isP [101,108,115,101] t1=true then (blk t1.tail).bd fun b t2 =>.ok (⟨n.k_,n.T_,n.N_,n.a_,⟨n.K_.xs++[b],true⟩⟩,t2)
  else .ok (⟨n.k_,n.T_,n.N_,n.a_,⟨n.K_.xs++[⟨9,lit [],0,(hd ts).a_,nilS⟩],true⟩⟩,t1)
 else if isP [119,104,105,108,101] ts=true then wu blk 16 (hd ts).a_ ts.tail
 else if isP [114,101,116,117,114,110] ts=true then
  (if isP [59] ts.tail=true then Wt ⟨17,lit [],0,(hd ts).a_,nilS⟩ ts.tail else (Z6 ts.tail).bd fun a t1=>Wt ⟨17,lit [],0,(hd ts).a_,⟨[a],true⟩⟩ t1)
 else if isP [97,98,111,114,116] ts=true then Wt ⟨18,lit [],0,(hd ts).a_,nilS⟩ ts.tail
 else if isP [102,111,114,107] ts=true then (Zc ts.tail).bd fun n t1=>(VK t1).bd fun ks t2=>Wt ⟨19,n.T_,n.N_,(hd ts).a_,ks⟩ t2
 else (Zc ts).bd fun n t1=>(WT n t1).bd Wt
def xw (one:List Tk->PR Nd):Nat->List Nd->List Tk->PR (List Nd)
 |0,acc,ts=>xJ 20 ts
 |k+1,acc,ts=>if isP [125] ts=true then .ok (acc,ts.tail) else (one ts).bd fun a t1=>xw one k (acc++[a]) t1
def mkS (l:List α):Sl α:=⟨l, !l.isEmpty⟩
def yd:Nat->List Tk->PR Nd
 |0,ts=>if isP [123] ts=true then xJ 21 ts else xJ 20 ts
 |r+1,ts=>(zX [123] ts).bd fun _ t1=>(xw (YN (yd r)) t1.length [] t1).bd fun l t2 =>.ok (⟨9,lit [],0,(hd ts).a_,mkS l⟩,t2)
def fnP (at_:Int) (ts:List Tk):PR Nd:=(Zc ts).bd fun n t1=>(zX [40] t1).bd fun _ t2=>
 (if isP [41] t2=true then .ok ([],t2) else Z7 xv t2:PR (List Nd)).bd fun ps t3=>(zX [41] t3).bd fun _ t4=>
 (if isP [45,62] t4=true then (if isP [38] t4.tail=true then xJ 20 t4.tail else wR t4.tail) else .ok (⟨8,lit [],0,(hd t4).a_,nilS⟩,t4):PR Nd).bd fun ret t5=>
 (yd 8 t5).bd fun b t6 =>.ok (⟨6,n.T_,n.N_,at_,⟨ps++[ret,b],true⟩⟩,t6)
def Yr:Nat->List Nd->List Tk->PR (List Nd)
 |0,acc,ts=>xJ 20 ts
 |k+1,acc,ts=>if (hd ts).k_=0 then .ok (acc,ts)
  else if isP [102,110] ts=true then (fnP (hd ts).a_ ts.tail).bd fun a t1=>Yr k (acc++[a]) t1
  else (zX [116,121,112,101] ts).bd fun _ t1=>(zcS (hd ts).a_ t1).bd fun a t2=>Yr k (acc++[a]) t2
structure TGood (ts:List Tk):Prop where
 ne:ts≠[]
 last:∀ h:ts≠[],(ts.getLast h).k_=0
 len:ts.length<=20000
 num:∀ t∈ts,0<=t.N_/\t.N_<=1099511627776
theorem TGood.tail {ts:List Tk}(g:TGood ts) (h:(hd ts).k_≠0):TGood ts.tail:=by
 match ts,g,h with
 |[],g,_=>grind
 |[t],g,h=>exact absurd (g.last (by simp)) h
 |t::u::r,g,h=>
  refine ⟨by simp,fun _=>?_,?_,fun x hx=>g.num x (UW _ hx)⟩
  ·have:=g.last (by simp);grind
  ·have:=g.len;grind
theorem TGood.hd_idx {ts:List Tk}(g:TGood ts) (b:Bool):zb (⟨ts,b⟩:Sl Tk) 0=some (hd ts):=by
 match ts,g with
 |[],g=>exact absurd rfl g.ne
 |t::r,_=>rfl
theorem TGood.tl {ts:List Tk}(g:TGood ts) (b:Bool):Zg (⟨ts,b⟩:Sl Tk) 1 (Sl.len (⟨ts,b⟩:Sl Tk))=some ⟨ts.tail,b⟩:=by
 match ts,g with
 |[],g=>exact absurd rfl g.ne
 |t::r,_=>
  unfold Zg;rw [jr ⟨by omega,by simp [Sl.len];omega,by simp [Sl.len]⟩];simp [Sl.len]
theorem zeI {ts:List Tk}(h:isP s ts=true):(hd ts).k_≠0:=by
 unfold isP at h;grind
theorem TGood.is {ts:List Tk}(g:TGood ts) (h:isP s ts=true):TGood ts.tail:=g.tail (zeI h)
theorem TGood.tail_len {ts:List Tk}(g:TGood ts):ts.tail.length+1=ts.length:=by
 match ts,g with
 |[],g=>exact absurd rfl g.ne
 |t::r,_=>simp
abbrev PSt:=q7
def Sm (d:Int) (n:Nat) (r:PR α) (m:Uc β) (er:(Int×Int)×PSt->β) (ok:α->PSt->β):Prop:=match r with
 | .error e=>∃ st,m=some (er (e,st))
 | .ok (a,ts)=>m=some (ok a ⟨⟨ts,true⟩,d⟩)/\TGood ts/\ts.length<=n
theorem Sm.bd {γ δ:Type}{d:Int}{n n':Nat}{r:PR α}{f:α->List Tk->PR γ}{K:β->Uc δ}{er:(Int×Int)×PSt->β}{ok:α->PSt->β}{er':(Int×Int)×PSt->δ}{ok':γ->PSt->δ}
    (h:Sm d n r m er ok) (he:∀ e,K (er e)=some (er' e)) (hk:∀ a ts,r = .ok (a,ts)->TGood ts->ts.length<=n->Sm d n' (f a ts) (K (ok a ⟨⟨ts,true⟩,d⟩)) er' ok'):Sm d n' (r.bd f) (m.bind K) er' ok':=by
  cases r with
  |error e=>
    obtain ⟨st,rfl⟩:=h;exact ⟨st,he _⟩
  |ok p=>
    obtain ⟨a,ts⟩:=p;obtain ⟨rfl,g,l⟩:=h;exact hk a ts rfl g l
theorem Sm.ok {d:Int}{n:Nat}{a:α}{ts:List Tk}{er:(Int×Int)×PSt->β}{ok:α->PSt->β}(g:TGood ts) (l:ts.length<=n) (h:m=some (ok a ⟨⟨ts,true⟩,d⟩)):Sm d n (.ok (a,ts)) m er ok:=⟨h,g,l⟩
theorem Sm.mono {d:Int}{n n':Nat}{r:PR α}{er:(Int×Int)×PSt->β}{ok:α->PSt->β}(h:Sm d n r m er ok) (l:n<=n'):Sm d n' r m er ok:=by
 cases r with
 |error e=>exact h
 |ok p=>exact ⟨h.1,h.2.1,Ut h.2.2 l⟩
variable {d:Int}{n:Nat}{ts:List Tk}
theorem ZL (g:TGood ts):q10 ⟨⟨ts,true⟩,d⟩=some (hd ts,⟨⟨ts,true⟩,d⟩):=by
 show ((zb (⟨ts,true⟩:Sl Tk) 0).bind fun y0=>some (y0,(⟨⟨ts,true⟩,d⟩:PSt)))=_;rw [g.hd_idx];rfl
theorem Y2 (g:TGood ts) (s:List UInt8):q23 (lit s,⟨⟨ts,true⟩,d⟩)=some (isP s ts,⟨⟨ts,true⟩,d⟩):=by
 show ((q10 ⟨⟨ts,true⟩,d⟩).bind _)=_;rw [ZL g,jf];simp only [jh];unfold isP;by_cases h2:(hd ts).k_=2
 ·grind
 grind
theorem zZ (g:TGood ts) (s:List UInt8):qx (lit s,⟨⟨ts,true⟩,d⟩)=some (isP s ts,if isP s ts=true then ⟨⟨ts.tail,true⟩,d⟩ else ⟨⟨ts,true⟩,d⟩):=by
 show ((q23 (lit s,⟨⟨ts,true⟩,d⟩)).bind _)=_;rw [Y2 g,jf];cases h:isP s ts with
 |false=>rfl
 |true=>
  simp only [UJ,jg,jk,jl];rw [g.tl];rfl
theorem vD (g:TGood ts) (e:Int):q1n (e,⟨⟨ts,true⟩,d⟩)=some (((hd ts).a_,e),⟨⟨ts,true⟩,d⟩):=by
 show ((q10 ⟨⟨ts,true⟩,d⟩).bind _)=_;rw [ZL g];rfl
theorem zaH (g:TGood ts) {K:Bool×PSt->Uc β}{p q:PR α}{er:(Int×Int)×PSt->β}{ok:α->PSt->β}(h1:isP s ts=true->TGood ts.tail->ts.tail.length+1=ts.length->Sm d n p (K (true,⟨⟨ts.tail,true⟩,d⟩)) er ok)
    (h0:isP s ts=false->Sm d n q (K (false,⟨⟨ts,true⟩,d⟩)) er ok):Sm d n (if isP s ts=true then p else q) ((qx (lit s,⟨⟨ts,true⟩,d⟩)).bind K) er ok:=by
  rw [zZ g,jf];cases h:isP s ts with
  |true=>simp only [jl];exact h1 h (g.is h) g.tail_len
  |false=>grind
theorem ZM (g:TGood ts) (s:List UInt8):Sm d (ts.length - 1) (zX s ts) (q12 (lit s,⟨⟨ts,true⟩,d⟩)) Sum.inl (fun _ st=>Sum.inr st):=by
 show Sm d _ _ ((qx (lit s,⟨⟨ts,true⟩,d⟩)).bind _) _ _;unfold zX;refine zaH g (fun h g1 l=>?_) fun h=>?_
 ·exact .ok g1 (by omega) rfl
 ·refine ⟨⟨⟨ts,true⟩,d⟩,?_⟩;show ((q1n (20,⟨⟨ts,true⟩,d⟩)).bind _)=_;rw [vD g];rfl
theorem zlV (g:TGood ts) (k:Int) (hk:k≠0):Sm d (ts.length - 1) (X5 k ts) (q5d (k,⟨⟨ts,true⟩,d⟩)) Sum.inl (fun t st=>Sum.inr (t,st)):=by
 show Sm d _ _ ((q10 ⟨⟨ts,true⟩,d⟩).bind _) _ _;rw [ZL g,jf];unfold X5;simp only [jh];by_cases h:(hd ts).k_=k
 ·rw [jr h,js (by simpa using h),g.tl];exact .ok (g.tail (by omega)) (by grind) rfl
 ·rw [js h,jr h,vD g];exact ⟨_,rfl⟩
theorem zhz {ts t1:List Tk}{t:Tk}(g:TGood ts) (h:X5 k ts = .ok (t,t1)):0<=t.N_/\t.N_<=1099511627776:=by
 unfold X5 at h;split at h
 ·cases h
  match ts,g with
  |[],g=>exact absurd rfl g.ne
  |t::r,g=>exact g.num t (by simp [hd])
 ·cases h
def ndT (n:Nd):Int×Ua×Int×Int:=(n.k_,n.T_,n.N_,n.a_)
theorem ZS (g:TGood ts):Sm d (ts.length - 1) (Zc ts) (q17 ⟨⟨ts,true⟩,d⟩) Sum.inl (fun n st=>Sum.inr (ndT n,st)):=by
 show Sm d _ _ ((q5d (1,⟨⟨ts,true⟩,d⟩)).bind _) _ _;exact (zlV g 1 (by omega)).bd (fun e=>rfl) fun t t1 _ g1 l =>.ok g1 l rfl
theorem XH (g:TGood ts) (sg:Int) (hs:sg=1\/sg = -1):Sm d (ts.length - 1) (Yh sg ts) (q4l (sg,⟨⟨ts,true⟩,d⟩)) Sum.inl (fun v st=>Sum.inr (v,st)):=by
 show Sm d _ _ ((q5d (3,⟨⟨ts,true⟩,d⟩)).bind _) _ _;refine (zlV g 3 (by omega)).bd (fun e=>rfl) fun t t1 ht g1 l =>.ok g1 l ?_
 have:=zhz g ht;show some (Sum.inr (Ud (sg * t.N_),_))=_;rw [zM (by grind) (by grind)]
end
section
variable {d:Int}{n:Nat}{ts:List Tk}
theorem Sm.out {r:PR α}{er:(Int×Int)×PSt->β}{ok:α->PSt->β}(h:Sm d n r m er ok) {a:α}{t1:List Tk}(e:r = .ok (a,t1)):m=some (ok a ⟨⟨t1,true⟩,d⟩)/\TGood t1/\t1.length<=n:=by
 rw [e] at h;exact h
theorem Sm.err {r:PR α}{er:(Int×Int)×PSt->β}{ok:α->PSt->β}(h:Sm d n r m er ok) {e:Int×Int}(he:r = .error e):∃ st,m=some (er (e,st)):=by
 rw [he] at h;exact h
theorem bd_ok {r:PR α}{f:α->List Tk->PR β}{b:β}{t:List Tk}(h:r.bd f = .ok (b,t)):∃ a t1,r = .ok (a,t1)/\f a t1 = .ok (b,t):=by
 cases r with
 |error e=>cases h
 |ok p=>exact ⟨p.1,p.2,rfl,h⟩
theorem Sm.map {γ:Type}{r:PR α}{K:β->Uc γ}{er:(Int×Int)×PSt->β}{ok:α->PSt->β}{er':(Int×Int)×PSt->γ}{ok':α->PSt->γ}(h:Sm d n r m er ok) (he:∀ e,K (er e)=some (er' e)) (hk:∀ a t1,r = .ok (a,t1)->TGood t1->K (ok a ⟨⟨t1,true⟩,d⟩)=some (ok' a ⟨⟨t1,true⟩,d⟩)):Sm d n r (m.bind K) er' ok':=by
 cases r with
 |error e=>obtain ⟨st,rfl⟩:=h;exact ⟨st,he _⟩
 |ok p=>obtain ⟨rfl,g,l⟩:=h;exact ⟨hk _ _ rfl g,g,l⟩
theorem zH {ts t1:List Tk}{n:Nd}(h:Zc ts = .ok (n,t1)):n.K_=nilS:=by
 obtain ⟨a,t,_,h⟩:=bd_ok h;cases h;rfl
theorem Xw {a:Nd}(h:a.K_=nilS):q8.mk a.k_ a.T_ a.N_ a.a_ (Sl.mk [] false)=a:=by cases a;grind
theorem zn (a:Nd):kg a=a:=by cases a;rfl
theorem zlW {n0:Nd}(g:TGood ts):Sm d ts.length (xK n0 ts) (q5e (n0,⟨⟨ts,true⟩,d⟩)) Sum.inl (fun n st=>Sum.inr (n,st)):=by
 show Sm d _ _ ((qx (lit [43],⟨⟨ts,true⟩,d⟩)).bind _) _ _;unfold xK;refine zaH g (fun h g1 l=>?_) fun h=>?_
 ·simp only [jl,ga];exact (XH g1 1 (.inl rfl)).bd (fun e=>rfl) fun v t1 _ g2 l2 =>.ok g2 (by omega) rfl
 ·simp only [jg,jk,ga];refine zaH g (fun h g1 l=>?_) fun h=>?_
  ·simp only [jl,ga];exact (XH g1 (-1) (.inr rfl)).bd (fun e=>rfl) fun v t1 _ g2 l2 =>.ok g2 (by omega) rfl
  ·exact .ok g (by omega) (by simp only [jg,jk,jf,zn,ji])
theorem zfF {ts t1:List Tk}{n n0:Nd}(h0:n0.K_=nilS) (h:xK n0 ts = .ok (n,t1)):n.K_=nilS:=by
 unfold xK at h;split at h
 ·obtain ⟨a,t,_,h⟩:=bd_ok h;cases h;exact h0
 ·split at h
  ·obtain ⟨a,t,_,h⟩:=bd_ok h;cases h;exact h0
  grind
theorem yF {ts t1:List Tk}{n:Nd}(h:Z6 ts = .ok (n,t1)):n.K_=nilS:=by
 unfold Z6 at h;split at h
 ·obtain ⟨a,t,_,h⟩:=bd_ok h;cases h;rfl
 ·split at h
  ·obtain ⟨a,t,_,h⟩:=bd_ok h;cases h;rfl
  ·obtain ⟨a,t,h1,h⟩:=bd_ok h;exact zfF (zH h1) h
theorem XI (g:TGood ts):Sm d (ts.length - 1) (Z6 ts) (q2b ⟨⟨ts,true⟩,d⟩) Sum.inl (fun n st=>Sum.inr (n,st)):=by
 show Sm d _ _ ((q10 ⟨⟨ts,true⟩,d⟩).bind _) _ _;rw [ZL g,jf,ZL g,jf];unfold Z6;simp only [jh];by_cases h3:(hd ts).k_=3
 ·rw [jr h3,jr h3];simp only [ga];exact (XH g 1 (.inl rfl)).bd (fun e=>rfl) fun v t1 _ g2 l2 =>.ok g2 (by omega) rfl
 ·rw [js h3,js h3];simp only [ga];refine zaH g (fun h g1 l=>?_) fun h=>?_
  ·simp only [jl,ga];exact (XH g1 (-1) (.inr rfl)).bd (fun e=>rfl) fun v t1 _ g2 l2 =>.ok g2 (by omega) rfl
  ·show Sm d _ _ ((q17 ⟨⟨ts,true⟩,d⟩).bind _) _ _;refine (ZS g).bd (fun e=>rfl) fun n t1 en g1 l1=>?_
   show Sm d _ _ (((q5e (q8.mk n.k_ n.T_ n.N_ n.a_ (Sl.mk [] false),⟨⟨t1,true⟩,d⟩)).bind _).bind _) _ _;rw [ga,Xw (zH en)];refine Sm.mono ?_ l1;exact Sm.map (zlW g1) (fun e=>rfl) fun a t2 _ _=>by simp only [ji,jf,zn]
theorem zxu (g:TGood ts):Sm d (ts.length - 1) (zbG ts) (qcp ⟨⟨ts,true⟩,d⟩) Sum.inr (fun s st=>Sum.inl (s,st)):=by
  have body:∀ (i:Int) (s:List UInt8),0<=i->i < 3->WY [lit [60],lit [60,61],lit [61,61]] i=some (lit s)->
      q6x qx q1n ((lit [60],lit [60,61],lit [61,61]),i,⟨⟨ts,true⟩,d⟩)=if isP s ts=true then some (.done (.inl (lit s,⟨⟨ts.tail,true⟩,d⟩))) else some (.next ((lit [60],lit [60,61],lit [61,61]),i+1,⟨⟨ts,true⟩,d⟩)):=by
    intro i s h0 h3 hn;unfold q6x;simp only [jh,jr h3,hn,jf,zZ g];cases h:isP s ts with
    |true=>grind
    |false=>simp only [jg,jk];rw [zM (by omega) (by omega)]
  have e0:=body 0 [60] (by omega) (by omega) rfl;have e1:=body 1 [60,61] (by omega) (by omega) rfl;have e2:=body 2 [61,61] (by omega) (by omega) rfl;show Sm d _ _ ((lpO (q6x qx q1n) ((lit [60],lit [60,61],lit [61,61]),0,⟨⟨ts,true⟩,d⟩)).bind _) _ _;unfold zbG;rw [Zr,e0];cases h0:isP [60] ts with
  |true=>exact .ok (g.is h0) (by grind) rfl
  |false=>
    simp only [jg,jk,jf];rw [Zr,show (0:Int)+1=1 from rfl,e1];cases h1:isP [60,61] ts with
    |true=>exact .ok (g.is h1) (by grind) rfl
    |false=>
      simp only [jg,jk,jf];rw [Zr,show (1:Int)+1=2 from rfl,e2];cases h2:isP [61,61] ts with
      |true=>exact .ok (g.is h2) (by grind) rfl
      |false=>
        simp only [jg,jk,jf];rw [Zr,show (2:Int)+1=3 from rfl];have e3:q6x qx q1n ((lit [60],lit [60,61],lit [61,61]),3,⟨⟨ts,true⟩,d⟩)=some (.done (.inr ⟨⟨ts,true⟩,d⟩)):=rfl;rw [e3];simp only [jf,ji,vD g];exact ⟨_,rfl⟩
theorem Vk {acc:List Nd}{a:Nd}(h:acc.length<=30000) (b:Bool):zp 64 (⟨acc,b⟩:Sl Nd) [a]=some ⟨acc++[a],true⟩:=by
 rw [Yg (by simp;omega) (by simp;omega)];simp
abbrev znL:=Step (PSt×Sl Nd) (((Int×Int)×PSt)⊕(PSt×Sl Nd))
def zdq (d:Int) (one:List Tk->PR Nd) (f:PSt×Sl Nd->Uc znL):Prop:=∀ (ts:List Tk) (acc:List Nd),TGood ts->acc.length<=30000->
 (isP [44] ts=false->f (⟨⟨ts,true⟩,d⟩,⟨acc,true⟩)=some (.done (.inr (⟨⟨ts,true⟩,d⟩,⟨acc,true⟩))))/\
 (isP [44] ts=true->match one ts.tail with
  | .error e=>∃ st,f (⟨⟨ts,true⟩,d⟩,⟨acc,true⟩)=some (.done (.inl (e,st)))
  | .ok (a,t1)=>TGood t1/\t1.length+1<=ts.length/\f (⟨⟨ts,true⟩,d⟩,⟨acc,true⟩)=some (.next (⟨⟨t1,true⟩,d⟩,⟨acc++[a],true⟩)))
theorem zcT {one:List Tk->PR Nd}{f:PSt×Sl Nd->Uc znL}(hf:zdq d one f):∀ (k:Nat) (ts:List Tk) (acc:List Nd),TGood ts->ts.length<=k->acc.length+ts.length<=30000->
    Sm d ts.length (Zq one k acc ts) (lpO f (⟨⟨ts,true⟩,d⟩,⟨acc,true⟩)) Sum.inl (fun l st=>Sum.inr (st,⟨l,true⟩))/\∀ l t1,Zq one k acc ts = .ok (l,t1)->l.length+t1.length<=acc.length+ts.length
  |0,ts,acc,g,hk,ha=>absurd (Uw (by omega)) g.ne
  |k+1,ts,acc,g,hk,ha=>by
    obtain ⟨h0,h1⟩:=hf ts acc g (by omega);rw [Zr];show Sm d _ (if isP [44] ts=true then _ else _) _ _ _/\∀ l t1,(if isP [44] ts=true then _ else _)=_->_
    cases h:isP [44] ts with
    |false=>
      rw [h0 h];simp only [jg,jk,jf];exact ⟨.ok g (Ur _) rfl,fun l t1 e=>by grind⟩
    |true=>
      have h1:=h1 h;simp only [jl];cases e:one ts.tail with
      |error er=>
        rw [e] at h1;obtain ⟨st,h1⟩:=h1;rw [h1];exact ⟨⟨st,rfl⟩,fun l t1 e=>by cases e⟩
      |ok p=>
        obtain ⟨a,t1⟩:=p;rw [e] at h1;obtain ⟨g1,l1,h1⟩:=h1;rw [h1];have ih:=zcT hf k t1 (acc++[a]) g1 (by omega) (by simp;omega);exact ⟨ih.1.mono (by omega),fun l t2 e2=>by have:=ih.2 l t2 e2;grind⟩
theorem zgN:zdq d Z6 (q9g q2b qx):=by
 intro ts acc g ha;unfold q9g;simp only [zZ g,jf];refine ⟨fun h=>by rw [h];rfl,fun h=>?_⟩;rw [h];simp only [jl];have s:=XI (d:=d) (g.is h);cases e:Z6 ts.tail with
 |error er=>obtain ⟨st,s⟩:=s.err e;grind
 |ok p=>
  obtain ⟨a,t1⟩:=p;obtain ⟨s,g1,l1⟩:=s.out e;have:=g.tail_len;refine ⟨g1,by omega,?_⟩;have hk:=yF e;rw [s];simp only [jf,ji,zn,Vk ha]
end
section
variable {d:Int}{n:Nat}{ts:List Tk}
theorem zbH {one:List Tk->PR Nd}{f:PSt×Sl Nd->Uc znL}(hf:zdq d one f) {er:(Int×Int)×PSt->β}{ok:Nd->PSt->β}{K:β->Uc (((Int×Int)×PSt)⊕(PSt×Sl Nd))}(g:TGood ts) (h:Sm d (ts.length - 1) (one ts) m er ok)
    (he:∀ e,K (er e)=some (Sum.inl e)) (hk:∀ a t1,one ts = .ok (a,t1)->K (ok a ⟨⟨t1,true⟩,d⟩)=(lpO f (⟨⟨t1,true⟩,d⟩,⟨[a],true⟩)).bind fun y9=>Sum.elim (fun y10=>some (Sum.inl y10)) (fun y11=>some (Sum.inr y11)) y9) :
    Sm d (ts.length - 1) (Z7 one ts) (m.bind K) Sum.inl (fun l st=>Sum.inr (st,⟨l,true⟩))/\∀ l t1,Z7 one ts = .ok (l,t1)->l.length+t1.length<=ts.length:=by
  have hlen:=g.len;have h0:=g.tail_len;constructor
  · refine h.bd he fun a t1 e g1 l1=>?_
    rw [hk a t1 e];have:=(zcT hf ts.length t1 [a] g1 (by omega) (by simp;omega)).1;refine Sm.mono ?_ l1;exact Sm.map this (fun e=>rfl) fun l t2 _ _=>rfl
  ·intro l t2 e;obtain ⟨a,t1,e1,e2⟩:=bd_ok e;obtain ⟨_,g1,l1⟩:=h.out e1;have:=(zcT hf ts.length t1 [a] g1 (by omega) (by simp;omega)).2 l t2 e2;grind
theorem zke (g:TGood ts):Sm d (ts.length - 1) (Z7 Z6 ts) (q9n ⟨⟨ts,true⟩,d⟩) Sum.inl (fun l st=>Sum.inr (st,⟨l,true⟩))/\∀ l t1,Z7 Z6 ts = .ok (l,t1)->l.length+t1.length<=ts.length:=by
 refine zbH zgN g (XI g) (fun e=>rfl) fun a t1 e=>?_
 simp only [ji,zn]
theorem zgO (g:TGood ts):Sm d (ts.length - 1) (VK ts) (q5f ⟨⟨ts,true⟩,d⟩) Sum.inl (fun l st=>Sum.inr (st,l)):=by
 show Sm d _ _ ((q12 (lit [40],⟨⟨ts,true⟩,d⟩)).bind _) _ _;refine (ZM g [40]).bd (fun e=>rfl) fun _ t1 _ g1 l1=>?_
 refine zaH g1 (fun h g2 l=>?_) fun h=>?_
 ·exact .ok g2 (by omega) rfl
 ·refine (zke g1).1.bd (fun e=>rfl) fun l t2 _ g2 l2=>?_
  refine (ZM g2 [41]).bd (fun e=>rfl) fun _ t3 _ g3 l3 =>.ok g3 (by omega) rfl
def ndK (n:Nd) (st:PSt):(Int×Ua×Int×Int)×PSt×Sl Nd:=(ndT n,st,n.K_)
theorem zvC (g:TGood ts):Sm d (ts.length - 1) (WH ts) (qc2 ⟨⟨ts,true⟩,d⟩) Sum.inr (fun n st=>Sum.inl (ndK n st)):=by
  show Sm d _ _ ((q10 ⟨⟨ts,true⟩,d⟩).bind _) _ _;rw [ZL g,jf,ZL g,jf,zZ g,jf];have ht:=g.tail_len;unfold WH
  have nm:∀ {K:((Int×Int)×PSt⊕(Int×Ua×Int×Int)×PSt)->Uc ((Int×Ua×Int×Int)×PSt×Sl Nd⊕(Int×Int)×PSt)},TGood ts.tail->
      (∀ e,K (Sum.inl e)=some (Sum.inr e))->(∀ k t1,Zc ts.tail = .ok (k,t1)->K (Sum.inr (ndT k,⟨⟨t1,true⟩,d⟩))=some (Sum.inl (ndK ⟨2,(hd ts).T_,0,(hd ts).a_,⟨[k],true⟩⟩ ⟨⟨t1,true⟩,d⟩)))->
      Sm d (ts.length - 1) ((Zc ts.tail).bd fun k t1 =>.ok (⟨2,(hd ts).T_,0,(hd ts).a_,⟨[k],true⟩⟩,t1)) ((q17 ⟨⟨ts.tail,true⟩,d⟩).bind K) Sum.inr (fun n st=>Sum.inl (ndK n st)):=
    fun {K} g1 h1 h2=>(ZS g1).bd h1 fun k t1 e g2 l2 =>.ok g2 (by omega) (h2 k t1 e)
  have kk:∀ k t1,Zc ts.tail = .ok (k,t1)->q8.mk (ndT k).1 (ndT k).2.1 (ndT k).2.2.1 (ndT k).2.2.2 (Sl.mk [] false)=k:=fun k t1 e=>Xw (zH e)
  cases h1:isP [111,119,110] ts with
  |true=>exact .ok (g.is h1) (by omega) rfl
  |false=>
    simp only [jg,jk,zZ g,jf];cases h2:isP [99,101,108,108] ts with
    |true=>exact .ok (g.is h2) (by omega) rfl
    |false=>
      simp only [jg,jk,zZ g,jf];cases h3:isP [99,111,117,110,116,101,100] ts with
      |true=>
        simp only [jl,jf,ga];exact nm (g.is h3) (fun e=>rfl) fun k t1 e=>by
          simp only [ji,jf,kk k t1 e];rfl
      |false=>
        simp only [jg,jk,zZ g,jf];cases h4:isP [108,111,99,107] ts with
        |true=>
          simp only [jl,jf,ga];exact nm (g.is h4) (fun e=>rfl) fun k t1 e=>by
            simp only [ji,jf,kk k t1 e];rfl
        |false=>
          simp only [jg,jk,zZ g,jf];cases h5:isP [103,117,97,114,100] ts with
          |true=>
            simp only [jl,jf,ga];exact nm (g.is h5) (fun e=>rfl) fun k t1 e=>by
              simp only [ji,jf,kk k t1 e];rfl
          |false=>
            simp only [jg,jk,jf,vD g];exact ⟨_,rfl⟩
theorem zkf (g:TGood ts):Sm d (ts.length - 1) (xu ts) (q8l ⟨⟨ts,true⟩,d⟩) Sum.inl (fun n st=>Sum.inr (ndK n st)):=by
 show Sm d _ _ ((q17 ⟨⟨ts,true⟩,d⟩).bind _) _ _;refine (ZS g).bd (fun e=>rfl) fun n t1 _ g1 l1=>?_
 refine zaH g1 (fun h g2 l=>?_) fun h=>?_
 ·simp only [jl,ga];refine (ZS g2).bd (fun e=>rfl) fun k t2 e g3 l3=>?_
  show Sm d _ _ (((q12 (lit [93],⟨⟨t2,true⟩,d⟩)).bind _).bind _) _ _;rw [ga];refine (ZM g3 [93]).bd (fun e=>rfl) fun _ t4 _ g4 l4 =>.ok g4 (by omega) ?_
  have:=Xw (zH e);simp only [ji,jf,ndT,this];rfl
 ·exact .ok g1 (by omega) rfl
theorem zgP (g:TGood ts):Sm d (ts.length - 1) (YM ts) (q4f ⟨⟨ts,true⟩,d⟩) Sum.inl (fun n st=>Sum.inr (ndK n st)):=by
 show Sm d _ _ ((q2b ⟨⟨ts,true⟩,d⟩).bind _) _ _;refine (XI g).bd (fun e=>rfl) fun a t1 ea g1 l1=>?_
 refine (zxu g1).bd (fun e=>rfl) fun op t2 _ g2 l2=>?_
 refine (XI g2).bd (fun e=>rfl) fun b t3 eb g3 l3 =>.ok g3 (by omega) ?_
 simp only [ji,zn];rfl
theorem zfG:zdq d xu (q8e q8l qx):=by
 intro ts acc g ha;unfold q8e;simp only [zZ g,jf];refine ⟨fun h=>by rw [h];rfl,fun h=>?_⟩;rw [h];simp only [jl];have s:=zkf (d:=d) (g.is h);cases e:xu ts.tail with
 |error er=>obtain ⟨st,s⟩:=s.err e;grind
 |ok p=>
  obtain ⟨a,t1⟩:=p;obtain ⟨s,g1,l1⟩:=s.out e;have:=g.tail_len;refine ⟨g1,by omega,?_⟩;rw [s];simp only [jf,ji,ndK,ndT,zn,Vk ha]
theorem zgQ:zdq d YM (q9h q4f qx):=by
 intro ts acc g ha;unfold q9h;simp only [zZ g,jf];refine ⟨fun h=>by rw [h];rfl,fun h=>?_⟩;rw [h];simp only [jl];have s:=zgP (d:=d) (g.is h);cases e:YM ts.tail with
 |error er=>obtain ⟨st,s⟩:=s.err e;grind
 |ok p=>
  obtain ⟨a,t1⟩:=p;obtain ⟨s,g1,l1⟩:=s.out e;have:=g.tail_len;refine ⟨g1,by omega,?_⟩;rw [s];simp only [jf,ji,ndK,ndT,zn,Vk ha]
theorem zcb (g:TGood ts):Sm d (ts.length - 1) (Z7 xu ts) (q9i ⟨⟨ts,true⟩,d⟩) Sum.inl (fun l st=>Sum.inr (st,⟨l,true⟩))/\∀ l t1,Z7 xu ts = .ok (l,t1)->l.length+t1.length<=ts.length:=by
 refine zbH zfG g (zkf g) (fun e=>rfl) fun a t1 e=>?_
 simp only [ji,ndK,ndT,zn]
theorem zkg (g:TGood ts):Sm d (ts.length - 1) (Z7 YM ts) (q9o ⟨⟨ts,true⟩,d⟩) Sum.inl (fun l st=>Sum.inr (st,⟨l,true⟩))/\∀ l t1,Z7 YM ts = .ok (l,t1)->l.length+t1.length<=ts.length:=by
 refine zbH zgQ g (zgP g) (fun e=>rfl) fun a t1 e=>?_
 simp only [ji,ndK,ndT,zn]
theorem zlX {xs l:List Nd}(h:xs.length+l.length<=60000):zp 64 (⟨xs,true⟩:Sl Nd) l=some ⟨xs++l,true⟩:=by
 rw [Yg (by simp;omega) (by simp;omega)];simp
theorem zxv (g:TGood ts) (at_:Int):Sm d (ts.length - 1) (zcS at_ ts) (qaa (at_,⟨⟨ts,true⟩,d⟩)) Sum.inl (fun n st=>Sum.inr (ndK n st)):=by
 have hlen:=g.len;show Sm d _ _ ((q17 ⟨⟨ts,true⟩,d⟩).bind _) _ _;refine (ZS g).bd (fun e=>rfl) fun n t1 _ g1 l1=>?_
 refine (zvC g1).bd (fun e=>rfl) fun s t2 _ g2 l2=>?_
 show Sm d _ _ ((qx (lit [123],⟨⟨t2,true⟩,d⟩)).bind _) _ _;rw [zZ g2,jf];have hs:q8.mk (ndK s ⟨⟨t2,true⟩,d⟩).1.1 (ndK s ⟨⟨t2,true⟩,d⟩).1.2.1 (ndK s ⟨⟨t2,true⟩,d⟩).1.2.2.1 (ndK s ⟨⟨t2,true⟩,d⟩).1.2.2.2 (ndK s ⟨⟨t2,true⟩,d⟩).2.2=s:=zn s;simp only [hs];have hlen2:=g2.len;refine Sm.bd (er:=Sum.inl) (ok:=fun (l:List Nd) (st:PSt)=>Sum.inr (st,(0,lit [],0,0),(1,n.T_,n.N_,at_),(⟨l,true⟩:Sl Nd))) (n:=t2.length) ?_ (fun e=>rfl) fun ks t5 e5 g5 l5=>?_
 ·cases h:isP [123] t2 with
  |false=>exact .ok g2 (Ur _) rfl
  |true=>
   simp only [jl];have g3:=g2.is h;have hl3:=g2.tail_len;obtain ⟨k1,k2⟩:=zcb (d:=d) g3;refine k1.bd (fun e=>rfl) fun l t3 e g4 l4=>?_
   have:=k2 l t3 e;simp only [ji];rw [zlX (by simp;omega),jf];exact (ZM g4 [125]).bd (fun e=>rfl) fun _ t4 _ g5 l5 =>.ok g5 (by omega) rfl
 have hks:ks.length<=20001:=by
  split at e5
  ·rename_i h;have hl3:=g2.tail_len;obtain ⟨l,t3,e1,e2⟩:=bd_ok e5;obtain ⟨_,t4,_,e3⟩:=bd_ok e2;cases e3;have:=(zcb (d:=d) (g2.is h)).2 l t3 e1;simp;omega
  grind
 show Sm d _ _ ((qx (lit [119,104,101,114,101],⟨⟨t5,true⟩,d⟩)).bind _) _ _;rw [zZ g5,jf];have hlen5:=g5.len;refine Sm.bd (er:=Sum.inl) (ok:=fun (l:List Nd) (st:PSt)=>Sum.inr (st,(0,lit [],0,0),(1,n.T_,n.N_,at_),(⟨l,true⟩:Sl Nd))) (n:=t5.length) ?_ (fun e=>rfl) fun ks2 t7 e7 g7 l7=>?_
 ·cases h:isP [119,104,101,114,101] t5 with
  |false=>exact .ok g5 (Ur _) rfl
  |true=>
   simp only [jl];have g3:=g5.is h;have hl3:=g5.tail_len;obtain ⟨k1,k2⟩:=zkg (d:=d) g3;refine k1.bd (fun e=>rfl) fun l t3 e g4 l4=>?_
   have:=k2 l t3 e;simp only [ji];rw [zlX (by omega),jf];exact .ok g4 (by omega) rfl
 exact (ZM g7 [59]).bd (fun e=>rfl) fun _ t8 _ g8 l8 =>.ok g8 (by omega) rfl
end
section
variable {d:Int}{n:Nat}{ts:List Tk}
theorem zlY (g:TGood ts):Sm d (ts.length - 1) (wR ts) (q9p ⟨⟨ts,true⟩,d⟩) Sum.inr (fun n st=>Sum.inl (n,st)):=by
 show Sm d _ _ ((q10 ⟨⟨ts,true⟩,d⟩).bind _) _ _;rw [ZL g,jf,ZL g,jf,zZ g,jf];have ht:=g.tail_len;unfold wR;cases h1:isP [105,110,116] ts with
 |true=>exact .ok (g.is h1) (by omega) rfl
 |false=>
  simp only [jg,jk,zZ g,jf];cases h2:isP [111,119,110] ts with
  |true=>
   simp only [jl,jf,jj];refine (ZS (g.is h2)).bd (fun e=>rfl) fun k t1 e g1 l1 =>.ok g1 (by omega) ?_
   have:=Xw (zH e);simp only [ji,ndT,this]
  |false=>
   simp only [jg,jk,ga];refine (ZM g [38]).bd (fun e=>rfl) fun _ t1 _ g1 l1=>?_
   simp only [ji,zZ g1,jf,ga];cases h3:isP [109,117,116] t1 with
   |true=>
    simp only [jl,jf,jj];have:=g1.tail_len;refine (ZS (g1.is h3)).bd (fun e=>rfl) fun k t2 e g2 l2 =>.ok g2 (by omega) ?_
    have:=Xw (zH e);simp only [ji,ndT,this]
   |false=>
    simp only [jg,jk,jf,jj];refine (ZS g1).bd (fun e=>rfl) fun k t2 e g2 l2 =>.ok g2 (by omega) ?_
    have:=Xw (zH e);simp only [ji,ndT,this]
theorem zkh (g:TGood ts):Sm d (ts.length - 1) (xv ts) (q8m ⟨⟨ts,true⟩,d⟩) Sum.inl (fun n st=>Sum.inr (ndK n st)):=by
 show Sm d _ _ ((q17 ⟨⟨ts,true⟩,d⟩).bind _) _ _;refine (ZS g).bd (fun e=>rfl) fun n t1 _ g1 l1=>?_
 refine (ZM g1 [58]).bd (fun e=>rfl) fun _ t2 _ g2 l2=>?_
 exact (zlY g2).bd (fun e=>rfl) fun m t3 _ g3 l3 =>.ok g3 (by omega) (by simp only [jj,zn];rfl)
theorem zfH:zdq d xv (q8f q8m qx):=by
 intro ts acc g ha;unfold q8f;simp only [zZ g,jf];refine ⟨fun h=>by rw [h];rfl,fun h=>?_⟩;rw [h];simp only [jl];have s:=zkh (d:=d) (g.is h);cases e:xv ts.tail with
 |error er=>obtain ⟨st,s⟩:=s.err e;grind
 |ok p=>
  obtain ⟨a,t1⟩:=p;obtain ⟨s,g1,l1⟩:=s.out e;have:=g.tail_len;refine ⟨g1,by omega,?_⟩;rw [s];simp only [jf,ji,ndK,ndT,zn,Vk ha]
theorem zcc (g:TGood ts):Sm d (ts.length - 1) (Z7 xv ts) (q9j ⟨⟨ts,true⟩,d⟩) Sum.inl (fun l st=>Sum.inr (st,⟨l,true⟩))/\∀ l t1,Z7 xv ts = .ok (l,t1)->l.length+t1.length<=ts.length:=by
 refine zbH zfH g (zkh g) (fun e=>rfl) fun a t1 e=>?_
 simp only [ji,ndK,ndT,zn]
theorem ztI (g:TGood ts) (k:Int):Sm d (ts.length - 1) (atP k ts) (qal (k,⟨⟨ts,true⟩,d⟩)) Sum.inl (fun n st=>Sum.inr (ndT n,st)):=by
 show Sm d _ _ ((q17 ⟨⟨ts,true⟩,d⟩).bind _) _ _;refine (ZS g).bd (fun e=>rfl) fun n t1 _ g1 l1=>?_
 refine (ZM g1 [91]).bd (fun e=>rfl) fun _ t2 _ g2 l2=>?_
 refine (XH g2 1 (.inl rfl)).bd (fun e=>rfl) fun v t3 _ g3 l3=>?_
 exact (ZM g3 [93]).bd (fun e=>rfl) fun _ t4 _ g4 l4 =>.ok g4 (by omega) rfl
theorem WU (g:TGood ts) (n:Nd):Sm d (ts.length - 1) (Wt n ts) (q6e (n,⟨⟨ts,true⟩,d⟩)) Sum.inl (fun n st=>Sum.inr (n,st)):=by
 show Sm d _ _ ((q12 (lit [59],⟨⟨ts,true⟩,d⟩)).bind _) _ _;exact (ZM g [59]).bd (fun e=>rfl) fun _ t1 _ g1 l1 =>.ok g1 (by omega) (by simp only [ji,zn])
theorem TGood.idx1 {ts:List Tk}(g:TGood ts.tail):zb (⟨ts,true⟩:Sl Tk) 1=some (hd ts.tail):=by
 match ts,g with
 |[],g=>exact absurd rfl g.ne
 |[t],g=>exact absurd rfl g.ne
 |t::u::r,_=>rfl
theorem zgR {ts:List Tk}(h:isP [43] ts=true):isP [45] ts=false:=by
 unfold isP at h |-
 simp only [g9,jh] at h;have:¬ (hd ts).T_=lit [45]:=by
  rw [h.2];intro e;have:=congrArg bs e;simp [XZ] at this
 simp [this]
theorem zvD (g:TGood ts):Sm d (ts.length - 1) (vf ts) (qc3 ⟨⟨ts,true⟩,d⟩) Sum.inl (fun n st=>Sum.inr (n,st)):=by
 show Sm d _ _ ((q10 ⟨⟨ts,true⟩,d⟩).bind _) _ _;rw [ZL g,jf,zZ g,jf];have ht:=g.tail_len;unfold vf;cases h1:isP [110,101,119] ts with
 |true=>
  simp only [jl,ga];exact (XH (g.is h1) 1 (.inl rfl)).bd (fun e=>rfl) fun v t1 _ g1 l1 =>.ok g1 (by omega) rfl
 |false=>
 simp only [jg,jk,zZ g,jf];cases h2:isP [97,114,114,97,121] ts with
 |true=>
  simp only [jl,ga];exact (ZS (g.is h2)).bd (fun e=>rfl) fun v t1 _ g1 l1 =>.ok g1 (by omega) rfl
 |false=>
 simp only [jg,jk,zZ g,jf];cases h3:isP [38] ts with
 |true=>
  have g1:=g.is h3;simp only [jl,zZ g1,jf];cases h4:isP [109,117,116] ts.tail with
  |true=>
   have:=g1.tail_len;simp only [jl,jf,ga];exact (ZS (g1.is h4)).bd (fun e=>rfl) fun v t1 _ g2 l2 =>.ok g2 (by omega) rfl
  |false=>
   simp only [jg,jk,jf,ga];exact (ZS g1).bd (fun e=>rfl) fun v t1 _ g2 l2 =>.ok g2 (by omega) rfl
 |false=>
 simp only [jg,jk,ZL g,jf,jh];by_cases hk:(hd ts).k_=1
 case neg=>
  simp only [UF,hk,jq,jl,ga];refine Sm.map (XI g) (fun e=>rfl) fun v t1 e g2=>?_
  simp only [ji,jj,jf,zn]
 case pos=>
 simp only [UF,hk,jp,jk,jf,ji];refine (ZS g).bd (fun e=>rfl) fun n t1 en g1 l1=>?_
 have hn:=Xw (zH en);have ht1:=g1.tail_len;simp only [ji,Y2 g1,jf];cases h4:isP [40] t1 with
 |true=>
  simp only [jl,ga];exact (zgO g1).bd (fun e=>rfl) fun v t2 _ g2 l2 =>.ok g2 (by omega) rfl
 |false=>
 simp only [jg,jk,zZ g1,jf];cases h5:isP [91] t1 with
 |true=>
  simp only [jl,ga];refine (XI (g1.is h5)).bd (fun e=>rfl) fun a t2 ea g2 l2=>?_
  have ha:=Xw (yF ea);show Sm d _ _ (((q12 (lit [93],⟨⟨t2,true⟩,d⟩)).bind _).bind _) _ _;rw [ga];exact (ZM g2 [93]).bd (fun e=>rfl) fun _ t3 _ g3 l3 =>.ok g3 (by omega) (by simp only [ji,jj,jf,ndT,zn])
 |false=>
 simp only [jg,jk,jf,ji,Y2 g1];by_cases hp:isP [43] t1=true/\(hd t1.tail).k_=1
 ·obtain ⟨hp1,hp2⟩:=hp;have hm:=zgR hp1;have gt:=g1.is hp1;have mo:=(ZM (d:=d) g1 [43]).out (show zX [43] t1 = .ok ((),t1.tail) by unfold zX;grind);rw [jr ⟨hp1,hp2⟩];simp only [hp1,hm,jl,jg,jk,jf,gt.idx1,hp2,jo,mo.1,ji];have nm:=ZS (d:=d) gt;cases e:Zc t1.tail with
  |error er=>
   obtain ⟨st,h⟩:=nm.err e;simp only [h,Y2 g1,hp1,hm,jl,jg,jk,gt.idx1,hp2,jo,mo.1,jf,ji,jj,ZJ];exact ⟨st,rfl⟩
  |ok q=>
   obtain ⟨k,t2⟩:=q;obtain ⟨h,g2,l2⟩:=nm.out e;have hk2:=Xw (zH e);simp only [h,Y2 g1,hp1,hm,jl,jg,jk,gt.idx1,hp2,jo,mo.1,jf,ji,jj,ZJ];simp only [ndT,hk2,hn];exact .ok g2 (by omega) rfl
 ·rw [js hp];by_cases hq:isP [45] t1=true/\(hd t1.tail).k_=1
  ·obtain ⟨hp1,hp2⟩:=hq;have hm:isP [43] t1=false:=by
    grind
   have gt:=g1.is hp1;have mo:=(ZM (d:=d) g1 [45]).out (show zX [45] t1 = .ok ((),t1.tail) by unfold zX;grind);rw [jr ⟨hp1,hp2⟩];simp only [hp1,hm,jl,jg,jk,jf,gt.idx1,hp2,jo,mo.1,ji];have nm:=ZS (d:=d) gt;cases e:Zc t1.tail with
   |error er=>
    obtain ⟨st,h⟩:=nm.err e;simp only [h,Y2 g1,hp1,hm,jl,jg,jk,gt.idx1,hp2,jo,mo.1,jf,ji,jj,ZJ];exact ⟨st,rfl⟩
   |ok q=>
    obtain ⟨k,t2⟩:=q;obtain ⟨h,g2,l2⟩:=nm.out e;have hk2:=Xw (zH e);simp only [h,Y2 g1,hp1,hm,jl,jg,jk,gt.idx1,hp2,jo,mo.1,jf,ji,jj,ZJ];simp only [ndT,hk2,hn];exact .ok g2 (by omega) rfl
  ·rw [js hq];have fin:Sm d (ts.length - 1) (xK n t1) ((q5e (q8.mk (ndT n).1 (ndT n).2.1 (ndT n).2.2.1 (ndT n).2.2.2 (Sl.mk [] false),⟨⟨t1,true⟩,d⟩)).bind fun y=>Sum.elim (fun e=>some (Sum.inl e)) (fun z=>some (Sum.inr (kg z.1,z.2))) y) Sum.inl (fun n st=>Sum.inr (n,st)):=by
    refine Sm.mono ?_ l1;rw [show q8.mk (ndT n).1 (ndT n).2.1 (ndT n).2.2.1 (ndT n).2.2.2 (Sl.mk [] false)=n from hn];refine Sm.map (zlW g1) (fun e=>rfl) fun a t2 e _=>?_
    simp only [ji,zn]
   cases hp1:isP [43] t1 with
   |true=>
    have gt:=g1.is hp1;have hm:=zgR hp1;have hk1:¬ (hd t1.tail).k_=1:=fun e=>hp ⟨hp1,e⟩
    simp only [Y2 g1,hp1,hm,jl,jg,jk,jf,gt.idx1,hk1,jm,ji,ZJ];exact fin
   |false=>
    cases hq1:isP [45] t1 with
    |true=>
     have gt:=g1.is hq1;have hk1:¬ (hd t1.tail).k_=1:=fun e=>hq ⟨hq1,e⟩
     simp only [Y2 g1,hp1,hq1,jl,jg,jk,jf,gt.idx1,hk1,jm,ji,ZJ];exact fin
    |false=>
     simp only [Y2 g1,hp1,hq1,jg,jk,jf,ji,ZJ];exact fin
end
section
variable {d:Int}{n:Nat}{ts:List Tk}
theorem zsw (g:TGood ts) (n:Nd):Sm d (ts.length - 1) (WT n ts) (q8n (n,⟨⟨ts,true⟩,d⟩)) Sum.inl (fun n st=>Sum.inr (ndK n st)):=by
 show Sm d _ _ ((q23 (lit [40],⟨⟨ts,true⟩,d⟩)).bind _) _ _;rw [Y2 g,jf];have ht:=g.tail_len;unfold WT;cases h1:isP [40] ts with
 |true=>
  simp only [jl,ga];exact (zgO g).bd (fun e=>rfl) fun v t1 _ g1 l1 =>.ok g1 (by omega) rfl
 |false=>
 simp only [jg,jk,zZ g,jf];cases h2:isP [91] ts with
 |true=>
  simp only [jl,ga];refine (XI (g.is h2)).bd (fun e=>rfl) fun a t1 ea g1 l1=>?_
  show Sm d _ _ (((q12 (lit [93],⟨⟨t1,true⟩,d⟩)).bind _).bind _) _ _;rw [ga];refine (ZM g1 [93]).bd (fun e=>rfl) fun _ t2 _ g2 l2=>?_
  show Sm d _ _ (((q12 (lit [61],⟨⟨t2,true⟩,d⟩)).bind _).bind _) _ _;rw [ga];refine (ZM g2 [61]).bd (fun e=>rfl) fun _ t3 _ g3 l3=>?_
  show Sm d _ _ (((q2b ⟨⟨t3,true⟩,d⟩).bind _).bind _) _ _;rw [ga];refine (XI g3).bd (fun e=>rfl) fun b t4 eb g4 l4 =>.ok g4 (by omega) ?_
  simp only [ji,jj,jf,zn];rfl
 |false=>
 simp only [jg,jk,jf,ji];refine (ZM g [61]).bd (fun e=>rfl) fun _ t1 _ g1 l1=>?_
 refine (zvD g1).bd (fun e=>rfl) fun a t2 _ g2 l2 =>.ok g2 (by omega) ?_
 simp only [ji,zn];rfl
def zfI (d:Int) (h:PSt->Uc ((Int×Int)×PSt⊕(Int×Ua×Int×Int)×PSt×Sl Nd)) (blk:List Tk->PR Nd):Prop:=∀ ts,TGood ts->Sm d (ts.length - 1) (blk ts) (h ⟨⟨ts,true⟩,d⟩) Sum.inl (fun n st=>Sum.inr (ndK n st))
variable {h:PSt->Uc ((Int×Int)×PSt⊕(Int×Ua×Int×Int)×PSt×Sl Nd)}{blk:List Tk->PR Nd}
theorem zbI {ts t1:List Tk}{n:Nd}(h:YM ts = .ok (n,t1)):∃ a b,n.K_=⟨[a,b],true⟩:=by
 obtain ⟨a,t,_,h⟩:=bd_ok h;obtain ⟨op,t2,_,h⟩:=bd_ok h;obtain ⟨b,t3,_,h⟩:=bd_ok h;grind
theorem zhA (hb:zfI d h blk) (g:TGood ts) (k a:Int):Sm d (ts.length - 1) (wu blk k a ts) (q3l h (k,a,⟨⟨ts,true⟩,d⟩)) Sum.inl (fun n st=>Sum.inr (ndK n st)):=by
 show Sm d _ _ ((q4f ⟨⟨ts,true⟩,d⟩).bind _) _ _;refine (zgP g).bd (fun e=>rfl) fun n t1 e1 g1 l1=>?_
 refine (hb t1 g1).bd (fun e=>rfl) fun b t2 e2 g2 l2 =>.ok g2 (by omega) ?_
 obtain ⟨x,y,hk⟩:=zbI e1;simp only [ji,ndK,ndT,hk,zn];rw [Vk (by simp)];rfl
theorem zcU {ts t1:List Tk}{n:Nd}{a:Int}(h:wu blk k a ts = .ok (n,t1)):∃ a b c,n.K_=⟨[a,b,c],true⟩:=by
 obtain ⟨m,t,e,h⟩:=bd_ok h;obtain ⟨b,t2,_,h⟩:=bd_ok h;obtain ⟨x,y,hk⟩:=zbI e;grind
theorem zbJ (x:Nd×Int):q7u x=some (⟨x.1.k_,x.1.T_,x.1.N_,x.2,x.1.K_⟩,x.2):=rfl
set_option maxHeartbeats 1000000 in
theorem zvE (hb:zfI d h blk) (g:TGood ts):Sm d (ts.length - 1) (YN blk ts) (q3e h ⟨⟨ts,true⟩,d⟩) Sum.inl (fun n st=>Sum.inr (n,st)):=by
 show Sm d _ _ ((q10 ⟨⟨ts,true⟩,d⟩).bind _) _ _;rw [ZL g,jf,zZ g,jf];have ht:=g.tail_len;unfold YN;cases h1:isP [102,114,101,101] ts with
 |true=>
  simp only [jl,ga];refine (ZS (g.is h1)).bd (fun e=>rfl) fun n t1 _ g1 l1=>?_
  refine Sm.mono (n:=t1.length - 1) ?_ (by omega);simp only [ji,zbJ,jf,ga,ndT];exact Sm.map (WU g1 ⟨12,n.T_,n.N_,(hd ts).a_,nilS⟩) (fun e=>rfl) fun a t2 ea g2=>by
   simp only [ji,jj,jf,zn]
 |false=>
 simp only [jg,jk,zZ g,jf];cases h2:isP [108,111,99,107] ts with
 |true=>
  simp only [jl,ga];refine (ztI (g.is h2) 13).bd (fun e=>rfl) fun n t1 _ g1 l1=>?_
  refine Sm.mono (n:=t1.length - 1) ?_ (by omega);simp only [ji,zbJ,jf,ga,ndT];exact Sm.map (WU g1 ⟨n.k_,n.T_,n.N_,(hd ts).a_,nilS⟩) (fun e=>rfl) fun a t2 ea g2=>by
   simp only [ji,jj,jf,zn]
 |false=>
 simp only [jg,jk,zZ g,jf];cases h3:isP [117,110,108,111,99,107] ts with
 |true=>
  simp only [jl,ga];refine (ztI (g.is h3) 14).bd (fun e=>rfl) fun n t1 _ g1 l1=>?_
  refine Sm.mono (n:=t1.length - 1) ?_ (by omega);simp only [ji,zbJ,jf,ga,ndT];exact Sm.map (WU g1 ⟨n.k_,n.T_,n.N_,(hd ts).a_,nilS⟩) (fun e=>rfl) fun a t2 ea g2=>by
   simp only [ji,jj,jf,zn]
 |false=>
 simp only [jg,jk,zZ g,jf];cases h4:isP [105,102] ts with
 |true=>
  simp only [jl,ga];refine (zhA hb (g.is h4) 15 (hd ts).a_).bd (fun e=>rfl) fun n t1 en g1 l1=>?_
  obtain ⟨x,y,z,hk⟩:=zcU en;simp only [ji,ndK,ndT,hk,zZ g1,jf,ga];cases h5:isP [101,108,115,101] t1 with
  |true=>
   have:=g1.tail_len;simp only [jl,ga];refine (hb t1.tail (g1.is h5)).bd (fun e=>rfl) fun b t2 _ g2 l2 =>.ok g2 (by omega) ?_
   simp only [ji,ndK,ndT,zn];rw [Vk (by simp)];rfl
  |false=>
   simp only [jg,jk];rw [Vk (by simp)];exact .ok g1 (by omega) rfl
 |false=>
 simp only [jg,jk,zZ g,jf];cases h5:isP [119,104,105,108,101] ts with
 |true=>
  simp only [jl,ga];refine Sm.mono (n:=ts.tail.length - 1) ?_ (by omega);exact Sm.map (zhA hb (g.is h5) 16 (hd ts).a_) (fun e=>rfl) fun a t1 ea g1=>by
   simp only [ji,jj,jf,ndK,ndT,zn]
 |false=>
 simp only [jg,jk,zZ g,jf];cases h6:isP [114,101,116,117,114,110] ts with
 |true=>
  have g1:=g.is h6;simp only [jl,Y2 g1,jf,ga];cases h7:isP [59] ts.tail with
  |true=>
   simp only [UJ,jg,jk,jl,jf,ji];refine Sm.mono (n:=ts.tail.length - 1) ?_ (by omega);show Sm d _ _ (((q6e (_,⟨⟨ts.tail,true⟩,d⟩)).bind _).bind _) _ _;rw [ga];exact Sm.map (WU g1 ⟨17,lit [],0,(hd ts).a_,nilS⟩) (fun e=>rfl) fun a t1 ea g1=>by
    simp only [ji,jj,jf,zn]
  |false=>
   simp only [UY,jg,jk,jl,ga];refine (XI g1).bd (fun e=>rfl) fun a t1 ea g2 l2=>?_
   simp only [ji,jf,ga,zn];refine Sm.mono (n:=t1.length - 1) ?_ (by omega);exact Sm.map (WU g2 ⟨17,lit [],0,(hd ts).a_,⟨[a],true⟩⟩) (fun e=>rfl) fun b t2 eb g3=>by
    simp only [ji,jj,jf,zn]
 |false=>
 simp only [jg,jk,zZ g,jf];cases h7:isP [97,98,111,114,116] ts with
 |true=>
  have g1:=g.is h7;simp only [jl,ga];refine Sm.mono (n:=ts.tail.length - 1) ?_ (by omega);exact Sm.map (WU g1 ⟨18,lit [],0,(hd ts).a_,nilS⟩) (fun e=>rfl) fun a t2 ea g2=>by
   simp only [ji,jj,jf,zn]
 |false=>
 simp only [jg,jk,zZ g,jf];cases h8:isP [102,111,114,107] ts with
 |true=>
  simp only [jl,ga];refine (ZS (g.is h8)).bd (fun e=>rfl) fun n t1 _ g1 l1=>?_
  simp only [ji,ga];refine (zgO g1).bd (fun e=>rfl) fun ks t2 _ g2 l2=>?_
  simp only [ji,zbJ,jf,ga,ndT];refine Sm.mono (n:=t2.length - 1) ?_ (by omega);exact Sm.map (WU g2 ⟨19,n.T_,n.N_,(hd ts).a_,ks⟩) (fun e=>rfl) fun b t2 eb g3=>by
   simp only [ji,jj,jf,zn]
 |false=>
 simp only [jg,jk,jf,ji,ga];refine (ZS g).bd (fun e=>rfl) fun n t1 en g1 l1=>?_
 simp only [ji,ga];rw [show q8.mk (ndT n).1 (ndT n).2.1 (ndT n).2.2.1 (ndT n).2.2.2 (Sl.mk [] false)=n from Xw (zH en)];refine (zsw g1 n).bd (fun e=>rfl) fun m t2 _ g2 l2=>?_
 simp only [ji,ga,ndK,ndT,zn];refine Sm.mono (n:=t2.length - 1) ?_ (by omega);exact Sm.map (WU g2 m) (fun e=>rfl) fun b t2 eb g3=>by
  grind
end
section
variable {d:Int}{n:Nat}{ts:List Tk}
variable {h:PSt->Uc ((Int×Int)×PSt⊕(Int×Ua×Int×Int)×PSt×Sl Nd)}{blk:List Tk->PR Nd}
theorem ztJ {acc:List Nd}{a:Nd}(h:acc.length<=30000):zp 64 (mkS acc) [a]=some (mkS (acc++[a])):=by
 rw [Yg (by simp [mkS];omega) (by simp [mkS];omega)];simp [mkS]
noncomputable abbrev zgS (h:PSt->Uc ((Int×Int)×PSt⊕(Int×Ua×Int×Int)×PSt×Sl Nd)):=qdk q10 q23 q1n q12 qx (q3e h)
theorem zfJ (hb:zfI d h blk) {u v:Int×Ua×Int×Int}:∀ (k:Nat) (ts:List Tk) (acc:List Nd),TGood ts->ts.length<=k->acc.length+ts.length<=30000->
    Sm d (ts.length - 1) (xw (YN blk) k acc ts) (lpO (zgS h) (⟨⟨ts,true⟩,d⟩,u,v,mkS acc)) Sum.inl (fun l st=>Sum.inr (st,u,v,mkS l))/\∀ l t1,xw (YN blk) k acc ts = .ok (l,t1)->l.length+t1.length<=acc.length+ts.length
  |0,ts,acc,g,hk,ha=>absurd (Uw (by omega)) g.ne
  |k+1,ts,acc,g,hk,ha=>by
    have ht:=g.tail_len;rw [Zr];show Sm d _ (if isP [125] ts=true then _ else _) ((((qx (lit [125],⟨⟨ts,true⟩,d⟩)).bind _)).bind _) _ _/\∀ l t1,(if isP [125] ts=true then _ else _)=_->_
    rw [zZ g,jf];cases e:isP [125] ts with
    |true=>
      simp only [jl,UJ,jg,jk];exact ⟨.ok (g.is e) (by omega) rfl,fun l t1 e=>by cases e;omega⟩
    |false=>
      simp only [jg,jk,UY,jl];have s:=zvE hb g;cases es:YN blk ts with
      |error er=>
        obtain ⟨st,s⟩:=s.err es;rw [s];exact ⟨⟨st,rfl⟩,fun l t1 e=>by cases e⟩
      |ok p=>
        obtain ⟨a,t1⟩:=p;obtain ⟨s,g1,l1⟩:=s.out es;rw [s];simp only [jf,ji,zn];rw [ztJ (by omega)];simp only [jf];have ih:=zfJ hb (u:=u) (v:=v) k t1 (acc++[a]) g1 (by omega) (by simp;omega);exact ⟨ih.1.mono (by omega),fun l t2 e2=>by have:=ih.2 l t2 e2;grind⟩
theorem zki:∀ (r:Nat) (k:Nat) (d:Int),d=8 - (r:Int)->0<=d->r+1<=k->zfI d (q35 k) (yd r)
  |r,0,d,_,_,hk=>by omega
  |0,k+1,d,hd',h0,hk=>by
    intro ts g;show Sm d _ _ ((q10 ⟨⟨ts,true⟩,d⟩).bind _) _ _;rw [ZL g,jf,Y2 g,jf];unfold yd;cases e:isP [123] ts with
    |true=>
      have:decide (8<=d)=true:=gc (by omega);simp only [jl,jf,this,vD g];exact ⟨_,rfl⟩
    |false=>
      simp only [jg,jk,jf];have hm:zX [123] ts = .error ((hd ts).a_,20):=by unfold zX;rw [e];rfl
      obtain ⟨st,s⟩:=(ZM (d:=d) g [123]).err hm;rw [s];exact ⟨st,rfl⟩
  |r+1,k+1,d,hd',h0,hk=>by
    intro ts g;show Sm d _ _ ((q10 ⟨⟨ts,true⟩,d⟩).bind _) _ _;rw [ZL g,jf,Y2 g,jf];unfold yd;have h8:decide (8<=d)=false:=decide_eq_false (by omega);have hb:=zki r k (d+1) (by omega) (by omega) (by omega);have hw:Ud (d+1)=d+1:=zM (by omega) (by omega);have hw2:Ud (d+1 - 1)=d:=by rw [zM (by omega) (by omega)];omega
    have hlen:=g.len
    have fin:Sm d (ts.length - 1) ((zX [123] ts).bd fun _ t1=>(xw (YN (yd r)) t1.length [] t1).bd fun l t2 =>.ok (⟨9,lit [],0,(hd ts).a_,mkS l⟩,t2))
        ((q12 (lit [123],⟨⟨ts,true⟩,d⟩)).bind fun y4=>Sum.elim (fun y5=>some (Sum.inl y5)) (fun y6=>(lpO (zgS (q35 k)) (q7.mk y6.Z_ (Ud (y6.D_+1)),(0,lit [],0,0),(9,lit [],0,(hd ts).a_),Sl.mk [] false)).bind fun y13=>
          Sum.elim (fun y14=>some (Sum.inl y14)) (fun y15=>some (Sum.inr (y15.2.2.1,q7.mk y15.1.Z_ (Ud (y15.1.D_ - 1)),y15.2.2.2))) y13) y4) Sum.inl (fun n st=>Sum.inr (ndK n st)):=by
      refine (ZM g [123]).bd (fun e=>rfl) fun _ t1 _ g1 l1=>?_
      have lp:=(zfJ hb (u:=(0,lit [],0,0)) (v:=(9,lit [],0,(hd ts).a_)) t1.length t1 [] g1 (Ur _) (by simp;omega)).1;simp only [ji,hw];show Sm d _ _ ((lpO (zgS (q35 k)) (⟨⟨t1,true⟩,d+1⟩,(0,lit [],0,0),(9,lit [],0,(hd ts).a_),mkS [])).bind _) _ _;cases es:xw (YN (yd r)) t1.length [] t1 with
      |error er=>obtain ⟨st,s⟩:=lp.err es;rw [s];exact ⟨st,rfl⟩
      |ok p=>
        obtain ⟨l,t2⟩:=p;obtain ⟨s,g2,l2⟩:=lp.out es;rw [s];simp only [jf,ji,hw2];exact .ok g2 (by omega) rfl
    cases e:isP [123] ts with
    |true=>
      grind
    |false=>
      grind
theorem zvF:zfI 0 qbn (yd 8):=zki 8 100000 0 (by omega) (by omega) (by omega)
theorem zy8 {xs l:List Nd}{b:Bool}(h:xs.length+l.length<=60000) (hl:l≠[]):zp 64 (⟨xs,b⟩:Sl Nd) l=some ⟨xs++l,true⟩:=by
 rw [Yg (by simp;omega) (by simp;omega)];grind
theorem zy9 (g:TGood ts) (at_:Int):Sm 0 (ts.length - 1) (fnP at_ ts) (qam (at_,⟨⟨ts,true⟩,0⟩)) Sum.inl (fun n st=>Sum.inr (ndK n st)):=by
 have hlen:=g.len;show Sm 0 _ _ ((q17 ⟨⟨ts,true⟩,0⟩).bind _) _ _;refine (ZS g).bd (fun e=>rfl) fun n t1 _ g1 l1=>?_
 refine (ZM g1 [40]).bd (fun e=>rfl) fun _ t2 _ g2 l2=>?_
 simp only [ji,Y2 g2,jf];have h2:=g2.tail_len;refine Sm.bd (er:=Sum.inl) (ok:=fun (l:List Nd) (st:PSt)=>Sum.inr (st,(0,lit [],0,0),(6,n.T_,n.N_,at_),(mkS l:Sl Nd))) (n:=t2.length) ?_ (fun e=>rfl) fun ks t3 e3 g3 l3=>?_
 ·cases e:isP [41] t2 with
  |true=>exact .ok g2 (Ur _) rfl
  |false=>
   simp only [jg,jk,UY,jl];refine Sm.mono (n:=t2.length - 1) ?_ (by omega);obtain ⟨k1,k2⟩:=zcc (d:=0) g2;refine Sm.map k1 (fun e=>rfl) fun l t3 el g3=>?_
   have hne:l≠[]:=by
    obtain ⟨a,t,_,e2⟩:=bd_ok el;have:∀ (k:Nat) (acc:List Nd) (t:List Tk) (l:List Nd) (t3:List Tk),acc≠[]->Zq xv k acc t = .ok (l,t3)->l≠[]:=by
     intro k
     induction k with
     |zero=>intro acc t l t3 ha e;cases e;exact ha
     |succ k ih=>
      intro acc t l t3 ha e;unfold Zq at e;split at e
      ·obtain ⟨a,t',_,e⟩:=bd_ok e;grind
      grind
    grind
   cases l with
   |nil=>grind
   |cons a l=>rfl
 have hks:ks.length<=20001:=by
  have hlen2:=g2.len;split at e3
  ·cases e3;simp
  ·have:=(zcc (d:=0) g2).2 ks t3 e3;omega
 refine (ZM g3 [41]).bd (fun e=>rfl) fun _ t4 _ g4 l4=>?_
 simp only [ji,zZ g4,jf];have h4:=g4.tail_len;refine Sm.bd (er:=Sum.inl) (ok:=fun (m:Nd) (st:PSt)=>Sum.inr (st,(0,lit [],0,0),(6,n.T_,n.N_,at_),m,(mkS ks:Sl Nd))) (n:=t4.length) ?_ (fun e=>rfl) fun ret t5 e5 g5 l5=>?_
 ·cases e:isP [45,62] t4 with
  |true=>
   have g5:=g4.is e;simp only [jl,Y2 g5,jf];cases e2:isP [38] t4.tail with
   |true=>simp only [jl,vD g5,jf];exact ⟨_,rfl⟩
   |false=>
    simp only [jg,jk];refine Sm.mono (n:=t4.tail.length - 1) ?_ (by omega);exact Sm.map (zlY g5) (fun e=>rfl) fun a t _ _=>by simp only [jj,zn]
  |false=>
   simp only [jg,jk,ZL g4,jf];exact .ok g4 (Ur _) rfl
 refine (zvF t5 g5).bd (fun e=>rfl) fun b t6 _ g6 l6 =>.ok g6 (by omega) ?_
 simp only [ji,ndK,ndT,zn,mkS];rw [zy8 (by simp;omega) (by simp)];rfl
end
section
mutual
def zm:Nd->Nat
 |⟨_,_,_,_,ks⟩=>ztK ks+1
def ztK:Sl Nd->Nat
 |⟨xs,_⟩=>ze xs
def ze:List Nd->Nat
 |[]=>0
 |a::r=>zm a+ze r
end
theorem zl (n:Nd):zm n=ze n.K_.xs+1:=by
 obtain ⟨a,b,c,d,⟨xs,nn⟩⟩:=n;simp [zm,ztK]
theorem zQ:∀ (a b:List Nd),ze (a++b)=ze a+ze b
 |[],b=>by simp [ze]
 |x::a,b=>by simp [ze,zQ a b];omega
theorem zN {ts:List Tk}(h:isP s ts=true):ts.tail.length+1=ts.length:=by
 cases ts with
 |nil=>exact absurd rfl (zeI h)
 |cons=>simp
theorem Zo {ts t1:List Tk}{u:Unit}(h:zX s ts = .ok (u,t1)):t1.length+1=ts.length:=by
 unfold zX at h;split at h
 ·rename_i h1;cases h;exact zN h1
 ·cases h
theorem zhB (hk:k≠0) {ts t1:List Tk}{t:Tk}(h:X5 k ts = .ok (t,t1)):t1.length+1=ts.length:=by
 unfold X5 at h;split at h
 ·rename_i h1;cases h;cases ts with
  |nil=>exact absurd h1.symm hk
  |cons=>simp
 ·cases h
theorem x5 {sg:Int}{ts t1:List Tk}{v:Int}(h:Yh sg ts = .ok (v,t1)):t1.length+1=ts.length:=by
 obtain ⟨a,t,e,h⟩:=bd_ok h;cases h;exact zhB (by omega) e
def Sz (p:List Tk->PR Nd):Prop:=∀ ts n t1,p ts = .ok (n,t1)->zm n+3 * t1.length<=3 * ts.length/\t1.length+1<=ts.length
def SzL (p:List Tk->PR (List Nd)):Prop:=∀ ts n t1,p ts = .ok (n,t1)->ze n+3 * t1.length<=3 * ts.length/\t1.length+1<=ts.length
theorem ZP {ts t1:List Tk}{n:Nd}(h:Zc ts = .ok (n,t1)):zm n=1/\t1.length+1=ts.length:=by
 obtain ⟨a,t,e,h⟩:=bd_ok h;cases h;exact ⟨by simp [zl,ze],zhB (by omega) e⟩
theorem zkj {ts t1:List Tk}{n m:Nd}(h:xK n ts = .ok (m,t1)):zm m=zm n/\t1.length<=ts.length:=by
 unfold xK at h;split at h
 ·rename_i hp;obtain ⟨a,t,e,h⟩:=bd_ok h;cases h;have:=x5 e;have:=zN hp;exact ⟨by simp [zl,Nd.num],by omega⟩
 ·split at h
  ·rename_i hp;obtain ⟨a,t,e,h⟩:=bd_ok h;cases h;have:=x5 e;have:=zN hp;exact ⟨by simp [zl,Nd.num],by omega⟩
  grind
theorem wh {ts t1:List Tk}{n:Nd}(h:Z6 ts = .ok (n,t1)):zm n=1/\t1.length+1<=ts.length:=by
 unfold Z6 at h;split at h
 ·obtain ⟨a,t,e,h⟩:=bd_ok h;cases h;have:=x5 e;exact ⟨by simp [zl,ze],by omega⟩
 ·split at h
  ·rename_i hp;obtain ⟨a,t,e,h⟩:=bd_ok h;cases h;have:=x5 e;have:=zN hp;exact ⟨by simp [zl,ze],by omega⟩
  ·obtain ⟨a,t,e,h⟩:=bd_ok h;have h1:=ZP e;have h2:=zkj h;grind
theorem zed {one:List Tk->PR Nd}(ho:Sz one):∀ (k:Nat) (acc:List Nd) (ts:List Tk) (l:List Nd) (t1:List Tk),Zq one k acc ts = .ok (l,t1)->ze l+3 * t1.length<=ze acc+3 * ts.length/\t1.length<=ts.length
 |0,acc,ts,l,t1,h=>by cases h;grind
 |k+1,acc,ts,l,t1,h=>by
  unfold Zq at h;split at h
  ·rename_i hp;obtain ⟨a,t,e,h⟩:=bd_ok h;have h1:=ho _ _ _ e;have h2:=zed ho k _ _ _ _ h;have h3:=zN hp;rw [zQ] at h2;simp only [ze] at h2;omega
  grind
theorem zbK {one:List Tk->PR Nd}(ho:Sz one):SzL (Z7 one):=by
 intro ts l t1 h;obtain ⟨a,t,e,h⟩:=bd_ok h;have h1:=ho _ _ _ e;have h2:=zed ho _ _ _ _ _ h;simp only [ze] at h2;omega
theorem zkk:Sz Z6:=fun ts n t1 h=>by have:=wh h;omega
theorem zeJ {ts t1:List Tk}{ks:Sl Nd}(h:VK ts = .ok (ks,t1)):ze ks.xs+3 * t1.length+3<=3 * ts.length/\t1.length+1<=ts.length:=by
 obtain ⟨u,t,e,h⟩:=bd_ok h;have h0:=Zo e;split at h
 ·rename_i hp;have:=zN hp;cases h;simp [ze];omega
 ·obtain ⟨l,t2,e2,h⟩:=bd_ok h;obtain ⟨u,t3,e3,h⟩:=bd_ok h;cases h;have h1:=zbK zkk _ _ _ e2;have h2:=Zo e3;grind
theorem zcV:Sz xu:=fun ts n t1 h=>by
 obtain ⟨a,t,e,h⟩:=bd_ok h;have h0:=ZP e;split at h
 ·rename_i hp;have:=zN hp;obtain ⟨k,t2,e2,h⟩:=bd_ok h;obtain ⟨u,t3,e3,h⟩:=bd_ok h;cases h;have h1:=ZP e2;have h2:=Zo e3;simp only [zl,ze] at h1 |-;omega
 ·cases h;simp only [zl,ze];omega
theorem zsx {ts t1:List Tk}{s:Ua}(h:zbG ts = .ok (s,t1)):t1.length+1=ts.length:=by
 unfold zbG at h;split at h
 ·rename_i hp;cases h;exact zN hp
 ·split at h
  ·rename_i hp;cases h;exact zN hp
  ·split at h
   ·rename_i hp;cases h;exact zN hp
   ·cases h
theorem zkl:Sz YM:=fun ts n t1 h=>by
 obtain ⟨a,t,e,h⟩:=bd_ok h;obtain ⟨op,t2,e2,h⟩:=bd_ok h;obtain ⟨b,t3,e3,h⟩:=bd_ok h;cases h;have h0:=wh e;have h1:=zsx e2;have h2:=wh e3;simp only [zl,ze] at h0 h2 |-;omega
theorem zsy:Sz WH:=fun ts n t1 h=>by
 have go:∀ {w:List UInt8} {a b:Ua} {c d:Int},isP w ts=true->((Zc ts.tail).bd fun k t1=>(.ok (⟨2,a,c,d,⟨[k],true⟩⟩,t1):PR Nd)) = .ok (n,t1)->zm n+3 * t1.length<=3 * ts.length/\t1.length+1<=ts.length:=by
  intro w a b c d hp h;obtain ⟨k,t,e,h⟩:=bd_ok h;cases h;have h0:=ZP e;have:=zN hp;simp only [zl,ze] at h0 |-;omega
 unfold WH at h;split at h
 ·rename_i hp;have:=zN hp;cases h;simp only [zl,ze];omega
 ·split at h
  ·rename_i hp;have:=zN hp;cases h;simp only [zl,ze];omega
  ·split at h
   ·rename_i hp;exact go (b:=lit []) hp h
   ·split at h
    ·rename_i hp;exact go (b:=lit []) hp h
    ·split at h
     ·rename_i hp;exact go (b:=lit []) hp h
     ·cases h
theorem zvG (a:Int):Sz (zcS a):=fun ts n t1 h=>by
 obtain ⟨m,t,e,h⟩:=bd_ok h;obtain ⟨s,t2,e2,h⟩:=bd_ok h;obtain ⟨ks,t3,e3,h⟩:=bd_ok h;obtain ⟨ks2,t4,e4,h⟩:=bd_ok h;obtain ⟨u,t5,e5,h⟩:=bd_ok h;cases h;have h0:=ZP e;have h1:=zsy _ _ _ e2;have h5:=Zo e5;have h3:ze ks+3 * t3.length<=zm s+3 * t2.length:=by
  split at e3
  ·rename_i hp;obtain ⟨l,t6,e6,e7⟩:=bd_ok e3;obtain ⟨u,t7,e7,e8⟩:=bd_ok e7;cases e8;have:=zN hp;have h6:=zbK zcV _ _ _ e6;have:=Zo e7;simp only [List.cons_append,UK,ze];omega
  ·cases e3;simp only [ze];omega
 have h4:ze ks2+3 * t4.length<=ze ks+3 * t3.length:=by
  split at e4
  ·rename_i hp;obtain ⟨l,t6,e6,e7⟩:=bd_ok e4;cases e7;have:=zN hp;have h6:=zbK zkl _ _ _ e6;rw [zQ];omega
  grind
 simp only [zl] at h1 h3 |-;omega
theorem zkm:Sz wR:=fun ts n t1 h=>by
 have go:∀ {t0:List Tk} {a:Ua} {c d:Int},t0.length+1<=ts.length->((Zc t0).bd fun k t1=>(.ok (⟨8,a,c,d,⟨[k],true⟩⟩,t1):PR Nd)) = .ok (n,t1)->zm n+3 * t1.length<=3 * ts.length/\t1.length+1<=ts.length:=by
  intro t0 a c d hp h;obtain ⟨k,t,e,h⟩:=bd_ok h;cases h;have h0:=ZP e;simp only [zl,ze] at h0 |-;omega
 unfold wR at h;split at h
 ·rename_i hp;have:=zN hp;cases h;simp only [zl,ze];omega
 ·split at h
  ·rename_i hp;exact go (by have:=zN hp;omega) h
  ·obtain ⟨u,t,e,h⟩:=bd_ok h;have:=Zo e;split at h
   ·rename_i hp;exact go (by grind) h
   ·exact go (by omega) h
theorem zqo:Sz xv:=fun ts n t1 h=>by
 obtain ⟨m,t,e,h⟩:=bd_ok h;obtain ⟨s,t2,e2,h⟩:=bd_ok h;obtain ⟨k,t3,e3,h⟩:=bd_ok h;cases h;have h0:=ZP e;have h1:=Zo e2;have h2:=zkm _ _ _ e3;simp only [zl,ze] at h2 |-;omega
theorem zqp {ts t1:List Tk}{n:Nd}(h:atP k ts = .ok (n,t1)):zm n=1/\t1.length+1<=ts.length:=by
 obtain ⟨m,t,e,h⟩:=bd_ok h;obtain ⟨s,t2,e2,h⟩:=bd_ok h;obtain ⟨v,t3,e3,h⟩:=bd_ok h;obtain ⟨u,t4,e4,h⟩:=bd_ok h;cases h;have h0:=ZP e;have h1:=Zo e2;have h2:=x5 e3;have h3:=Zo e4;exact ⟨by simp [zl,ze],by omega⟩
theorem zsz:Sz vf:=fun ts n t1 h=>by
 unfold vf at h;split at h
 ·rename_i hp;obtain ⟨a,t,e,h⟩:=bd_ok h;cases h;have:=zN hp;have:=x5 e;simp only [zl,ze];omega
 split at h
 ·rename_i hp;obtain ⟨a,t,e,h⟩:=bd_ok h;cases h;have:=zN hp;have:=ZP e;simp only [zl,ze];omega
 split at h
 ·rename_i hp;have:=zN hp;split at h
  ·rename_i hq;obtain ⟨a,t,e,h⟩:=bd_ok h;cases h;have:=zN hq;have:=ZP e;simp only [zl,ze];omega
  ·obtain ⟨a,t,e,h⟩:=bd_ok h;cases h;have:=ZP e;simp only [zl,ze];omega
 split at h
 ·exact zkk _ _ _ h
 obtain ⟨m,t,e,h⟩:=bd_ok h;have h0:=ZP e;split at h
 ·obtain ⟨ks,t2,e2,h⟩:=bd_ok h;cases h;have:=zeJ e2;simp only [zl];omega
 split at h
 ·rename_i hp;obtain ⟨a,t2,e2,h⟩:=bd_ok h;obtain ⟨u,t3,e3,h⟩:=bd_ok h;cases h;have:=zN hp;have h1:=wh e2;have:=Zo e3;simp only [zl,ze] at h1 |-;omega
 split at h
 ·rename_i hp;obtain ⟨a,t2,e2,h⟩:=bd_ok h;cases h;have:=zN hp.1;have h1:=ZP e2;simp only [zl,ze] at h0 h1 |-;omega
 split at h
 ·rename_i hp;obtain ⟨a,t2,e2,h⟩:=bd_ok h;cases h;have:=zN hp.1;have h1:=ZP e2;simp only [zl,ze] at h0 h1 |-;omega
 ·have:=zkj h;omega
theorem zqq {m n:Nd}{ts t1:List Tk}(h:WT m ts = .ok (n,t1)):zm n+3 * t1.length<=3 * ts.length+2/\t1.length+1<=ts.length:=by
 unfold WT at h;split at h
 ·obtain ⟨ks,t2,e2,h⟩:=bd_ok h;cases h;have:=zeJ e2;simp only [zl,ze];omega
 split at h
 ·rename_i hp;obtain ⟨a,t2,e2,h⟩:=bd_ok h;obtain ⟨u,t3,e3,h⟩:=bd_ok h;obtain ⟨u,t4,e4,h⟩:=bd_ok h;obtain ⟨b,t5,e5,h⟩:=bd_ok h;cases h;have:=zN hp;have h1:=wh e2;have:=Zo e3;have:=Zo e4;have h2:=wh e5;simp only [zl,ze] at h1 h2 |-;omega
 ·obtain ⟨u,t4,e4,h⟩:=bd_ok h;obtain ⟨b,t5,e5,h⟩:=bd_ok h;cases h;have:=Zo e4;have h2:=zsz _ _ _ e5;simp only [zl,ze] at h2 |-;omega
theorem wv {m n:Nd}{ts t1:List Tk}(h:Wt m ts = .ok (n,t1)):n=m/\t1.length+1=ts.length:=by
 obtain ⟨u,t,e,h⟩:=bd_ok h;cases h;exact ⟨rfl,Zo e⟩
theorem zfK {blk:List Tk->PR Nd}(hb:Sz blk) (k a:Int):Sz (wu blk k a):=fun ts n t1 h=>by
 obtain ⟨m,t,e,h⟩:=bd_ok h;obtain ⟨b,t2,e2,h⟩:=bd_ok h;cases h;have h0:=zkl _ _ _ e;have h1:=hb _ _ _ e2;simp only [zl] at h0 h1 |-
 simp only [zQ,ze,zl];omega
theorem zsA {blk:List Tk->PR Nd}(hb:Sz blk):Sz (YN blk):=fun ts n t1 h=>by
 unfold YN at h;split at h
 ·rename_i hp;obtain ⟨a,t,e,h⟩:=bd_ok h;have:=zN hp;have:=ZP e;obtain ⟨rfl,h2⟩:=wv h;simp only [zl,ze];omega
 split at h
 ·rename_i hp;obtain ⟨a,t,e,h⟩:=bd_ok h;have:=zN hp;have:=zqp e;obtain ⟨rfl,h2⟩:=wv h;simp only [zl,ze];omega
 split at h
 ·rename_i hp;obtain ⟨a,t,e,h⟩:=bd_ok h;have:=zN hp;have:=zqp e;obtain ⟨rfl,h2⟩:=wv h;simp only [zl,ze];omega
 split at h
 ·rename_i hp;obtain ⟨a,t,e,h⟩:=bd_ok h;have:=zN hp;have h1:=zfK hb _ _ _ _ _ e;split at h
  ·rename_i hq;obtain ⟨b,t2,e2,h⟩:=bd_ok h;cases h;have:=zN hq;have h2:=hb _ _ _ e2;simp only [zl] at h1 h2 |-
   simp only [zQ,ze,zl];omega
  ·cases h;simp only [zl] at h1 |-
   simp only [zQ,ze,zl];omega
 split at h
 ·rename_i hp;have:=zN hp;have h1:=zfK hb _ _ _ _ _ h;omega
 split at h
 ·rename_i hp;have:=zN hp;split at h
  ·obtain ⟨rfl,h2⟩:=wv h;simp only [zl,ze];omega
  ·obtain ⟨a,t,e,h⟩:=bd_ok h;have h1:=wh e;obtain ⟨rfl,h2⟩:=wv h;simp only [zl,ze] at h1 |-;omega
 split at h
 ·rename_i hp;have:=zN hp;obtain ⟨rfl,h2⟩:=wv h;simp only [zl,ze];omega
 split at h
 ·rename_i hp;obtain ⟨a,t,e,h⟩:=bd_ok h;obtain ⟨ks,t2,e2,h⟩:=bd_ok h;have:=zN hp;have:=ZP e;have:=zeJ e2;obtain ⟨rfl,h2⟩:=wv h;simp only [zl];omega
 ·obtain ⟨a,t,e,h⟩:=bd_ok h;obtain ⟨m,t2,e2,h⟩:=bd_ok h;have:=ZP e;have:=zqq e2;obtain ⟨rfl,h2⟩:=wv h;omega
theorem zhC {one:List Tk->PR Nd}(ho:Sz one):∀ (k:Nat) (acc:List Nd) (ts:List Tk) (l:List Nd) (t1:List Tk),xw one k acc ts = .ok (l,t1)->ze l+3 * t1.length+3<=ze acc+3 * ts.length/\t1.length+1<=ts.length
 |0,acc,ts,l,t1,h=>by cases h
 |k+1,acc,ts,l,t1,h=>by
  unfold xw at h;split at h
  ·rename_i hp;have:=zN hp;cases h;omega
  ·obtain ⟨a,t,e,h⟩:=bd_ok h;have h1:=ho _ _ _ e;have h2:=zhC ho k _ _ _ _ h;rw [zQ] at h2;simp only [ze] at h2;omega
theorem zhD:∀ r,Sz (yd r)
 |0=>fun ts n t1 h=>by unfold yd at h;split at h <;> cases h
 |r+1=>fun ts n t1 h=>by
  obtain ⟨u,t,e,h⟩:=bd_ok (show ((zX [123] ts).bd _)=_ from h);obtain ⟨l,t2,e2,h⟩:=bd_ok h;cases h;have:=Zo e;have:=zhC (zsA (zhD r)) _ _ _ _ _ e2;simp only [zl,mkS,ze] at this |-;omega
theorem zxw (a:Int):Sz (fnP a):=fun ts n t1 h=>by
 obtain ⟨m,t,e,h⟩:=bd_ok h;obtain ⟨u,t2,e2,h⟩:=bd_ok h;obtain ⟨ps,t3,e3,h⟩:=bd_ok h;obtain ⟨u,t4,e4,h⟩:=bd_ok h;obtain ⟨ret,t5,e5,h⟩:=bd_ok h;obtain ⟨b,t6,e6,h⟩:=bd_ok h;cases h;have:=ZP e;have:=Zo e2;have:=Zo e4;have h6:=zhD _ _ _ _ e6;have h3:ze ps+3 * t3.length<=3 * t2.length:=by
  split at e3
  ·cases e3;simp only [ze];omega
  ·have:=zbK zqo _ _ _ e3;omega
 have h5:zm ret+3 * t5.length<=3 * t4.length+1:=by
  split at e5
  ·rename_i hp;have:=zN hp;split at e5
   ·cases e5
   ·have:=zkm _ _ _ e5;omega
  ·cases e5;simp only [zl,ze];omega
 simp only [zl] at h5 h6 |-
 simp only [zQ,ze,zl];omega
theorem VL:∀ (k:Nat) (acc:List Nd) (ts:List Tk) (l:List Nd) (t1:List Tk),Yr k acc ts = .ok (l,t1)->ze l+3 * t1.length<=ze acc+3 * ts.length
 |0,acc,ts,l,t1,h=>by cases h
 |k+1,acc,ts,l,t1,h=>by
  unfold Yr at h;split at h
  ·cases h;omega
  split at h
  ·rename_i hp;obtain ⟨a,t,e,h⟩:=bd_ok h;have:=zN hp;have h1:=zxw _ _ _ _ e;have h2:=VL k _ _ _ _ h;rw [zQ] at h2;simp only [ze] at h2;omega
  ·obtain ⟨u,t,e,h⟩:=bd_ok h;obtain ⟨a,t2,e2,h⟩:=bd_ok h;have:=Zo e;have h1:=zvG _ _ _ _ e2;have h2:=VL k _ _ _ _ h;rw [zQ] at h2;simp only [ze] at h2;omega
theorem Zi (n:Nd):1<=zm n:=by rw [zl];omega
theorem zee {xs:List Nd}{i:Nat}(h:i < xs.length):ze (xs.take (i+1))=ze (xs.take i)+zm xs[i]:=by
 rw [List.take_succ_eq_append_getElem h,zQ];simp [ze]
theorem zaI (xs:List Nd) (i:Nat):ze (xs.take i)<=ze xs:=by
 have:=zQ (xs.take i) (xs.drop i);rw [List.take_append_drop] at this;omega
theorem zlZ:∀ (k:Nat) (n:Nd),zm n<=k->zm n<=1000000000->q5g k n=some (zm n:Int)
 |0,n,h,_=>by have:=Zi n;omega
 |k+1,n,h,hb=>by
  obtain ⟨a,b,c,d,⟨xs,nn⟩⟩:=n;show ((lpO (qbo (q5g k)) (1,(⟨xs,nn⟩:Sl Nd),Sl.len (⟨xs,nn⟩:Sl Nd),0)).bind fun y3=>some y3)=_;have hs:zm ⟨a,b,c,d,⟨xs,nn⟩⟩=ze xs+1:=by rw [zl]
  have loop:∀ (m i:Nat),i+m=xs.length->lpO (qbo (q5g k)) (((1+ze (xs.take i):Nat):Int),(⟨xs,nn⟩:Sl Nd),Sl.len (⟨xs,nn⟩:Sl Nd),(i:Int))=some ((1+ze xs:Nat):Int):=by
   intro m
   induction m with
   |zero=>
    intro i hi;rw [Zr];have hf:qbo (q5g k) (((1+ze (xs.take i):Nat):Int),(⟨xs,nn⟩:Sl Nd),Sl.len (⟨xs,nn⟩:Sl Nd),(i:Int))=some (.done ((1+ze (xs.take i):Nat):Int)):=by
     show (if decide ((i:Int) < (xs.length:Int))=true then _ else _)=_;grind
    grind
   |succ m ih=>
    intro i hi;have hlt:i < xs.length:=by omega
    rw [Zr];have hg:zb (⟨xs,nn⟩:Sl Nd) (i:Int)=some xs[i]:=by
     unfold zb;rw [jr (by omega)];simp [hlt]
    have h1:=zee hlt;have h2:=zaI xs (i+1);have hr:q5g k xs[i]=some (zm xs[i]:Int):=zlZ k xs[i] (by omega) (by omega);have hlen:xs.length<=ze xs:=by
     clear hr h1 h2 hg ih hs hb h hlt hi
     induction xs with
     |nil=>simp
     |cons x r ih=>have:=Zi x;simp only [ze,ju];omega
    have hf:qbo (q5g k) (((1+ze (xs.take i):Nat):Int),(⟨xs,nn⟩:Sl Nd),Sl.len (⟨xs,nn⟩:Sl Nd),(i:Int))=some (.next (((1+ze (xs.take (i+1)):Nat):Int),(⟨xs,nn⟩:Sl Nd),Sl.len (⟨xs,nn⟩:Sl Nd),((i+1:Nat):Int))):=by
     show (if decide ((i:Int) < (xs.length:Int))=true then (zb (⟨xs,nn⟩:Sl Nd) (i:Int)).bind _ else _)=_;rw [jr (by simp;omega),hg];simp only [jf,zn,hr];rw [zM (by omega) (by omega),zM (by omega) (by omega),h1];have e1:((1+ze (xs.take i):Nat):Int)+(zm xs[i]:Int)=((1+(ze (xs.take i)+zm xs[i]):Nat):Int):=by omega
     grind
    grind
  have:=loop xs.length 0 (by omega);simp only [List.take_zero,ze,UB] at this;grind
theorem zvH {l:List UInt8}{n:Nat}{v:Int}(h:nxt l = .tok k n v):(0<=v/\v<=1099511627776)/\k≠0:=by
 cases l with
 |nil=>cases h
 |cons c r=>
  unfold nxt at h;simp only at h;split at h
  ·cases h
  split at h
  ·cases h
  split at h
  ·unfold XG at h;split at h
   ·cases h
   ·rename_i hb;cases h;unfold WS at hb;grind
  split at h
  ·unfold xq at h;grind
  ·unfold xr at h;grind
theorem zvI {l:List UInt8}{e:Int}(h:nxt l = .err e):e≠0:=by
 cases l with
 |nil=>cases h;omega
 |cons c r=>
  unfold nxt at h;simp only at h;split at h
  ·cases h
  split at h
  ·cases h
  split at h
  ·unfold XG at h;grind
  split at h
  ·unfold xq at h;grind
  ·unfold xr at h;grind
theorem zeK:∀ (f at_:Nat) (l:List UInt8) (ts:List Tk),wP f at_ l = .inr ts->∀ t∈ts,(0<=t.N_/\t.N_<=1099511627776)/\t.k_≠0
 |0,at_,l,ts,h=>by cases h;simp
 |f+1,at_,l,ts,h=>by
  unfold wP at h;split at h
  ·cases h;simp
  split at h
  ·exact zeK f _ _ ts h
  ·cases h
  ·rename_i k n v hn;split at h
   ·cases h
   ·rename_i ts' hts;cases h;intro t ht;rcases U7.1 ht with rfl | ht
    ·exact zvH hn
    ·exact zeK f _ _ ts' hts t ht
theorem zcW {s:Ua}(h:(ZY s).2.1=0):TGood (ZY s).2.2.xs/\(ZY s).2.2.nn=true:=by
 unfold ZY at h |-
 by_cases hs:16384 < s.size
 ·grind
 ·rw [js hs] at h |-
  cases e:Wq 0 (bs s) with
  |inl x=>
   rw [e] at h;exfalso;have:∀ (f a:Nat) (l:List UInt8) (x:Nat×Int),wP f a l = .inl x->x.2≠0:=by
    intro f
    induction f with
    |zero=>intro a l x h;cases h
    |succ f ih=>
     intro a l x h;unfold wP at h;split at h
     ·cases h
     split at h
     ·grind
     ·rename_i e he;cases h;exact zvI he
     grind
   exact this _ _ _ _ e h
  |inr ts=>
   have hl:=Vj (bs s).length (bs s) 0 ts (Ur _) e;rw [yc] at hl;refine ⟨⟨by simp,fun _=>by simp,by simp;omega,fun t ht=>?_⟩,rfl⟩;simp only [Ue,UT] at ht;rcases ht with ht | rfl
   ·exact (zeK _ _ _ _ e t ht).1
   ·simp
def Xe:Nd:=⟨0,lit [],0,0,nilS⟩
def xU (s:Ua):Nd×Int×Int:=if (ZY s).2.1≠0 then (Xe,(ZY s).1,(ZY s).2.1) else
 match Yr (ZY s).2.2.xs.length [] (ZY s).2.2.xs with
 | .error e=>(Xe,e.1,e.2)
 | .ok (ks,_)=>if 4096 < ze ks+1 then (Xe,0,22) else (⟨0,lit [],0,0,mkS ks⟩,0,0)
noncomputable abbrev Zs:=q5t qbl q10 qx qam q12 qaa qc4 qdy qb1
theorem zkn {acc:List Nd}{z a:Nd}(h:acc.length<=30000):∃ y8:Sl Nd,zp 64 (mkS acc) [z]=some y8/\zb y8 (Sl.len (mkS acc))=some z/\y8.set (Sl.len (mkS acc)) a=mkS (acc++[a]):=by
 refine ⟨_,ztJ h,?_,?_⟩
 ·unfold zb mkS Sl.len;grind
 ·unfold mkS Sl.len Sl.set;cases acc <;> simp
theorem zbL {a0 e0:Int}:∀ (k:Nat) (ts:List Tk) (acc:List Nd),TGood ts->ts.length<=k->acc.length+ts.length<=30000->
    match Yr k acc ts with
    | .error e=>∃ st u v w,lpO Zs ((0,lit [],0,0),a0,e0,⟨⟨ts,true⟩,0⟩,mkS acc)=some (.inl (e,u,v,w,st))
    | .ok (l,_)=>lpO Zs ((0,lit [],0,0),a0,e0,⟨⟨ts,true⟩,0⟩,mkS acc)=some (.inr ((0,lit [],0,0),a0,e0,mkS l))
  |0,ts,acc,g,hk,ha=>absurd (Uw (by omega)) g.ne
  |k+1,ts,acc,g,hk,ha=>by
    have ht:=g.tail_len;have key:∀ z,Zs ((0,lit [],0,0),a0,e0,⟨⟨ts,true⟩,0⟩,mkS acc)=some z->lpO Zs ((0,lit [],0,0),a0,e0,⟨⟨ts,true⟩,0⟩,mkS acc)=(match z with | .next x'=>lpO Zs x' | .done y=>some y):=fun z hz=>by rw [Zr,hz];grind
    unfold Yr;by_cases h0:(hd ts).k_=0
    · rw [jr h0];have hz:Zs ((0,lit [],0,0),a0,e0,⟨⟨ts,true⟩,0⟩,mkS acc)=some (.done (.inr ((0,lit [],0,0),a0,e0,mkS acc))):=by
        unfold Zs q5t;simp only [ZL g,jf,jh];grind
      exact key _ hz
    · rw [js h0];cases e:isP [102,110] ts with
      |true=>
        simp only [jl];have s:=zy9 (g.is e) (hd ts).a_;cases es:fnP (hd ts).a_ ts.tail with
        |error er=>
          obtain ⟨st,s⟩:=s.err es;have hz:Zs ((0,lit [],0,0),a0,e0,⟨⟨ts,true⟩,0⟩,mkS acc)=some (.done (.inl (er,(0,lit [],0,0),a0,e0,mkS acc))):=by
            unfold Zs q5t;simp only [ZL g,jf,jh];rw [jr h0];simp only [zZ g,jf,e,jl,s,jj]
          exact ⟨_,_,_,_,key _ hz⟩
        |ok p=>
          obtain ⟨a,t1⟩:=p;obtain ⟨s,g1,l1⟩:=s.out es;obtain ⟨y8,q1,q2,q3⟩:=zkn (acc:=acc) (z:=⟨0,lit [],0,0,Sl.mk [] false⟩) (a:=a) (by omega);have hz:Zs ((0,lit [],0,0),a0,e0,⟨⟨ts,true⟩,0⟩,mkS acc)=some (.next ((0,lit [],0,0),a0,e0,⟨⟨t1,true⟩,0⟩,mkS (acc++[a]))):=by
            unfold Zs q5t;simp only [ZL g,jf,jh];rw [jr h0];simp only [zZ g,jf,e,jl,s,ji,q1,q2,ZJ,ndK,ndT,zn,q3]
          have ih:=zbL (a0:=a0) (e0:=e0) k t1 (acc++[a]) g1 (by omega) (by simp;omega);rw [key _ hz];exact ih
      |false=>
        simp only [jg,jk];have s0:=ZM (d:=0) g [116,121,112,101];cases em:zX [116,121,112,101] ts with
        |error er=>
          obtain ⟨st,s⟩:=s0.err em;have hz:Zs ((0,lit [],0,0),a0,e0,⟨⟨ts,true⟩,0⟩,mkS acc)=some (.done (.inl (er,(0,lit [],0,0),a0,e0,mkS acc))):=by
            unfold Zs q5t;simp only [ZL g,jf,jh];rw [jr h0];simp only [zZ g,jf,e,jg,jk,s,jj]
          exact ⟨_,_,_,_,key _ hz⟩
        |ok p=>
          obtain ⟨u,t0⟩:=p;obtain ⟨s,g0,l0⟩:=s0.out em;have s1:=zxv (d:=0) g0 (hd ts).a_;simp only [PR.bd];cases es:zcS (hd ts).a_ t0 with
          |error er=>
            obtain ⟨st,s2⟩:=s1.err es;have hz:Zs ((0,lit [],0,0),a0,e0,⟨⟨ts,true⟩,0⟩,mkS acc)=some (.done (.inl (er,(0,lit [],0,0),a0,e0,mkS acc))):=by
              unfold Zs q5t;simp only [ZL g,jf,jh];rw [jr h0];simp only [zZ g,jf,e,jg,jk,s,s2,ji,jj]
            grind
          |ok p=>
            obtain ⟨a,t1⟩:=p;obtain ⟨s2,g1,l1⟩:=s1.out es;obtain ⟨y8,q1,q2,q3⟩:=zkn (acc:=acc) (z:=⟨0,lit [],0,0,Sl.mk [] false⟩) (a:=a) (by omega);have hz:Zs ((0,lit [],0,0),a0,e0,⟨⟨ts,true⟩,0⟩,mkS acc)=some (.next ((0,lit [],0,0),a0,e0,⟨⟨t1,true⟩,0⟩,mkS (acc++[a]))):=by
              unfold Zs q5t;simp only [ZL g,jf,jh];rw [jr h0];simp only [zZ g,jf,e,jg,jk,s,s2,ji,q1,q2,ZJ,ndK,ndT,zn,q3]
            have ih:=zbL (a0:=a0) (e0:=e0) k t1 (acc++[a]) g1 (by omega) (by simp;omega);grind
theorem zeL (s:Ua):q5h s=some (xU s):=by
 show ((qbl s).bind _)=_;rw [zql,jf];unfold xU;simp only [jh];by_cases h:(ZY s).2.1=0
 case neg=>rw [jr h,jr h];rfl
 case pos=>
 rw [js (by simpa using h),js (by simpa using h)];obtain ⟨g,hn⟩:=zcW h;generalize hx:(ZY s).2.2=X at g hn;obtain ⟨ts,nn⟩:=X;simp only at g hn;subst hn;have lp:=zbL (a0:=(ZY s).1) (e0:=(ZY s).2.1) ts.length ts [] g (Ur _) (by have:=g.len;simp;omega);have hlen:=g.len;show ((lpO Zs ((0,lit [],0,0),(ZY s).1,(ZY s).2.1,(⟨⟨ts,true⟩,0⟩:PSt),mkS [])).bind _)=_;cases e:Yr ts.length [] ts with
 |error er=>
  rw [e] at lp;obtain ⟨st,u,v,w,lp⟩:=lp;rw [lp];rfl
 |ok p=>
  obtain ⟨l,t1⟩:=p;rw [e] at lp;simp only at lp;rw [lp];have hsz:=VL _ _ _ _ _ e;simp only [ze] at hsz;have hsize:qdy ⟨0,lit [],0,0,mkS l⟩=some ((ze l+1:Nat):Int):=by
   have:=zlZ 100000 ⟨0,lit [],0,0,mkS l⟩ (by rw [zl];simp only [mkS];omega) (by rw [zl];simp only [mkS];omega);rw [zl] at this;exact this
  simp only [jf,ji,hsize,jh];by_cases hb:4096 < ze l+1
  ·rw [jr (by omega),jr hb];rfl
  ·rw [js (by omega),js hb];rfl
end
end Go.Px
