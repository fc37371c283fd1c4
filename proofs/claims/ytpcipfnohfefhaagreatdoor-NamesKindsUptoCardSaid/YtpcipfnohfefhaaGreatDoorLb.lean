/- Part Lb: Px22QA Px22QB Px22QC Px22QD Px22QE Px22QF Px2 -/
import Derived.Test.YtpcipfnohfefhaaGreatDoorLa
set_option linter.unusedVariables false
set_option linter.unusedSimpArgs false
namespace Go.Px
variable{k:Int}{s:List UInt8}{α β:Type}{m:G3 β}
section
abbrev Tk:=qn
abbrev Nd:=q7
abbrev nilS:Sl α:=⟨[],false⟩
def hd:List Tk->Tk
 |[]=>⟨0,lit [],0,0⟩
 |t::_=>t
abbrev PR (α:Type):=Except (Int×Int) (α×List Tk)
def PR.bd (r:PR α) (f:α->List Tk->PR β):PR β:=match r with
 | .error e =>.error e
 | .ok (a,ts)=>f a ts
def isP (s:List UInt8) (ts:List Tk):Bool:=(decide ((hd ts).k_=2) || decide ((hd ts).k_=4)) && decide ((hd ts).T_=lit s)
def xy (e:Int) (ts:List Tk):PR α :=.error ((hd ts).a_,e)
def zT (s:List UInt8) (ts:List Tk):PR Unit:=if isP s ts=true then .ok ((),ts.tail) else xy 20 ts
def XV (k:Int) (ts:List Tk):PR Tk:=if (hd ts).k_=k then .ok (hd ts,ts.tail) else xy 20 ts
def z6 (ts:List Tk):PR Nd:=(XV 1 ts).bd fun t ts =>.ok (⟨5,t.T_,0,t.a_,nilS⟩,ts)
def yZ (sg:Int) (ts:List Tk):PR Int:=(XV 3 ts).bd fun t ts =>.ok (sg * t.n_,ts)
def Nd.num (n:Nd) (v:Int):Nd:=⟨n.k_,n.T_,v,n.a_,n.K_⟩
def xz (n:Nd) (ts:List Tk):PR Nd:=
 if isP [43] ts=true then (yZ 1 ts.tail).bd fun v ts =>.ok (Nd.num n v,ts)
 else if isP [45] ts=true then (yZ (-1) ts.tail).bd fun v ts =>.ok (Nd.num n v,ts)
 else .ok (n,ts)
def ZY (ts:List Tk):PR Nd:=
 if (hd ts).k_=3 then (yZ 1 ts).bd fun v t1 =>.ok (⟨5,lit [],v,(hd ts).a_,nilS⟩,t1)
 else if isP [45] ts=true then (yZ (-1) ts.tail).bd fun v t1 =>.ok (⟨5,lit [],v,(hd ts).a_,nilS⟩,t1)
 else (z6 ts).bd xz
def zbB (ts:List Tk):PR G0:=
 if isP [60] ts=true then .ok (lit [60],ts.tail) else if isP [60,61] ts=true then .ok (lit [60,61],ts.tail) else if isP [61,61] ts=true then .ok (lit [61,61],ts.tail) else xy 20 ts
def Zm (one:List Tk->PR Nd):Nat->List Nd->List Tk->PR (List Nd)
 |0,acc,ts =>.ok (acc,ts)
 |k+1,acc,ts=>if isP [44] ts=true then (one ts.tail).bd fun a ts=>Zm one k (acc++[a]) ts else .ok (acc,ts)
def Z3 (one:List Tk->PR Nd) (ts:List Tk):PR (List Nd):=(one ts).bd fun a t1=>Zm one ts.length [a] t1
def VG (ts:List Tk):PR (Sl Nd):=(zT [40] ts).bd fun _ t1=>
 if isP [41] t1=true then .ok (nilS,t1.tail) else (Z3 ZY t1).bd fun l t2=>(zT [41] t2).bd fun _ t3 =>.ok (⟨l,true⟩,t3)
def WA (ts:List Tk):PR Nd:=
 if isP [111,119,110] ts=true then .ok (⟨2,(hd ts).T_,0,(hd ts).a_,nilS⟩,ts.tail)
 else if isP [99,101,108,108] ts=true then .ok (⟨2,(hd ts).T_,0,(hd ts).a_,nilS⟩,ts.tail)
 else if isP [99,111,117,110,116,101,100] ts=true then (z6 ts.tail).bd fun k t1 =>.ok (⟨2,(hd ts).T_,0,(hd ts).a_,⟨[k],true⟩⟩,t1)
 else if isP [108,111,99,107] ts=true then (z6 ts.tail).bd fun k t1 =>.ok (⟨2,(hd ts).T_,0,(hd ts).a_,⟨[k],true⟩⟩,t1)
 else if isP [103,117,97,114,100] ts=true then (z6 ts.tail).bd fun k t1 =>.ok (⟨2,(hd ts).T_,0,(hd ts).a_,⟨[k],true⟩⟩,t1)
 else xy 20 ts
def xh (ts:List Tk):PR Nd:=(z6 ts).bd fun n t1=>
 if isP [91] t1=true then (z6 t1.tail).bd fun k t2=>(zT [93] t2).bd fun _ t3 =>.ok (⟨3,n.T_,n.n_,n.a_,⟨[k],true⟩⟩,t3)
 else .ok (⟨3,n.T_,n.n_,n.a_,nilS⟩,t1)
def Ym (ts:List Tk):PR Nd:=(ZY ts).bd fun a t1=>(zbB t1).bd fun op t2=>(ZY t2).bd fun b t3 =>.ok (⟨4,op,0,a.a_,⟨[a,b],true⟩⟩,t3)
def zcJ (at_:Int) (ts:List Tk):PR Nd:=(z6 ts).bd fun n t1=>(WA t1).bd fun s t2=>
 (if isP [123] t2=true then (Z3 xh t2.tail).bd fun l t3=>(zT [125] t3).bd fun _ t4 =>.ok ([s]++l,t4) else .ok ([s],t2):PR (List Nd)).bd fun ks t5=>
 (if isP [119,104,101,114,101] t5=true then (Z3 Ym t5.tail).bd fun l t6 =>.ok (ks++l,t6) else .ok (ks,t5):PR (List Nd)).bd fun ks t7=>
 (zT [59] t7).bd fun _ t8 =>.ok (⟨1,n.T_,n.n_,at_,⟨ks,true⟩⟩,t8)
def wL (ts:List Tk):PR Nd:=
 if isP [105,110,116] ts=true then .ok (⟨8,(hd ts).T_,0,(hd ts).a_,nilS⟩,ts.tail)
 else if isP [111,119,110] ts=true then (z6 ts.tail).bd fun k t1 =>.ok (⟨8,(hd ts).T_,0,(hd ts).a_,⟨[k],true⟩⟩,t1)
 else (zT [38] ts).bd fun _ t1=>
  if isP [109,117,116] t1=true then (z6 t1.tail).bd fun k t2 =>.ok (⟨8,lit [38,109,117,116],0,(hd ts).a_,⟨[k],true⟩⟩,t2)
  else (z6 t1).bd fun k t2 =>.ok (⟨8,(hd ts).T_,0,(hd ts).a_,⟨[k],true⟩⟩,t2)
def xi (ts:List Tk):PR Nd:=(z6 ts).bd fun n t1=>(zT [58] t1).bd fun _ t2=>(wL t2).bd fun m t3 =>.ok (⟨7,n.T_,n.n_,n.a_,⟨[m],true⟩⟩,t3)
def atP (k:Int) (ts:List Tk):PR Nd:=(z6 ts).bd fun n t1=>(zT [91] t1).bd fun _ t2=>(yZ 1 t2).bd fun v t3=>(zT [93] t3).bd fun _ t4 =>.ok (⟨k,n.T_,v,n.a_,nilS⟩,t4)
def vb (ts:List Tk):PR Nd:=
 if isP [110,101,119] ts=true then (yZ 1 ts.tail).bd fun v t1 =>.ok (⟨23,lit [],v,(hd ts).a_,nilS⟩,t1)
 else if isP [97,114,114,97,121] ts=true then (z6 ts.tail).bd fun k t1 =>.ok (⟨24,k.T_,0,(hd ts).a_,nilS⟩,t1)
 else if isP [38] ts=true then
  (if isP [109,117,116] ts.tail=true then (z6 ts.tail.tail).bd fun k t1 =>.ok (⟨27,k.T_,0,(hd ts).a_,nilS⟩,t1) else (z6 ts.tail).bd fun k t1 =>.ok (⟨26,k.T_,0,(hd ts).a_,nilS⟩,t1))
 else if (hd ts).k_≠1 then ZY ts
 else (z6 ts).bd fun n t1=>
  if isP [40] t1=true then (VG t1).bd fun ks t2 =>.ok (⟨28,n.T_,n.n_,n.a_,ks⟩,t2)
  else if isP [91] t1=true then (ZY t1.tail).bd fun a t2=>(zT [93] t2).bd fun _ t3 =>.ok (⟨25,n.T_,n.n_,n.a_,⟨[a],true⟩⟩,t3)
  else if isP [43] t1=true/\(hd t1.tail).k_=1 then (z6 t1.tail).bd fun b t2 =>.ok (⟨21,lit [],0,n.a_,⟨[n,b],true⟩⟩,t2)
  else if isP [45] t1=true/\(hd t1.tail).k_=1 then (z6 t1.tail).bd fun b t2 =>.ok (⟨22,lit [],0,n.a_,⟨[n,b],true⟩⟩,t2)
  else xz n t1
def WN (n:Nd) (ts:List Tk):PR Nd:=
 if isP [40] ts=true then (VG ts).bd fun ks t1 =>.ok (⟨20,lit [],0,n.a_,⟨[⟨28,n.T_,n.n_,n.a_,ks⟩],true⟩⟩,t1)
 else if isP [91] ts=true then (ZY ts.tail).bd fun a t1=>(zT [93] t1).bd fun _ t2=>(zT [61] t2).bd fun _ t3=>(ZY t3).bd fun b t4 =>.ok (⟨11,n.T_,n.n_,n.a_,⟨[a,b],true⟩⟩,t4)
 else (zT [61] ts).bd fun _ t1=>(vb t1).bd fun e t2 =>.ok (⟨10,n.T_,n.n_,n.a_,⟨[e],true⟩⟩,t2)
def Wl (n:Nd) (ts:List Tk):PR Nd:=(zT [59] ts).bd fun _ t1 =>.ok (n,t1)
def wg (blk:List Tk->PR Nd) (k at_:Int) (ts:List Tk):PR Nd:=(Ym ts).bd fun n t1=>(blk t1).bd fun b t2 =>.ok (⟨k,n.T_,n.n_,at_,⟨n.K_.xs++[b],true⟩⟩,t2)
def YE (blk:List Tk->PR Nd) (ts:List Tk):PR Nd:=
 if isP [102,114,101,101] ts=true then (z6 ts.tail).bd fun n t1=>Wl ⟨12,n.T_,n.n_,(hd ts).a_,nilS⟩ t1
 else if isP [108,111,99,107] ts=true then (atP 13 ts.tail).bd fun n t1=>Wl ⟨n.k_,n.T_,n.n_,(hd ts).a_,nilS⟩ t1
 else if isP [117,110,108,111,99,107] ts=true then (atP 14 ts.tail).bd fun n t1=>Wl ⟨n.k_,n.T_,n.n_,(hd ts).a_,nilS⟩ t1
 else if isP [105,102] ts=true then (wg blk 15 (hd ts).a_ ts.tail).bd fun n t1=>
  if isP [101,108,115,101] t1=true then (blk t1.tail).bd fun b t2 =>.ok (⟨n.k_,n.T_,n.n_,n.a_,⟨n.K_.xs++[b],true⟩⟩,t2)
  else .ok (⟨n.k_,n.T_,n.n_,n.a_,⟨n.K_.xs++[⟨9,lit [],0,(hd ts).a_,nilS⟩],true⟩⟩,t1)
 else if isP [119,104,105,108,101] ts=true then wg blk 16 (hd ts).a_ ts.tail
 else if isP [114,101,116,117,114,110] ts=true then
  (if isP [59] ts.tail=true then Wl ⟨17,lit [],0,(hd ts).a_,nilS⟩ ts.tail else (ZY ts.tail).bd fun a t1=>Wl ⟨17,lit [],0,(hd ts).a_,⟨[a],true⟩⟩ t1)
 else if isP [97,98,111,114,116] ts=true then Wl ⟨18,lit [],0,(hd ts).a_,nilS⟩ ts.tail
 else if isP [102,111,114,107] ts=true then (z6 ts.tail).bd fun n t1=>(VG t1).bd fun ks t2=>Wl ⟨19,n.T_,n.n_,(hd ts).a_,ks⟩ t2
 else (z6 ts).bd fun n t1=>(WN n t1).bd Wl
def xj (one:List Tk->PR Nd):Nat->List Nd->List Tk->PR (List Nd)
 |0,acc,ts=>xy 20 ts
 |k+1,acc,ts=>if isP [125] ts=true then .ok (acc,ts.tail) else (one ts).bd fun a t1=>xj one k (acc++[a]) t1
def mkS (l:List α):Sl α:=⟨l, !l.isEmpty⟩
def Z8:Nat->List Tk->PR Nd
 |0,ts=>if isP [123] ts=true then xy 21 ts else xy 20 ts
 |r+1,ts=>(zT [123] ts).bd fun _ t1=>(xj (YE (Z8 r)) t1.length [] t1).bd fun l t2 =>.ok (⟨9,lit [],0,(hd ts).a_,mkS l⟩,t2)
def fnP (at_:Int) (ts:List Tk):PR Nd:=(z6 ts).bd fun n t1=>(zT [40] t1).bd fun _ t2=>
 (if isP [41] t2=true then .ok ([],t2) else Z3 xi t2:PR (List Nd)).bd fun ps t3=>(zT [41] t3).bd fun _ t4=>
 (if isP [45,62] t4=true then (if isP [38] t4.tail=true then xy 20 t4.tail else wL t4.tail) else .ok (⟨8,lit [],0,(hd t4).a_,nilS⟩,t4):PR Nd).bd fun ret t5=>
 (Z8 8 t5).bd fun b t6 =>.ok (⟨6,n.T_,n.n_,at_,⟨ps++[ret,b],true⟩⟩,t6)
def Yi:Nat->List Nd->List Tk->PR (List Nd)
 |0,acc,ts=>xy 20 ts
 |k+1,acc,ts=>if (hd ts).k_=0 then .ok (acc,ts)
  else if isP [102,110] ts=true then (fnP (hd ts).a_ ts.tail).bd fun a t1=>Yi k (acc++[a]) t1
  else (zT [116,121,112,101] ts).bd fun _ t1=>(zcJ (hd ts).a_ t1).bd fun a t2=>Yi k (acc++[a]) t2
structure TGood (ts:List Tk):Prop where
 ne:ts≠[]
 last:∀ h:ts≠[],(ts.getLast h).k_=0
 len:ts.length<=20000
 num:∀ t∈ts,0<=t.n_/\t.n_<=1099511627776
theorem TGood.tail {ts:List Tk}(g:TGood ts) (h:(hd ts).k_≠0):TGood ts.tail:=by
 match ts,g,h with
 |[],g,_=>grind
 |[t],g,h=>exact absurd (g.last (by simp)) h
 |t::u::r,g,h=>
  refine ⟨by simp,fun _=>?_,?_,fun x hx=>g.num x (Uz _ hx)⟩
  ·have:=g.last (by simp);grind
  ·have:=g.len;grind
theorem TGood.hd_idx {ts:List Tk}(g:TGood ts) (b:Bool):zd (⟨ts,b⟩:Sl Tk) 0=some (hd ts):=by
 match ts,g with
 |[],g=>exact absurd rfl g.ne
 |t::r,_=>rfl
theorem TGood.tl {ts:List Tk}(g:TGood ts) (b:Bool):Zv (⟨ts,b⟩:Sl Tk) 1 (Sl.len (⟨ts,b⟩:Sl Tk))=some ⟨ts.tail,b⟩:=by
 match ts,g with
 |[],g=>exact absurd rfl g.ne
 |t::r,_=>
  unfold Zv;rw [jr ⟨by omega,by simp [Sl.len];omega,by simp [Sl.len]⟩];simp [Sl.len]
theorem zeq {ts:List Tk}(h:isP s ts=true):(hd ts).k_≠0:=by
 unfold isP at h;grind
theorem TGood.is {ts:List Tk}(g:TGood ts) (h:isP s ts=true):TGood ts.tail:=g.tail (zeq h)
theorem TGood.tail_len {ts:List Tk}(g:TGood ts):ts.tail.length+1=ts.length:=by
 match ts,g with
 |[],g=>exact absurd rfl g.ne
 |t::r,_=>simp
abbrev PSt:=q8
def Sm (d:Int) (n:Nat) (r:PR α) (m:G3 β) (er:(Int×Int)×PSt->β) (ok:α->PSt->β):Prop:=match r with
 | .error e=>∃ st,m=some (er (e,st))
 | .ok (a,ts)=>m=some (ok a ⟨⟨ts,true⟩,d⟩)/\TGood ts/\ts.length<=n
theorem Sm.bd {γ δ:Type}{d:Int}{n n':Nat}{r:PR α}{f:α->List Tk->PR γ}{K:β->G3 δ}{er:(Int×Int)×PSt->β}{ok:α->PSt->β}{er':(Int×Int)×PSt->δ}{ok':γ->PSt->δ}
    (h:Sm d n r m er ok) (he:∀ e,K (er e)=some (er' e)) (hk:∀ a ts,r = .ok (a,ts)->TGood ts->ts.length<=n->Sm d n' (f a ts) (K (ok a ⟨⟨ts,true⟩,d⟩)) er' ok'):Sm d n' (r.bd f) (m.bind K) er' ok':=by
  cases r with
  |error e=>
    obtain ⟨st,rfl⟩:=h;exact ⟨st,he _⟩
  |ok p=>
    obtain ⟨a,ts⟩:=p;obtain ⟨rfl,g,l⟩:=h;exact hk a ts rfl g l
theorem Sm.ok {d:Int}{n:Nat}{a:α}{ts:List Tk}{er:(Int×Int)×PSt->β}{ok:α->PSt->β}(g:TGood ts) (l:ts.length<=n) (h:m=some (ok a ⟨⟨ts,true⟩,d⟩)):Sm d n (.ok (a,ts)) m er ok:=⟨h,g,l⟩
theorem Sm.mono {d:Int}{n n':Nat}{r:PR α}{er:(Int×Int)×PSt->β}{ok:α->PSt->β}(h:Sm d n r m er ok) (l:n<=n'):Sm d n' r m er ok:=by
 cases r with
 |error e=>exact h
 |ok p=>exact ⟨h.1,h.2.1,GM h.2.2 l⟩
variable {d:Int}{n:Nat}{ts:List Tk}
theorem ZE (g:TGood ts):q10 ⟨⟨ts,true⟩,d⟩=some (hd ts,⟨⟨ts,true⟩,d⟩):=by
 show ((zd (⟨ts,true⟩:Sl Tk) 0).bind fun y0=>some (y0,(⟨⟨ts,true⟩,d⟩:PSt)))=_;rw [g.hd_idx];rfl
theorem YV (g:TGood ts) (s:List UInt8):q21 (lit s,⟨⟨ts,true⟩,d⟩)=some (isP s ts,⟨⟨ts,true⟩,d⟩):=by
 show ((q10 ⟨⟨ts,true⟩,d⟩).bind _)=_;rw [ZE g,jf];simp only [jh];unfold isP;by_cases h2:(hd ts).k_=2
 ·grind
 grind
theorem zU (g:TGood ts) (s:List UInt8):qx (lit s,⟨⟨ts,true⟩,d⟩)=some (isP s ts,if isP s ts=true then ⟨⟨ts.tail,true⟩,d⟩ else ⟨⟨ts,true⟩,d⟩):=by
 show ((q21 (lit s,⟨⟨ts,true⟩,d⟩)).bind _)=_;rw [YV g,jf];cases h:isP s ts with
 |false=>rfl
 |true=>
  simp only [Um,jg,jk,jl];rw [g.tl];rfl
theorem vy (g:TGood ts) (e:Int):q1k (e,⟨⟨ts,true⟩,d⟩)=some (((hd ts).a_,e),⟨⟨ts,true⟩,d⟩):=by
 show ((q10 ⟨⟨ts,true⟩,d⟩).bind _)=_;rw [ZE g];rfl
theorem zaB (g:TGood ts) {K:Bool×PSt->G3 β}{p q:PR α}{er:(Int×Int)×PSt->β}{ok:α->PSt->β}(h1:isP s ts=true->TGood ts.tail->ts.tail.length+1=ts.length->Sm d n p (K (true,⟨⟨ts.tail,true⟩,d⟩)) er ok)
    (h0:isP s ts=false->Sm d n q (K (false,⟨⟨ts,true⟩,d⟩)) er ok):Sm d n (if isP s ts=true then p else q) ((qx (lit s,⟨⟨ts,true⟩,d⟩)).bind K) er ok:=by
  rw [zU g,jf];cases h:isP s ts with
  |true=>simp only [jl];exact h1 h (g.is h) g.tail_len
  |false=>grind
theorem ZF (g:TGood ts) (s:List UInt8):Sm d (ts.length - 1) (zT s ts) (q13 (lit s,⟨⟨ts,true⟩,d⟩)) Sum.inl (fun _ st=>Sum.inr st):=by
 show Sm d _ _ ((qx (lit s,⟨⟨ts,true⟩,d⟩)).bind _) _ _;unfold zT;refine zaB g (fun h g1 l=>?_) fun h=>?_
 ·exact .ok g1 (by omega) rfl
 ·refine ⟨⟨⟨ts,true⟩,d⟩,?_⟩;show ((q1k (20,⟨⟨ts,true⟩,d⟩)).bind _)=_;rw [vy g];rfl
theorem zlm (g:TGood ts) (k:Int) (hk:k≠0):Sm d (ts.length - 1) (XV k ts) (q4f (k,⟨⟨ts,true⟩,d⟩)) Sum.inl (fun t st=>Sum.inr (t,st)):=by
 show Sm d _ _ ((q10 ⟨⟨ts,true⟩,d⟩).bind _) _ _;rw [ZE g,jf];unfold XV;simp only [jh];by_cases h:(hd ts).k_=k
 ·rw [jr h,js (by simpa using h),g.tl];exact .ok (g.tail (by omega)) (by grind) rfl
 ·rw [js h,jr h,vy g];exact ⟨_,rfl⟩
theorem zhb {ts t1:List Tk}{t:Tk}(g:TGood ts) (h:XV k ts = .ok (t,t1)):0<=t.n_/\t.n_<=1099511627776:=by
 unfold XV at h;split at h
 ·cases h
  match ts,g with
  |[],g=>exact absurd rfl g.ne
  |t::r,g=>exact g.num t (by simp [hd])
 ·cases h
def ndT (n:Nd):Int×G0×Int×Int:=(n.k_,n.T_,n.n_,n.a_)
theorem ZM (g:TGood ts):Sm d (ts.length - 1) (z6 ts) (q16 ⟨⟨ts,true⟩,d⟩) Sum.inl (fun n st=>Sum.inr (ndT n,st)):=by
 show Sm d _ _ ((q4f (1,⟨⟨ts,true⟩,d⟩)).bind _) _ _;exact (zlm g 1 (by omega)).bd (fun e=>rfl) fun t t1 _ g1 l =>.ok g1 l rfl
theorem Xw (g:TGood ts) (sg:Int) (hs:sg=1\/sg = -1):Sm d (ts.length - 1) (yZ sg ts) (q3w (sg,⟨⟨ts,true⟩,d⟩)) Sum.inl (fun v st=>Sum.inr (v,st)):=by
 show Sm d _ _ ((q4f (3,⟨⟨ts,true⟩,d⟩)).bind _) _ _;refine (zlm g 3 (by omega)).bd (fun e=>rfl) fun t t1 ht g1 l =>.ok g1 l ?_
 have:=zhb g ht;show some (Sum.inr (G4 (sg * t.n_),_))=_;rw [zM (by grind) (by grind)]
end
section
variable {d:Int}{n:Nat}{ts:List Tk}
theorem Sm.out {r:PR α}{er:(Int×Int)×PSt->β}{ok:α->PSt->β}(h:Sm d n r m er ok) {a:α}{t1:List Tk}(e:r = .ok (a,t1)):m=some (ok a ⟨⟨t1,true⟩,d⟩)/\TGood t1/\t1.length<=n:=by
 rw [e] at h;exact h
theorem Sm.err {r:PR α}{er:(Int×Int)×PSt->β}{ok:α->PSt->β}(h:Sm d n r m er ok) {e:Int×Int}(he:r = .error e):∃ st,m=some (er (e,st)):=by
 rw [he] at h;exact h
theorem bd_ok {r:PR α}{f:α->List Tk->PR β}{b:β}{t:List Tk}(h:r.bd f = .ok (b,t)):∃ a t1,r = .ok (a,t1)/\f a t1 = .ok (b,t):=by
 cases r with
 |error e=>cases h
 |ok p=>exact ⟨p.1,p.2,rfl,h⟩
theorem Sm.map {γ:Type}{r:PR α}{K:β->G3 γ}{er:(Int×Int)×PSt->β}{ok:α->PSt->β}{er':(Int×Int)×PSt->γ}{ok':α->PSt->γ}(h:Sm d n r m er ok) (he:∀ e,K (er e)=some (er' e)) (hk:∀ a t1,r = .ok (a,t1)->TGood t1->K (ok a ⟨⟨t1,true⟩,d⟩)=some (ok' a ⟨⟨t1,true⟩,d⟩)):Sm d n r (m.bind K) er' ok':=by
 cases r with
 |error e=>obtain ⟨st,rfl⟩:=h;exact ⟨st,he _⟩
 |ok p=>obtain ⟨rfl,g,l⟩:=h;exact ⟨hk _ _ rfl g,g,l⟩
theorem zJ {ts t1:List Tk}{n:Nd}(h:z6 ts = .ok (n,t1)):n.K_=nilS:=by
 obtain ⟨a,t,_,h⟩:=bd_ok h;cases h;rfl
theorem Xl {a:Nd}(h:a.K_=nilS):q7.mk a.k_ a.T_ a.n_ a.a_ (Sl.mk [] false)=a:=by cases a;grind
theorem zj (a:Nd):kg a=a:=by cases a;rfl
theorem zln {n0:Nd}(g:TGood ts):Sm d ts.length (xz n0 ts) (q4g (n0,⟨⟨ts,true⟩,d⟩)) Sum.inl (fun n st=>Sum.inr (n,st)):=by
 show Sm d _ _ ((qx (lit [43],⟨⟨ts,true⟩,d⟩)).bind _) _ _;unfold xz;refine zaB g (fun h g1 l=>?_) fun h=>?_
 ·simp only [jl,ga];exact (Xw g1 1 (.inl rfl)).bd (fun e=>rfl) fun v t1 _ g2 l2 =>.ok g2 (by omega) rfl
 ·simp only [jg,jk,ga];refine zaB g (fun h g1 l=>?_) fun h=>?_
  ·simp only [jl,ga];exact (Xw g1 (-1) (.inr rfl)).bd (fun e=>rfl) fun v t1 _ g2 l2 =>.ok g2 (by omega) rfl
  ·exact .ok g (by omega) (by simp only [jg,jk,jf,zj,ji])
theorem zfj {ts t1:List Tk}{n n0:Nd}(h0:n0.K_=nilS) (h:xz n0 ts = .ok (n,t1)):n.K_=nilS:=by
 unfold xz at h;split at h
 ·obtain ⟨a,t,_,h⟩:=bd_ok h;cases h;exact h0
 ·split at h
  ·obtain ⟨a,t,_,h⟩:=bd_ok h;cases h;exact h0
  grind
theorem Xx {ts t1:List Tk}{n:Nd}(h:ZY ts = .ok (n,t1)):n.K_=nilS:=by
 unfold ZY at h;split at h
 ·obtain ⟨a,t,_,h⟩:=bd_ok h;cases h;rfl
 ·split at h
  ·obtain ⟨a,t,_,h⟩:=bd_ok h;cases h;rfl
  ·obtain ⟨a,t,h1,h⟩:=bd_ok h;exact zfj (zJ h1) h
theorem Xy (g:TGood ts):Sm d (ts.length - 1) (ZY ts) (q28 ⟨⟨ts,true⟩,d⟩) Sum.inl (fun n st=>Sum.inr (n,st)):=by
 show Sm d _ _ ((q10 ⟨⟨ts,true⟩,d⟩).bind _) _ _;rw [ZE g,jf,ZE g,jf];unfold ZY;simp only [jh];by_cases h3:(hd ts).k_=3
 ·rw [jr h3,jr h3];simp only [ga];exact (Xw g 1 (.inl rfl)).bd (fun e=>rfl) fun v t1 _ g2 l2 =>.ok g2 (by omega) rfl
 ·rw [js h3,js h3];simp only [ga];refine zaB g (fun h g1 l=>?_) fun h=>?_
  ·simp only [jl,ga];exact (Xw g1 (-1) (.inr rfl)).bd (fun e=>rfl) fun v t1 _ g2 l2 =>.ok g2 (by omega) rfl
  ·show Sm d _ _ ((q16 ⟨⟨ts,true⟩,d⟩).bind _) _ _;refine (ZM g).bd (fun e=>rfl) fun n t1 en g1 l1=>?_
   show Sm d _ _ (((q4g (q7.mk n.k_ n.T_ n.n_ n.a_ (Sl.mk [] false),⟨⟨t1,true⟩,d⟩)).bind _).bind _) _ _;rw [ga,Xl (zJ en)];refine Sm.mono ?_ l1;exact Sm.map (zln g1) (fun e=>rfl) fun a t2 _ _=>by simp only [ji,jf,zj]
theorem zvy (g:TGood ts):Sm d (ts.length - 1) (zbB ts) (qbd ⟨⟨ts,true⟩,d⟩) Sum.inr (fun s st=>Sum.inl (s,st)):=by
  have body:∀ (i:Int) (s:List UInt8),0<=i->i < 3->WS [lit [60],lit [60,61],lit [61,61]] i=some (lit s)->
      q5r qx q1k ((lit [60],lit [60,61],lit [61,61]),i,⟨⟨ts,true⟩,d⟩)=if isP s ts=true then some (.done (.inl (lit s,⟨⟨ts.tail,true⟩,d⟩))) else some (.next ((lit [60],lit [60,61],lit [61,61]),i+1,⟨⟨ts,true⟩,d⟩)):=by
    intro i s h0 h3 hn;unfold q5r;simp only [jh,jr h3,hn,jf,zU g];cases h:isP s ts with
    |true=>grind
    |false=>simp only [jg,jk];rw [zM (by omega) (by omega)]
  have e0:=body 0 [60] (by omega) (by omega) rfl;have e1:=body 1 [60,61] (by omega) (by omega) rfl;have e2:=body 2 [61,61] (by omega) (by omega) rfl;show Sm d _ _ ((lpO (q5r qx q1k) ((lit [60],lit [60,61],lit [61,61]),0,⟨⟨ts,true⟩,d⟩)).bind _) _ _;unfold zbB;rw [Zn,e0];cases h0:isP [60] ts with
  |true=>exact .ok (g.is h0) (by grind) rfl
  |false=>
    simp only [jg,jk,jf];rw [Zn,show (0:Int)+1=1 from rfl,e1];cases h1:isP [60,61] ts with
    |true=>exact .ok (g.is h1) (by grind) rfl
    |false=>
      simp only [jg,jk,jf];rw [Zn,show (1:Int)+1=2 from rfl,e2];cases h2:isP [61,61] ts with
      |true=>exact .ok (g.is h2) (by grind) rfl
      |false=>
        simp only [jg,jk,jf];rw [Zn,show (2:Int)+1=3 from rfl];have e3:q5r qx q1k ((lit [60],lit [60,61],lit [61,61]),3,⟨⟨ts,true⟩,d⟩)=some (.done (.inr ⟨⟨ts,true⟩,d⟩)):=rfl;rw [e3];simp only [jf,ji,vy g];exact ⟨_,rfl⟩
theorem Vf {acc:List Nd}{a:Nd}(h:acc.length<=30000) (b:Bool):zp 64 (⟨acc,b⟩:Sl Nd) [a]=some ⟨acc++[a],true⟩:=by
 rw [yY (by simp;omega) (by simp;omega)];simp
abbrev zmZ:=Step (PSt×Sl Nd) (((Int×Int)×PSt)⊕(PSt×Sl Nd))
def zdh (d:Int) (one:List Tk->PR Nd) (f:PSt×Sl Nd->G3 zmZ):Prop:=∀ (ts:List Tk) (acc:List Nd),TGood ts->acc.length<=30000->
 (isP [44] ts=false->f (⟨⟨ts,true⟩,d⟩,⟨acc,true⟩)=some (.done (.inr (⟨⟨ts,true⟩,d⟩,⟨acc,true⟩))))/\
 (isP [44] ts=true->match one ts.tail with
  | .error e=>∃ st,f (⟨⟨ts,true⟩,d⟩,⟨acc,true⟩)=some (.done (.inl (e,st)))
  | .ok (a,t1)=>TGood t1/\t1.length+1<=ts.length/\f (⟨⟨ts,true⟩,d⟩,⟨acc,true⟩)=some (.next (⟨⟨t1,true⟩,d⟩,⟨acc++[a],true⟩)))
theorem zcK {one:List Tk->PR Nd}{f:PSt×Sl Nd->G3 zmZ}(hf:zdh d one f):∀ (k:Nat) (ts:List Tk) (acc:List Nd),TGood ts->ts.length<=k->acc.length+ts.length<=30000->
    Sm d ts.length (Zm one k acc ts) (lpO f (⟨⟨ts,true⟩,d⟩,⟨acc,true⟩)) Sum.inl (fun l st=>Sum.inr (st,⟨l,true⟩))/\∀ l t1,Zm one k acc ts = .ok (l,t1)->l.length+t1.length<=acc.length+ts.length
  |0,ts,acc,g,hk,ha=>absurd (GP (by omega)) g.ne
  |k+1,ts,acc,g,hk,ha=>by
    obtain ⟨h0,h1⟩:=hf ts acc g (by omega);rw [Zn];show Sm d _ (if isP [44] ts=true then _ else _) _ _ _/\∀ l t1,(if isP [44] ts=true then _ else _)=_->_
    cases h:isP [44] ts with
    |false=>
      rw [h0 h];simp only [jg,jk,jf];exact ⟨.ok g (GJ _) rfl,fun l t1 e=>by grind⟩
    |true=>
      have h1:=h1 h;simp only [jl];cases e:one ts.tail with
      |error er=>
        rw [e] at h1;obtain ⟨st,h1⟩:=h1;rw [h1];exact ⟨⟨st,rfl⟩,fun l t1 e=>by cases e⟩
      |ok p=>
        obtain ⟨a,t1⟩:=p;rw [e] at h1;obtain ⟨g1,l1,h1⟩:=h1;rw [h1];have ih:=zcK hf k t1 (acc++[a]) g1 (by omega) (by simp;omega);exact ⟨ih.1.mono (by omega),fun l t2 e2=>by have:=ih.2 l t2 e2;grind⟩
theorem zgq:zdh d ZY (q7y q28 qx):=by
 intro ts acc g ha;unfold q7y;simp only [zU g,jf];refine ⟨fun h=>by rw [h];rfl,fun h=>?_⟩;rw [h];simp only [jl];have s:=Xy (d:=d) (g.is h);cases e:ZY ts.tail with
 |error er=>obtain ⟨st,s⟩:=s.err e;grind
 |ok p=>
  obtain ⟨a,t1⟩:=p;obtain ⟨s,g1,l1⟩:=s.out e;have:=g.tail_len;refine ⟨g1,by omega,?_⟩;have hk:=Xx e;rw [s];simp only [jf,ji,zj,Vf ha]
end
section
variable {d:Int}{n:Nat}{ts:List Tk}
theorem zbC {one:List Tk->PR Nd}{f:PSt×Sl Nd->G3 zmZ}(hf:zdh d one f) {er:(Int×Int)×PSt->β}{ok:Nd->PSt->β}{K:β->G3 (((Int×Int)×PSt)⊕(PSt×Sl Nd))}(g:TGood ts) (h:Sm d (ts.length - 1) (one ts) m er ok)
    (he:∀ e,K (er e)=some (Sum.inl e)) (hk:∀ a t1,one ts = .ok (a,t1)->K (ok a ⟨⟨t1,true⟩,d⟩)=(lpO f (⟨⟨t1,true⟩,d⟩,⟨[a],true⟩)).bind fun y9=>Sum.elim (fun y10=>some (Sum.inl y10)) (fun y11=>some (Sum.inr y11)) y9) :
    Sm d (ts.length - 1) (Z3 one ts) (m.bind K) Sum.inl (fun l st=>Sum.inr (st,⟨l,true⟩))/\∀ l t1,Z3 one ts = .ok (l,t1)->l.length+t1.length<=ts.length:=by
  have hlen:=g.len;have h0:=g.tail_len;constructor
  · refine h.bd he fun a t1 e g1 l1=>?_
    rw [hk a t1 e];have:=(zcK hf ts.length t1 [a] g1 (by omega) (by simp;omega)).1;refine Sm.mono ?_ l1;exact Sm.map this (fun e=>rfl) fun l t2 _ _=>rfl
  ·intro l t2 e;obtain ⟨a,t1,e1,e2⟩:=bd_ok e;obtain ⟨_,g1,l1⟩:=h.out e1;have:=(zcK hf ts.length t1 [a] g1 (by omega) (by simp;omega)).2 l t2 e2;grind
theorem zjG (g:TGood ts):Sm d (ts.length - 1) (Z3 ZY ts) (q87 ⟨⟨ts,true⟩,d⟩) Sum.inl (fun l st=>Sum.inr (st,⟨l,true⟩))/\∀ l t1,Z3 ZY ts = .ok (l,t1)->l.length+t1.length<=ts.length:=by
 refine zbC zgq g (Xy g) (fun e=>rfl) fun a t1 e=>?_
 simp only [ji,zj]
theorem zgr (g:TGood ts):Sm d (ts.length - 1) (VG ts) (q4h ⟨⟨ts,true⟩,d⟩) Sum.inl (fun l st=>Sum.inr (st,l)):=by
 show Sm d _ _ ((q13 (lit [40],⟨⟨ts,true⟩,d⟩)).bind _) _ _;refine (ZF g [40]).bd (fun e=>rfl) fun _ t1 _ g1 l1=>?_
 refine zaB g1 (fun h g2 l=>?_) fun h=>?_
 ·exact .ok g2 (by omega) rfl
 ·refine (zjG g1).1.bd (fun e=>rfl) fun l t2 _ g2 l2=>?_
  refine (ZF g2 [41]).bd (fun e=>rfl) fun _ t3 _ g3 l3 =>.ok g3 (by omega) rfl
def ndK (n:Nd) (st:PSt):(Int×G0×Int×Int)×PSt×Sl Nd:=(ndT n,st,n.K_)
theorem zt1 (g:TGood ts):Sm d (ts.length - 1) (WA ts) (qap ⟨⟨ts,true⟩,d⟩) Sum.inr (fun n st=>Sum.inl (ndK n st)):=by
  show Sm d _ _ ((q10 ⟨⟨ts,true⟩,d⟩).bind _) _ _;rw [ZE g,jf,ZE g,jf,zU g,jf];have ht:=g.tail_len;unfold WA
  have nm:∀ {K:((Int×Int)×PSt⊕(Int×G0×Int×Int)×PSt)->G3 ((Int×G0×Int×Int)×PSt×Sl Nd⊕(Int×Int)×PSt)},TGood ts.tail->
      (∀ e,K (Sum.inl e)=some (Sum.inr e))->(∀ k t1,z6 ts.tail = .ok (k,t1)->K (Sum.inr (ndT k,⟨⟨t1,true⟩,d⟩))=some (Sum.inl (ndK ⟨2,(hd ts).T_,0,(hd ts).a_,⟨[k],true⟩⟩ ⟨⟨t1,true⟩,d⟩)))->
      Sm d (ts.length - 1) ((z6 ts.tail).bd fun k t1 =>.ok (⟨2,(hd ts).T_,0,(hd ts).a_,⟨[k],true⟩⟩,t1)) ((q16 ⟨⟨ts.tail,true⟩,d⟩).bind K) Sum.inr (fun n st=>Sum.inl (ndK n st)):=
    fun {K} g1 h1 h2=>(ZM g1).bd h1 fun k t1 e g2 l2 =>.ok g2 (by omega) (h2 k t1 e)
  have kk:∀ k t1,z6 ts.tail = .ok (k,t1)->q7.mk (ndT k).1 (ndT k).2.1 (ndT k).2.2.1 (ndT k).2.2.2 (Sl.mk [] false)=k:=fun k t1 e=>Xl (zJ e)
  cases h1:isP [111,119,110] ts with
  |true=>exact .ok (g.is h1) (by omega) rfl
  |false=>
    simp only [jg,jk,zU g,jf];cases h2:isP [99,101,108,108] ts with
    |true=>exact .ok (g.is h2) (by omega) rfl
    |false=>
      simp only [jg,jk,zU g,jf];cases h3:isP [99,111,117,110,116,101,100] ts with
      |true=>
        simp only [jl,jf,ga];exact nm (g.is h3) (fun e=>rfl) fun k t1 e=>by
          simp only [ji,jf,kk k t1 e];rfl
      |false=>
        simp only [jg,jk,zU g,jf];cases h4:isP [108,111,99,107] ts with
        |true=>
          simp only [jl,jf,ga];exact nm (g.is h4) (fun e=>rfl) fun k t1 e=>by
            simp only [ji,jf,kk k t1 e];rfl
        |false=>
          simp only [jg,jk,zU g,jf];cases h5:isP [103,117,97,114,100] ts with
          |true=>
            simp only [jl,jf,ga];exact nm (g.is h5) (fun e=>rfl) fun k t1 e=>by
              simp only [ji,jf,kk k t1 e];rfl
          |false=>
            simp only [jg,jk,jf,vy g];exact ⟨_,rfl⟩
theorem zjH (g:TGood ts):Sm d (ts.length - 1) (xh ts) (q79 ⟨⟨ts,true⟩,d⟩) Sum.inl (fun n st=>Sum.inr (ndK n st)):=by
 show Sm d _ _ ((q16 ⟨⟨ts,true⟩,d⟩).bind _) _ _;refine (ZM g).bd (fun e=>rfl) fun n t1 _ g1 l1=>?_
 refine zaB g1 (fun h g2 l=>?_) fun h=>?_
 ·simp only [jl,ga];refine (ZM g2).bd (fun e=>rfl) fun k t2 e g3 l3=>?_
  show Sm d _ _ (((q13 (lit [93],⟨⟨t2,true⟩,d⟩)).bind _).bind _) _ _;rw [ga];refine (ZF g3 [93]).bd (fun e=>rfl) fun _ t4 _ g4 l4 =>.ok g4 (by omega) ?_
  have:=Xl (zJ e);simp only [ji,jf,ndT,this];rfl
 ·exact .ok g1 (by omega) rfl
theorem zgs (g:TGood ts):Sm d (ts.length - 1) (Ym ts) (q3p ⟨⟨ts,true⟩,d⟩) Sum.inl (fun n st=>Sum.inr (ndK n st)):=by
 show Sm d _ _ ((q28 ⟨⟨ts,true⟩,d⟩).bind _) _ _;refine (Xy g).bd (fun e=>rfl) fun a t1 ea g1 l1=>?_
 refine (zvy g1).bd (fun e=>rfl) fun op t2 _ g2 l2=>?_
 refine (Xy g2).bd (fun e=>rfl) fun b t3 eb g3 l3 =>.ok g3 (by omega) ?_
 simp only [ji,zj];rfl
theorem zfk:zdh d xh (q71 q79 qx):=by
 intro ts acc g ha;unfold q71;simp only [zU g,jf];refine ⟨fun h=>by rw [h];rfl,fun h=>?_⟩;rw [h];simp only [jl];have s:=zjH (d:=d) (g.is h);cases e:xh ts.tail with
 |error er=>obtain ⟨st,s⟩:=s.err e;grind
 |ok p=>
  obtain ⟨a,t1⟩:=p;obtain ⟨s,g1,l1⟩:=s.out e;have:=g.tail_len;refine ⟨g1,by omega,?_⟩;rw [s];simp only [jf,ji,ndK,ndT,zj,Vf ha]
theorem zgt:zdh d Ym (q7z q3p qx):=by
 intro ts acc g ha;unfold q7z;simp only [zU g,jf];refine ⟨fun h=>by rw [h];rfl,fun h=>?_⟩;rw [h];simp only [jl];have s:=zgs (d:=d) (g.is h);cases e:Ym ts.tail with
 |error er=>obtain ⟨st,s⟩:=s.err e;grind
 |ok p=>
  obtain ⟨a,t1⟩:=p;obtain ⟨s,g1,l1⟩:=s.out e;have:=g.tail_len;refine ⟨g1,by omega,?_⟩;rw [s];simp only [jf,ji,ndK,ndT,zj,Vf ha]
theorem zb2 (g:TGood ts):Sm d (ts.length - 1) (Z3 xh ts) (q80 ⟨⟨ts,true⟩,d⟩) Sum.inl (fun l st=>Sum.inr (st,⟨l,true⟩))/\∀ l t1,Z3 xh ts = .ok (l,t1)->l.length+t1.length<=ts.length:=by
 refine zbC zfk g (zjH g) (fun e=>rfl) fun a t1 e=>?_
 simp only [ji,ndK,ndT,zj]
theorem zjI (g:TGood ts):Sm d (ts.length - 1) (Z3 Ym ts) (q88 ⟨⟨ts,true⟩,d⟩) Sum.inl (fun l st=>Sum.inr (st,⟨l,true⟩))/\∀ l t1,Z3 Ym ts = .ok (l,t1)->l.length+t1.length<=ts.length:=by
 refine zbC zgt g (zgs g) (fun e=>rfl) fun a t1 e=>?_
 simp only [ji,ndK,ndT,zj]
theorem zlo {xs l:List Nd}(h:xs.length+l.length<=60000):zp 64 (⟨xs,true⟩:Sl Nd) l=some ⟨xs++l,true⟩:=by
 rw [yY (by simp;omega) (by simp;omega)];simp
theorem zvz (g:TGood ts) (at_:Int):Sm d (ts.length - 1) (zcJ at_ ts) (q8v (at_,⟨⟨ts,true⟩,d⟩)) Sum.inl (fun n st=>Sum.inr (ndK n st)):=by
 have hlen:=g.len;show Sm d _ _ ((q16 ⟨⟨ts,true⟩,d⟩).bind _) _ _;refine (ZM g).bd (fun e=>rfl) fun n t1 _ g1 l1=>?_
 refine (zt1 g1).bd (fun e=>rfl) fun s t2 _ g2 l2=>?_
 show Sm d _ _ ((qx (lit [123],⟨⟨t2,true⟩,d⟩)).bind _) _ _;rw [zU g2,jf];have hs:q7.mk (ndK s ⟨⟨t2,true⟩,d⟩).1.1 (ndK s ⟨⟨t2,true⟩,d⟩).1.2.1 (ndK s ⟨⟨t2,true⟩,d⟩).1.2.2.1 (ndK s ⟨⟨t2,true⟩,d⟩).1.2.2.2 (ndK s ⟨⟨t2,true⟩,d⟩).2.2=s:=zj s;simp only [hs];have hlen2:=g2.len;refine Sm.bd (er:=Sum.inl) (ok:=fun (l:List Nd) (st:PSt)=>Sum.inr (st,(0,lit [],0,0),(1,n.T_,n.n_,at_),(⟨l,true⟩:Sl Nd))) (n:=t2.length) ?_ (fun e=>rfl) fun ks t5 e5 g5 l5=>?_
 ·cases h:isP [123] t2 with
  |false=>exact .ok g2 (GJ _) rfl
  |true=>
   simp only [jl];have g3:=g2.is h;have hl3:=g2.tail_len;obtain ⟨k1,k2⟩:=zb2 (d:=d) g3;refine k1.bd (fun e=>rfl) fun l t3 e g4 l4=>?_
   have:=k2 l t3 e;simp only [ji];rw [zlo (by simp;omega),jf];exact (ZF g4 [125]).bd (fun e=>rfl) fun _ t4 _ g5 l5 =>.ok g5 (by omega) rfl
 have hks:ks.length<=20001:=by
  split at e5
  ·rename_i h;have hl3:=g2.tail_len;obtain ⟨l,t3,e1,e2⟩:=bd_ok e5;obtain ⟨_,t4,_,e3⟩:=bd_ok e2;cases e3;have:=(zb2 (d:=d) (g2.is h)).2 l t3 e1;simp;omega
  grind
 show Sm d _ _ ((qx (lit [119,104,101,114,101],⟨⟨t5,true⟩,d⟩)).bind _) _ _;rw [zU g5,jf];have hlen5:=g5.len;refine Sm.bd (er:=Sum.inl) (ok:=fun (l:List Nd) (st:PSt)=>Sum.inr (st,(0,lit [],0,0),(1,n.T_,n.n_,at_),(⟨l,true⟩:Sl Nd))) (n:=t5.length) ?_ (fun e=>rfl) fun ks2 t7 e7 g7 l7=>?_
 ·cases h:isP [119,104,101,114,101] t5 with
  |false=>exact .ok g5 (GJ _) rfl
  |true=>
   simp only [jl];have g3:=g5.is h;have hl3:=g5.tail_len;obtain ⟨k1,k2⟩:=zjI (d:=d) g3;refine k1.bd (fun e=>rfl) fun l t3 e g4 l4=>?_
   have:=k2 l t3 e;simp only [ji];rw [zlo (by omega),jf];exact .ok g4 (by omega) rfl
 exact (ZF g7 [59]).bd (fun e=>rfl) fun _ t8 _ g8 l8 =>.ok g8 (by omega) rfl
end
section
variable {d:Int}{n:Nat}{ts:List Tk}
theorem zlp (g:TGood ts):Sm d (ts.length - 1) (wL ts) (q89 ⟨⟨ts,true⟩,d⟩) Sum.inr (fun n st=>Sum.inl (n,st)):=by
 show Sm d _ _ ((q10 ⟨⟨ts,true⟩,d⟩).bind _) _ _;rw [ZE g,jf,ZE g,jf,zU g,jf];have ht:=g.tail_len;unfold wL;cases h1:isP [105,110,116] ts with
 |true=>exact .ok (g.is h1) (by omega) rfl
 |false=>
  simp only [jg,jk,zU g,jf];cases h2:isP [111,119,110] ts with
  |true=>
   simp only [jl,jf,jj];refine (ZM (g.is h2)).bd (fun e=>rfl) fun k t1 e g1 l1 =>.ok g1 (by omega) ?_
   have:=Xl (zJ e);simp only [ji,ndT,this]
  |false=>
   simp only [jg,jk,ga];refine (ZF g [38]).bd (fun e=>rfl) fun _ t1 _ g1 l1=>?_
   simp only [ji,zU g1,jf,ga];cases h3:isP [109,117,116] t1 with
   |true=>
    simp only [jl,jf,jj];have:=g1.tail_len;refine (ZM (g1.is h3)).bd (fun e=>rfl) fun k t2 e g2 l2 =>.ok g2 (by omega) ?_
    have:=Xl (zJ e);simp only [ji,ndT,this]
   |false=>
    simp only [jg,jk,jf,jj];refine (ZM g1).bd (fun e=>rfl) fun k t2 e g2 l2 =>.ok g2 (by omega) ?_
    have:=Xl (zJ e);simp only [ji,ndT,this]
theorem zjJ (g:TGood ts):Sm d (ts.length - 1) (xi ts) (q7a ⟨⟨ts,true⟩,d⟩) Sum.inl (fun n st=>Sum.inr (ndK n st)):=by
 show Sm d _ _ ((q16 ⟨⟨ts,true⟩,d⟩).bind _) _ _;refine (ZM g).bd (fun e=>rfl) fun n t1 _ g1 l1=>?_
 refine (ZF g1 [58]).bd (fun e=>rfl) fun _ t2 _ g2 l2=>?_
 exact (zlp g2).bd (fun e=>rfl) fun m t3 _ g3 l3 =>.ok g3 (by omega) (by simp only [jj,zj];rfl)
theorem zfl:zdh d xi (q72 q7a qx):=by
 intro ts acc g ha;unfold q72;simp only [zU g,jf];refine ⟨fun h=>by rw [h];rfl,fun h=>?_⟩;rw [h];simp only [jl];have s:=zjJ (d:=d) (g.is h);cases e:xi ts.tail with
 |error er=>obtain ⟨st,s⟩:=s.err e;grind
 |ok p=>
  obtain ⟨a,t1⟩:=p;obtain ⟨s,g1,l1⟩:=s.out e;have:=g.tail_len;refine ⟨g1,by omega,?_⟩;rw [s];simp only [jf,ji,ndK,ndT,zj,Vf ha]
theorem zb3 (g:TGood ts):Sm d (ts.length - 1) (Z3 xi ts) (q81 ⟨⟨ts,true⟩,d⟩) Sum.inl (fun l st=>Sum.inr (st,⟨l,true⟩))/\∀ l t1,Z3 xi ts = .ok (l,t1)->l.length+t1.length<=ts.length:=by
 refine zbC zfl g (zjJ g) (fun e=>rfl) fun a t1 e=>?_
 simp only [ji,ndK,ndT,zj]
theorem zsu (g:TGood ts) (k:Int):Sm d (ts.length - 1) (atP k ts) (q98 (k,⟨⟨ts,true⟩,d⟩)) Sum.inl (fun n st=>Sum.inr (ndT n,st)):=by
 show Sm d _ _ ((q16 ⟨⟨ts,true⟩,d⟩).bind _) _ _;refine (ZM g).bd (fun e=>rfl) fun n t1 _ g1 l1=>?_
 refine (ZF g1 [91]).bd (fun e=>rfl) fun _ t2 _ g2 l2=>?_
 refine (Xw g2 1 (.inl rfl)).bd (fun e=>rfl) fun v t3 _ g3 l3=>?_
 exact (ZF g3 [93]).bd (fun e=>rfl) fun _ t4 _ g4 l4 =>.ok g4 (by omega) rfl
theorem WO (g:TGood ts) (n:Nd):Sm d (ts.length - 1) (Wl n ts) (q58 (n,⟨⟨ts,true⟩,d⟩)) Sum.inl (fun n st=>Sum.inr (n,st)):=by
 show Sm d _ _ ((q13 (lit [59],⟨⟨ts,true⟩,d⟩)).bind _) _ _;exact (ZF g [59]).bd (fun e=>rfl) fun _ t1 _ g1 l1 =>.ok g1 (by omega) (by simp only [ji,zj])
theorem TGood.idx1 {ts:List Tk}(g:TGood ts.tail):zd (⟨ts,true⟩:Sl Tk) 1=some (hd ts.tail):=by
 match ts,g with
 |[],g=>exact absurd rfl g.ne
 |[t],g=>exact absurd rfl g.ne
 |t::u::r,_=>rfl
theorem zgu {ts:List Tk}(h:isP [43] ts=true):isP [45] ts=false:=by
 unfold isP at h |-
 simp only [g9,jh] at h;have:¬ (hd ts).T_=lit [45]:=by
  rw [h.2];intro e;have:=congrArg bs e;simp [XO] at this
 simp [this]
theorem zt2 (g:TGood ts):Sm d (ts.length - 1) (vb ts) (qaq ⟨⟨ts,true⟩,d⟩) Sum.inl (fun n st=>Sum.inr (n,st)):=by
 show Sm d _ _ ((q10 ⟨⟨ts,true⟩,d⟩).bind _) _ _;rw [ZE g,jf,zU g,jf];have ht:=g.tail_len;unfold vb;cases h1:isP [110,101,119] ts with
 |true=>
  simp only [jl,ga];exact (Xw (g.is h1) 1 (.inl rfl)).bd (fun e=>rfl) fun v t1 _ g1 l1 =>.ok g1 (by omega) rfl
 |false=>
 simp only [jg,jk,zU g,jf];cases h2:isP [97,114,114,97,121] ts with
 |true=>
  simp only [jl,ga];exact (ZM (g.is h2)).bd (fun e=>rfl) fun v t1 _ g1 l1 =>.ok g1 (by omega) rfl
 |false=>
 simp only [jg,jk,zU g,jf];cases h3:isP [38] ts with
 |true=>
  have g1:=g.is h3;simp only [jl,zU g1,jf];cases h4:isP [109,117,116] ts.tail with
  |true=>
   have:=g1.tail_len;simp only [jl,jf,ga];exact (ZM (g1.is h4)).bd (fun e=>rfl) fun v t1 _ g2 l2 =>.ok g2 (by omega) rfl
  |false=>
   simp only [jg,jk,jf,ga];exact (ZM g1).bd (fun e=>rfl) fun v t1 _ g2 l2 =>.ok g2 (by omega) rfl
 |false=>
 simp only [jg,jk,ZE g,jf,jh];by_cases hk:(hd ts).k_=1
 case neg=>
  simp only [Ui,hk,jq,jl,ga];refine Sm.map (Xy g) (fun e=>rfl) fun v t1 e g2=>?_
  simp only [ji,jj,jf,zj]
 case pos=>
 simp only [Ui,hk,jp,jk,jf,ji];refine (ZM g).bd (fun e=>rfl) fun n t1 en g1 l1=>?_
 have hn:=Xl (zJ en);have ht1:=g1.tail_len;simp only [ji,YV g1,jf];cases h4:isP [40] t1 with
 |true=>
  simp only [jl,ga];exact (zgr g1).bd (fun e=>rfl) fun v t2 _ g2 l2 =>.ok g2 (by omega) rfl
 |false=>
 simp only [jg,jk,zU g1,jf];cases h5:isP [91] t1 with
 |true=>
  simp only [jl,ga];refine (Xy (g1.is h5)).bd (fun e=>rfl) fun a t2 ea g2 l2=>?_
  have ha:=Xl (Xx ea);show Sm d _ _ (((q13 (lit [93],⟨⟨t2,true⟩,d⟩)).bind _).bind _) _ _;rw [ga];exact (ZF g2 [93]).bd (fun e=>rfl) fun _ t3 _ g3 l3 =>.ok g3 (by omega) (by simp only [ji,jj,jf,ndT,zj])
 |false=>
 simp only [jg,jk,jf,ji,YV g1];by_cases hp:isP [43] t1=true/\(hd t1.tail).k_=1
 ·obtain ⟨hp1,hp2⟩:=hp;have hm:=zgu hp1;have gt:=g1.is hp1;have mo:=(ZF (d:=d) g1 [43]).out (show zT [43] t1 = .ok ((),t1.tail) by unfold zT;grind);rw [jr ⟨hp1,hp2⟩];simp only [hp1,hm,jl,jg,jk,jf,gt.idx1,hp2,jo,mo.1,ji];have nm:=ZM (d:=d) gt;cases e:z6 t1.tail with
  |error er=>
   obtain ⟨st,h⟩:=nm.err e;simp only [h,YV g1,hp1,hm,jl,jg,jk,gt.idx1,hp2,jo,mo.1,jf,ji,jj,ZC];exact ⟨st,rfl⟩
  |ok q=>
   obtain ⟨k,t2⟩:=q;obtain ⟨h,g2,l2⟩:=nm.out e;have hk2:=Xl (zJ e);simp only [h,YV g1,hp1,hm,jl,jg,jk,gt.idx1,hp2,jo,mo.1,jf,ji,jj,ZC];simp only [ndT,hk2,hn];exact .ok g2 (by omega) rfl
 ·rw [js hp];by_cases hq:isP [45] t1=true/\(hd t1.tail).k_=1
  ·obtain ⟨hp1,hp2⟩:=hq;have hm:isP [43] t1=false:=by
    grind
   have gt:=g1.is hp1;have mo:=(ZF (d:=d) g1 [45]).out (show zT [45] t1 = .ok ((),t1.tail) by unfold zT;grind);rw [jr ⟨hp1,hp2⟩];simp only [hp1,hm,jl,jg,jk,jf,gt.idx1,hp2,jo,mo.1,ji];have nm:=ZM (d:=d) gt;cases e:z6 t1.tail with
   |error er=>
    obtain ⟨st,h⟩:=nm.err e;simp only [h,YV g1,hp1,hm,jl,jg,jk,gt.idx1,hp2,jo,mo.1,jf,ji,jj,ZC];exact ⟨st,rfl⟩
   |ok q=>
    obtain ⟨k,t2⟩:=q;obtain ⟨h,g2,l2⟩:=nm.out e;have hk2:=Xl (zJ e);simp only [h,YV g1,hp1,hm,jl,jg,jk,gt.idx1,hp2,jo,mo.1,jf,ji,jj,ZC];simp only [ndT,hk2,hn];exact .ok g2 (by omega) rfl
  ·rw [js hq];have fin:Sm d (ts.length - 1) (xz n t1) ((q4g (q7.mk (ndT n).1 (ndT n).2.1 (ndT n).2.2.1 (ndT n).2.2.2 (Sl.mk [] false),⟨⟨t1,true⟩,d⟩)).bind fun y=>Sum.elim (fun e=>some (Sum.inl e)) (fun z=>some (Sum.inr (kg z.1,z.2))) y) Sum.inl (fun n st=>Sum.inr (n,st)):=by
    refine Sm.mono ?_ l1;rw [show q7.mk (ndT n).1 (ndT n).2.1 (ndT n).2.2.1 (ndT n).2.2.2 (Sl.mk [] false)=n from hn];refine Sm.map (zln g1) (fun e=>rfl) fun a t2 e _=>?_
    simp only [ji,zj]
   cases hp1:isP [43] t1 with
   |true=>
    have gt:=g1.is hp1;have hm:=zgu hp1;have hk1:¬ (hd t1.tail).k_=1:=fun e=>hp ⟨hp1,e⟩
    simp only [YV g1,hp1,hm,jl,jg,jk,jf,gt.idx1,hk1,jm,ji,ZC];exact fin
   |false=>
    cases hq1:isP [45] t1 with
    |true=>
     have gt:=g1.is hq1;have hk1:¬ (hd t1.tail).k_=1:=fun e=>hq ⟨hq1,e⟩
     simp only [YV g1,hp1,hq1,jl,jg,jk,jf,gt.idx1,hk1,jm,ji,ZC];exact fin
    |false=>
     simp only [YV g1,hp1,hq1,jg,jk,jf,ji,ZC];exact fin
end
section
variable {d:Int}{n:Nat}{ts:List Tk}
theorem zrl (g:TGood ts) (n:Nd):Sm d (ts.length - 1) (WN n ts) (q7b (n,⟨⟨ts,true⟩,d⟩)) Sum.inl (fun n st=>Sum.inr (ndK n st)):=by
 show Sm d _ _ ((q21 (lit [40],⟨⟨ts,true⟩,d⟩)).bind _) _ _;rw [YV g,jf];have ht:=g.tail_len;unfold WN;cases h1:isP [40] ts with
 |true=>
  simp only [jl,ga];exact (zgr g).bd (fun e=>rfl) fun v t1 _ g1 l1 =>.ok g1 (by omega) rfl
 |false=>
 simp only [jg,jk,zU g,jf];cases h2:isP [91] ts with
 |true=>
  simp only [jl,ga];refine (Xy (g.is h2)).bd (fun e=>rfl) fun a t1 ea g1 l1=>?_
  show Sm d _ _ (((q13 (lit [93],⟨⟨t1,true⟩,d⟩)).bind _).bind _) _ _;rw [ga];refine (ZF g1 [93]).bd (fun e=>rfl) fun _ t2 _ g2 l2=>?_
  show Sm d _ _ (((q13 (lit [61],⟨⟨t2,true⟩,d⟩)).bind _).bind _) _ _;rw [ga];refine (ZF g2 [61]).bd (fun e=>rfl) fun _ t3 _ g3 l3=>?_
  show Sm d _ _ (((q28 ⟨⟨t3,true⟩,d⟩).bind _).bind _) _ _;rw [ga];refine (Xy g3).bd (fun e=>rfl) fun b t4 eb g4 l4 =>.ok g4 (by omega) ?_
  simp only [ji,jj,jf,zj];rfl
 |false=>
 simp only [jg,jk,jf,ji];refine (ZF g [61]).bd (fun e=>rfl) fun _ t1 _ g1 l1=>?_
 refine (zt2 g1).bd (fun e=>rfl) fun a t2 _ g2 l2 =>.ok g2 (by omega) ?_
 simp only [ji,zj];rfl
def zfm (d:Int) (h:PSt->G3 ((Int×Int)×PSt⊕(Int×G0×Int×Int)×PSt×Sl Nd)) (blk:List Tk->PR Nd):Prop:=∀ ts,TGood ts->Sm d (ts.length - 1) (blk ts) (h ⟨⟨ts,true⟩,d⟩) Sum.inl (fun n st=>Sum.inr (ndK n st))
variable {h:PSt->G3 ((Int×Int)×PSt⊕(Int×G0×Int×Int)×PSt×Sl Nd)}{blk:List Tk->PR Nd}
theorem zbD {ts t1:List Tk}{n:Nd}(h:Ym ts = .ok (n,t1)):∃ a b,n.K_=⟨[a,b],true⟩:=by
 obtain ⟨a,t,_,h⟩:=bd_ok h;obtain ⟨op,t2,_,h⟩:=bd_ok h;obtain ⟨b,t3,_,h⟩:=bd_ok h;grind
theorem zhc (hb:zfm d h blk) (g:TGood ts) (k a:Int):Sm d (ts.length - 1) (wg blk k a ts) (q36 h (k,a,⟨⟨ts,true⟩,d⟩)) Sum.inl (fun n st=>Sum.inr (ndK n st)):=by
 show Sm d _ _ ((q3p ⟨⟨ts,true⟩,d⟩).bind _) _ _;refine (zgs g).bd (fun e=>rfl) fun n t1 e1 g1 l1=>?_
 refine (hb t1 g1).bd (fun e=>rfl) fun b t2 e2 g2 l2 =>.ok g2 (by omega) ?_
 obtain ⟨x,y,hk⟩:=zbD e1;simp only [ji,ndK,ndT,hk,zj];rw [Vf (by simp)];rfl
theorem zcL {ts t1:List Tk}{n:Nd}{a:Int}(h:wg blk k a ts = .ok (n,t1)):∃ a b c,n.K_=⟨[a,b,c],true⟩:=by
 obtain ⟨m,t,e,h⟩:=bd_ok h;obtain ⟨b,t2,_,h⟩:=bd_ok h;obtain ⟨x,y,hk⟩:=zbD e;grind
theorem zbE (x:Nd×Int):q6h x=some (⟨x.1.k_,x.1.T_,x.1.n_,x.2,x.1.K_⟩,x.2):=rfl
set_option maxHeartbeats 1000000 in
theorem zt3 (hb:zfm d h blk) (g:TGood ts):Sm d (ts.length - 1) (YE blk ts) (q30 h ⟨⟨ts,true⟩,d⟩) Sum.inl (fun n st=>Sum.inr (n,st)):=by
 show Sm d _ _ ((q10 ⟨⟨ts,true⟩,d⟩).bind _) _ _;rw [ZE g,jf,zU g,jf];have ht:=g.tail_len;unfold YE;cases h1:isP [102,114,101,101] ts with
 |true=>
  simp only [jl,ga];refine (ZM (g.is h1)).bd (fun e=>rfl) fun n t1 _ g1 l1=>?_
  refine Sm.mono (n:=t1.length - 1) ?_ (by omega);simp only [ji,zbE,jf,ga,ndT];exact Sm.map (WO g1 ⟨12,n.T_,n.n_,(hd ts).a_,nilS⟩) (fun e=>rfl) fun a t2 ea g2=>by
   simp only [ji,jj,jf,zj]
 |false=>
 simp only [jg,jk,zU g,jf];cases h2:isP [108,111,99,107] ts with
 |true=>
  simp only [jl,ga];refine (zsu (g.is h2) 13).bd (fun e=>rfl) fun n t1 _ g1 l1=>?_
  refine Sm.mono (n:=t1.length - 1) ?_ (by omega);simp only [ji,zbE,jf,ga,ndT];exact Sm.map (WO g1 ⟨n.k_,n.T_,n.n_,(hd ts).a_,nilS⟩) (fun e=>rfl) fun a t2 ea g2=>by
   simp only [ji,jj,jf,zj]
 |false=>
 simp only [jg,jk,zU g,jf];cases h3:isP [117,110,108,111,99,107] ts with
 |true=>
  simp only [jl,ga];refine (zsu (g.is h3) 14).bd (fun e=>rfl) fun n t1 _ g1 l1=>?_
  refine Sm.mono (n:=t1.length - 1) ?_ (by omega);simp only [ji,zbE,jf,ga,ndT];exact Sm.map (WO g1 ⟨n.k_,n.T_,n.n_,(hd ts).a_,nilS⟩) (fun e=>rfl) fun a t2 ea g2=>by
   simp only [ji,jj,jf,zj]
 |false=>
 simp only [jg,jk,zU g,jf];cases h4:isP [105,102] ts with
 |true=>
  simp only [jl,ga];refine (zhc hb (g.is h4) 15 (hd ts).a_).bd (fun e=>rfl) fun n t1 en g1 l1=>?_
  obtain ⟨x,y,z,hk⟩:=zcL en;simp only [ji,ndK,ndT,hk,zU g1,jf,ga];cases h5:isP [101,108,115,101] t1 with
  |true=>
   have:=g1.tail_len;simp only [jl,ga];refine (hb t1.tail (g1.is h5)).bd (fun e=>rfl) fun b t2 _ g2 l2 =>.ok g2 (by omega) ?_
   simp only [ji,ndK,ndT,zj];rw [Vf (by simp)];rfl
  |false=>
   simp only [jg,jk];rw [Vf (by simp)];exact .ok g1 (by omega) rfl
 |false=>
 simp only [jg,jk,zU g,jf];cases h5:isP [119,104,105,108,101] ts with
 |true=>
  simp only [jl,ga];refine Sm.mono (n:=ts.tail.length - 1) ?_ (by omega);exact Sm.map (zhc hb (g.is h5) 16 (hd ts).a_) (fun e=>rfl) fun a t1 ea g1=>by
   simp only [ji,jj,jf,ndK,ndT,zj]
 |false=>
 simp only [jg,jk,zU g,jf];cases h6:isP [114,101,116,117,114,110] ts with
 |true=>
  have g1:=g.is h6;simp only [jl,YV g1,jf,ga];cases h7:isP [59] ts.tail with
  |true=>
   simp only [Um,jg,jk,jl,jf,ji];refine Sm.mono (n:=ts.tail.length - 1) ?_ (by omega);show Sm d _ _ (((q58 (_,⟨⟨ts.tail,true⟩,d⟩)).bind _).bind _) _ _;rw [ga];exact Sm.map (WO g1 ⟨17,lit [],0,(hd ts).a_,nilS⟩) (fun e=>rfl) fun a t1 ea g1=>by
    simp only [ji,jj,jf,zj]
  |false=>
   simp only [U1,jg,jk,jl,ga];refine (Xy g1).bd (fun e=>rfl) fun a t1 ea g2 l2=>?_
   simp only [ji,jf,ga,zj];refine Sm.mono (n:=t1.length - 1) ?_ (by omega);exact Sm.map (WO g2 ⟨17,lit [],0,(hd ts).a_,⟨[a],true⟩⟩) (fun e=>rfl) fun b t2 eb g3=>by
    simp only [ji,jj,jf,zj]
 |false=>
 simp only [jg,jk,zU g,jf];cases h7:isP [97,98,111,114,116] ts with
 |true=>
  have g1:=g.is h7;simp only [jl,ga];refine Sm.mono (n:=ts.tail.length - 1) ?_ (by omega);exact Sm.map (WO g1 ⟨18,lit [],0,(hd ts).a_,nilS⟩) (fun e=>rfl) fun a t2 ea g2=>by
   simp only [ji,jj,jf,zj]
 |false=>
 simp only [jg,jk,zU g,jf];cases h8:isP [102,111,114,107] ts with
 |true=>
  simp only [jl,ga];refine (ZM (g.is h8)).bd (fun e=>rfl) fun n t1 _ g1 l1=>?_
  simp only [ji,ga];refine (zgr g1).bd (fun e=>rfl) fun ks t2 _ g2 l2=>?_
  simp only [ji,zbE,jf,ga,ndT];refine Sm.mono (n:=t2.length - 1) ?_ (by omega);exact Sm.map (WO g2 ⟨19,n.T_,n.n_,(hd ts).a_,ks⟩) (fun e=>rfl) fun b t2 eb g3=>by
   simp only [ji,jj,jf,zj]
 |false=>
 simp only [jg,jk,jf,ji,ga];refine (ZM g).bd (fun e=>rfl) fun n t1 en g1 l1=>?_
 simp only [ji,ga];rw [show q7.mk (ndT n).1 (ndT n).2.1 (ndT n).2.2.1 (ndT n).2.2.2 (Sl.mk [] false)=n from Xl (zJ en)];refine (zrl g1 n).bd (fun e=>rfl) fun m t2 _ g2 l2=>?_
 simp only [ji,ga,ndK,ndT,zj];refine Sm.mono (n:=t2.length - 1) ?_ (by omega);exact Sm.map (WO g2 m) (fun e=>rfl) fun b t2 eb g3=>by
  grind
end
section
variable {d:Int}{n:Nat}{ts:List Tk}
variable {h:PSt->G3 ((Int×Int)×PSt⊕(Int×G0×Int×Int)×PSt×Sl Nd)}{blk:List Tk->PR Nd}
theorem zsv {acc:List Nd}{a:Nd}(h:acc.length<=30000):zp 64 (mkS acc) [a]=some (mkS (acc++[a])):=by
 rw [yY (by simp [mkS];omega) (by simp [mkS];omega)];simp [mkS]
noncomputable abbrev zgv (h:PSt->G3 ((Int×Int)×PSt⊕(Int×G0×Int×Int)×PSt×Sl Nd)):=qcb q10 q21 q1k q13 qx (q30 h)
theorem zfn (hb:zfm d h blk) {u v:Int×G0×Int×Int}:∀ (k:Nat) (ts:List Tk) (acc:List Nd),TGood ts->ts.length<=k->acc.length+ts.length<=30000->
    Sm d (ts.length - 1) (xj (YE blk) k acc ts) (lpO (zgv h) (⟨⟨ts,true⟩,d⟩,u,v,mkS acc)) Sum.inl (fun l st=>Sum.inr (st,u,v,mkS l))/\∀ l t1,xj (YE blk) k acc ts = .ok (l,t1)->l.length+t1.length<=acc.length+ts.length
  |0,ts,acc,g,hk,ha=>absurd (GP (by omega)) g.ne
  |k+1,ts,acc,g,hk,ha=>by
    have ht:=g.tail_len;rw [Zn];show Sm d _ (if isP [125] ts=true then _ else _) ((((qx (lit [125],⟨⟨ts,true⟩,d⟩)).bind _)).bind _) _ _/\∀ l t1,(if isP [125] ts=true then _ else _)=_->_
    rw [zU g,jf];cases e:isP [125] ts with
    |true=>
      simp only [jl,Um,jg,jk];exact ⟨.ok (g.is e) (by omega) rfl,fun l t1 e=>by cases e;omega⟩
    |false=>
      simp only [jg,jk,U1,jl];have s:=zt3 hb g;cases es:YE blk ts with
      |error er=>
        obtain ⟨st,s⟩:=s.err es;rw [s];exact ⟨⟨st,rfl⟩,fun l t1 e=>by cases e⟩
      |ok p=>
        obtain ⟨a,t1⟩:=p;obtain ⟨s,g1,l1⟩:=s.out es;rw [s];simp only [jf,ji,zj];rw [zsv (by omega)];simp only [jf];have ih:=zfn hb (u:=u) (v:=v) k t1 (acc++[a]) g1 (by omega) (by simp;omega);exact ⟨ih.1.mono (by omega),fun l t2 e2=>by have:=ih.2 l t2 e2;grind⟩
theorem zjK:∀ (r:Nat) (k:Nat) (d:Int),d=8 - (r:Int)->0<=d->r+1<=k->zfm d (q2w k) (Z8 r)
  |r,0,d,_,_,hk=>by omega
  |0,k+1,d,hd',h0,hk=>by
    intro ts g;show Sm d _ _ ((q10 ⟨⟨ts,true⟩,d⟩).bind _) _ _;rw [ZE g,jf,YV g,jf];unfold Z8;cases e:isP [123] ts with
    |true=>
      have:decide (8<=d)=true:=gc (by omega);simp only [jl,jf,this,vy g];exact ⟨_,rfl⟩
    |false=>
      simp only [jg,jk,jf];have hm:zT [123] ts = .error ((hd ts).a_,20):=by unfold zT;rw [e];rfl
      obtain ⟨st,s⟩:=(ZF (d:=d) g [123]).err hm;rw [s];exact ⟨st,rfl⟩
  |r+1,k+1,d,hd',h0,hk=>by
    intro ts g;show Sm d _ _ ((q10 ⟨⟨ts,true⟩,d⟩).bind _) _ _;rw [ZE g,jf,YV g,jf];unfold Z8;have h8:decide (8<=d)=false:=decide_eq_false (by omega);have hb:=zjK r k (d+1) (by omega) (by omega) (by omega);have hw:G4 (d+1)=d+1:=zM (by omega) (by omega);have hw2:G4 (d+1 - 1)=d:=by rw [zM (by omega) (by omega)];omega
    have hlen:=g.len
    have fin:Sm d (ts.length - 1) ((zT [123] ts).bd fun _ t1=>(xj (YE (Z8 r)) t1.length [] t1).bd fun l t2 =>.ok (⟨9,lit [],0,(hd ts).a_,mkS l⟩,t2))
        ((q13 (lit [123],⟨⟨ts,true⟩,d⟩)).bind fun y4=>Sum.elim (fun y5=>some (Sum.inl y5)) (fun y6=>(lpO (zgv (q2w k)) (q8.mk y6.Q_ (G4 (y6.D_+1)),(0,lit [],0,0),(9,lit [],0,(hd ts).a_),Sl.mk [] false)).bind fun y13=>
          Sum.elim (fun y14=>some (Sum.inl y14)) (fun y15=>some (Sum.inr (y15.2.2.1,q8.mk y15.1.Q_ (G4 (y15.1.D_ - 1)),y15.2.2.2))) y13) y4) Sum.inl (fun n st=>Sum.inr (ndK n st)):=by
      refine (ZF g [123]).bd (fun e=>rfl) fun _ t1 _ g1 l1=>?_
      have lp:=(zfn hb (u:=(0,lit [],0,0)) (v:=(9,lit [],0,(hd ts).a_)) t1.length t1 [] g1 (GJ _) (by simp;omega)).1;simp only [ji,hw];show Sm d _ _ ((lpO (zgv (q2w k)) (⟨⟨t1,true⟩,d+1⟩,(0,lit [],0,0),(9,lit [],0,(hd ts).a_),mkS [])).bind _) _ _;cases es:xj (YE (Z8 r)) t1.length [] t1 with
      |error er=>obtain ⟨st,s⟩:=lp.err es;rw [s];exact ⟨st,rfl⟩
      |ok p=>
        obtain ⟨l,t2⟩:=p;obtain ⟨s,g2,l2⟩:=lp.out es;rw [s];simp only [jf,ji,hw2];exact .ok g2 (by omega) rfl
    cases e:isP [123] ts with
    |true=>
      grind
    |false=>
      grind
theorem zt4:zfm 0 qaa (Z8 8):=zjK 8 100000 0 (by omega) (by omega) (by omega)
theorem zw5 {xs l:List Nd}{b:Bool}(h:xs.length+l.length<=60000) (hl:l≠[]):zp 64 (⟨xs,b⟩:Sl Nd) l=some ⟨xs++l,true⟩:=by
 rw [yY (by simp;omega) (by simp;omega)];grind
theorem zw6 (g:TGood ts) (at_:Int):Sm 0 (ts.length - 1) (fnP at_ ts) (q99 (at_,⟨⟨ts,true⟩,0⟩)) Sum.inl (fun n st=>Sum.inr (ndK n st)):=by
 have hlen:=g.len;show Sm 0 _ _ ((q16 ⟨⟨ts,true⟩,0⟩).bind _) _ _;refine (ZM g).bd (fun e=>rfl) fun n t1 _ g1 l1=>?_
 refine (ZF g1 [40]).bd (fun e=>rfl) fun _ t2 _ g2 l2=>?_
 simp only [ji,YV g2,jf];have h2:=g2.tail_len;refine Sm.bd (er:=Sum.inl) (ok:=fun (l:List Nd) (st:PSt)=>Sum.inr (st,(0,lit [],0,0),(6,n.T_,n.n_,at_),(mkS l:Sl Nd))) (n:=t2.length) ?_ (fun e=>rfl) fun ks t3 e3 g3 l3=>?_
 ·cases e:isP [41] t2 with
  |true=>exact .ok g2 (GJ _) rfl
  |false=>
   simp only [jg,jk,U1,jl];refine Sm.mono (n:=t2.length - 1) ?_ (by omega);obtain ⟨k1,k2⟩:=zb3 (d:=0) g2;refine Sm.map k1 (fun e=>rfl) fun l t3 el g3=>?_
   have hne:l≠[]:=by
    obtain ⟨a,t,_,e2⟩:=bd_ok el;have:∀ (k:Nat) (acc:List Nd) (t:List Tk) (l:List Nd) (t3:List Tk),acc≠[]->Zm xi k acc t = .ok (l,t3)->l≠[]:=by
     intro k
     induction k with
     |zero=>intro acc t l t3 ha e;cases e;exact ha
     |succ k ih=>
      intro acc t l t3 ha e;unfold Zm at e;split at e
      ·obtain ⟨a,t',_,e⟩:=bd_ok e;grind
      grind
    grind
   cases l with
   |nil=>grind
   |cons a l=>rfl
 have hks:ks.length<=20001:=by
  have hlen2:=g2.len;split at e3
  ·cases e3;simp
  ·have:=(zb3 (d:=0) g2).2 ks t3 e3;omega
 refine (ZF g3 [41]).bd (fun e=>rfl) fun _ t4 _ g4 l4=>?_
 simp only [ji,zU g4,jf];have h4:=g4.tail_len;refine Sm.bd (er:=Sum.inl) (ok:=fun (m:Nd) (st:PSt)=>Sum.inr (st,(0,lit [],0,0),(6,n.T_,n.n_,at_),m,(mkS ks:Sl Nd))) (n:=t4.length) ?_ (fun e=>rfl) fun ret t5 e5 g5 l5=>?_
 ·cases e:isP [45,62] t4 with
  |true=>
   have g5:=g4.is e;simp only [jl,YV g5,jf];cases e2:isP [38] t4.tail with
   |true=>simp only [jl,vy g5,jf];exact ⟨_,rfl⟩
   |false=>
    simp only [jg,jk];refine Sm.mono (n:=t4.tail.length - 1) ?_ (by omega);exact Sm.map (zlp g5) (fun e=>rfl) fun a t _ _=>by simp only [jj,zj]
  |false=>
   simp only [jg,jk,ZE g4,jf];exact .ok g4 (GJ _) rfl
 refine (zt4 t5 g5).bd (fun e=>rfl) fun b t6 _ g6 l6 =>.ok g6 (by omega) ?_
 simp only [ji,ndK,ndT,zj,mkS];rw [zw5 (by simp;omega) (by simp)];rfl
end
section
mutual
def zn:Nd->Nat
 |⟨_,_,_,_,ks⟩=>zsw ks+1
def zsw:Sl Nd->Nat
 |⟨xs,_⟩=>ze xs
def ze:List Nd->Nat
 |[]=>0
 |a::r=>zn a+ze r
end
theorem zk (n:Nd):zn n=ze n.K_.xs+1:=by
 obtain ⟨a,b,c,d,⟨xs,nn⟩⟩:=n;simp [zn,zsw]
theorem zX:∀ (a b:List Nd),ze (a++b)=ze a+ze b
 |[],b=>by simp [ze]
 |x::a,b=>by simp [ze,zX a b];omega
theorem zI {ts:List Tk}(h:isP s ts=true):ts.tail.length+1=ts.length:=by
 cases ts with
 |nil=>exact absurd rfl (zeq h)
 |cons=>simp
theorem Zk {ts t1:List Tk}{u:Unit}(h:zT s ts = .ok (u,t1)):t1.length+1=ts.length:=by
 unfold zT at h;split at h
 ·rename_i h1;cases h;exact zI h1
 ·cases h
theorem zhd (hk:k≠0) {ts t1:List Tk}{t:Tk}(h:XV k ts = .ok (t,t1)):t1.length+1=ts.length:=by
 unfold XV at h;split at h
 ·rename_i h1;cases h;cases ts with
  |nil=>exact absurd h1.symm hk
  |cons=>simp
 ·cases h
theorem xR {sg:Int}{ts t1:List Tk}{v:Int}(h:yZ sg ts = .ok (v,t1)):t1.length+1=ts.length:=by
 obtain ⟨a,t,e,h⟩:=bd_ok h;cases h;exact zhd (by omega) e
def Sz (p:List Tk->PR Nd):Prop:=∀ ts n t1,p ts = .ok (n,t1)->zn n+3 * t1.length<=3 * ts.length/\t1.length+1<=ts.length
def SzL (p:List Tk->PR (List Nd)):Prop:=∀ ts n t1,p ts = .ok (n,t1)->ze n+3 * t1.length<=3 * ts.length/\t1.length+1<=ts.length
theorem ZJ {ts t1:List Tk}{n:Nd}(h:z6 ts = .ok (n,t1)):zn n=1/\t1.length+1=ts.length:=by
 obtain ⟨a,t,e,h⟩:=bd_ok h;cases h;exact ⟨by simp [zk,ze],zhd (by omega) e⟩
theorem zjL {ts t1:List Tk}{n m:Nd}(h:xz n ts = .ok (m,t1)):zn m=zn n/\t1.length<=ts.length:=by
 unfold xz at h;split at h
 ·rename_i hp;obtain ⟨a,t,e,h⟩:=bd_ok h;cases h;have:=xR e;have:=zI hp;exact ⟨by simp [zk,Nd.num],by omega⟩
 ·split at h
  ·rename_i hp;obtain ⟨a,t,e,h⟩:=bd_ok h;cases h;have:=xR e;have:=zI hp;exact ⟨by simp [zk,Nd.num],by omega⟩
  grind
theorem X4 {ts t1:List Tk}{n:Nd}(h:ZY ts = .ok (n,t1)):zn n=1/\t1.length+1<=ts.length:=by
 unfold ZY at h;split at h
 ·obtain ⟨a,t,e,h⟩:=bd_ok h;cases h;have:=xR e;exact ⟨by simp [zk,ze],by omega⟩
 ·split at h
  ·rename_i hp;obtain ⟨a,t,e,h⟩:=bd_ok h;cases h;have:=xR e;have:=zI hp;exact ⟨by simp [zk,ze],by omega⟩
  ·obtain ⟨a,t,e,h⟩:=bd_ok h;have h1:=ZJ e;have h2:=zjL h;grind
theorem zdX {one:List Tk->PR Nd}(ho:Sz one):∀ (k:Nat) (acc:List Nd) (ts:List Tk) (l:List Nd) (t1:List Tk),Zm one k acc ts = .ok (l,t1)->ze l+3 * t1.length<=ze acc+3 * ts.length/\t1.length<=ts.length
 |0,acc,ts,l,t1,h=>by cases h;grind
 |k+1,acc,ts,l,t1,h=>by
  unfold Zm at h;split at h
  ·rename_i hp;obtain ⟨a,t,e,h⟩:=bd_ok h;have h1:=ho _ _ _ e;have h2:=zdX ho k _ _ _ _ h;have h3:=zI hp;rw [zX] at h2;simp only [ze] at h2;omega
  grind
theorem zbF {one:List Tk->PR Nd}(ho:Sz one):SzL (Z3 one):=by
 intro ts l t1 h;obtain ⟨a,t,e,h⟩:=bd_ok h;have h1:=ho _ _ _ e;have h2:=zdX ho _ _ _ _ _ h;simp only [ze] at h2;omega
theorem zjM:Sz ZY:=fun ts n t1 h=>by have:=X4 h;omega
theorem zer {ts t1:List Tk}{ks:Sl Nd}(h:VG ts = .ok (ks,t1)):ze ks.xs+3 * t1.length+3<=3 * ts.length/\t1.length+1<=ts.length:=by
 obtain ⟨u,t,e,h⟩:=bd_ok h;have h0:=Zk e;split at h
 ·rename_i hp;have:=zI hp;cases h;simp [ze];omega
 ·obtain ⟨l,t2,e2,h⟩:=bd_ok h;obtain ⟨u,t3,e3,h⟩:=bd_ok h;cases h;have h1:=zbF zjM _ _ _ e2;have h2:=Zk e3;grind
theorem zcM:Sz xh:=fun ts n t1 h=>by
 obtain ⟨a,t,e,h⟩:=bd_ok h;have h0:=ZJ e;split at h
 ·rename_i hp;have:=zI hp;obtain ⟨k,t2,e2,h⟩:=bd_ok h;obtain ⟨u,t3,e3,h⟩:=bd_ok h;cases h;have h1:=ZJ e2;have h2:=Zk e3;simp only [zk,ze] at h1 |-;omega
 ·cases h;simp only [zk,ze];omega
theorem zrm {ts t1:List Tk}{s:G0}(h:zbB ts = .ok (s,t1)):t1.length+1=ts.length:=by
 unfold zbB at h;split at h
 ·rename_i hp;cases h;exact zI hp
 ·split at h
  ·rename_i hp;cases h;exact zI hp
  ·split at h
   ·rename_i hp;cases h;exact zI hp
   ·cases h
theorem zjN:Sz Ym:=fun ts n t1 h=>by
 obtain ⟨a,t,e,h⟩:=bd_ok h;obtain ⟨op,t2,e2,h⟩:=bd_ok h;obtain ⟨b,t3,e3,h⟩:=bd_ok h;cases h;have h0:=X4 e;have h1:=zrm e2;have h2:=X4 e3;simp only [zk,ze] at h0 h2 |-;omega
theorem zrn:Sz WA:=fun ts n t1 h=>by
 have go:∀ {w:List UInt8} {a b:G0} {c d:Int},isP w ts=true->((z6 ts.tail).bd fun k t1=>(.ok (⟨2,a,c,d,⟨[k],true⟩⟩,t1):PR Nd)) = .ok (n,t1)->zn n+3 * t1.length<=3 * ts.length/\t1.length+1<=ts.length:=by
  intro w a b c d hp h;obtain ⟨k,t,e,h⟩:=bd_ok h;cases h;have h0:=ZJ e;have:=zI hp;simp only [zk,ze] at h0 |-;omega
 unfold WA at h;split at h
 ·rename_i hp;have:=zI hp;cases h;simp only [zk,ze];omega
 ·split at h
  ·rename_i hp;have:=zI hp;cases h;simp only [zk,ze];omega
  ·split at h
   ·rename_i hp;exact go (b:=lit []) hp h
   ·split at h
    ·rename_i hp;exact go (b:=lit []) hp h
    ·split at h
     ·rename_i hp;exact go (b:=lit []) hp h
     ·cases h
theorem zt5 (a:Int):Sz (zcJ a):=fun ts n t1 h=>by
 obtain ⟨m,t,e,h⟩:=bd_ok h;obtain ⟨s,t2,e2,h⟩:=bd_ok h;obtain ⟨ks,t3,e3,h⟩:=bd_ok h;obtain ⟨ks2,t4,e4,h⟩:=bd_ok h;obtain ⟨u,t5,e5,h⟩:=bd_ok h;cases h;have h0:=ZJ e;have h1:=zrn _ _ _ e2;have h5:=Zk e5;have h3:ze ks+3 * t3.length<=zn s+3 * t2.length:=by
  split at e3
  ·rename_i hp;obtain ⟨l,t6,e6,e7⟩:=bd_ok e3;obtain ⟨u,t7,e7,e8⟩:=bd_ok e7;cases e8;have:=zI hp;have h6:=zbF zcM _ _ _ e6;have:=Zk e7;simp only [List.cons_append,Un,ze];omega
  ·cases e3;simp only [ze];omega
 have h4:ze ks2+3 * t4.length<=ze ks+3 * t3.length:=by
  split at e4
  ·rename_i hp;obtain ⟨l,t6,e6,e7⟩:=bd_ok e4;cases e7;have:=zI hp;have h6:=zbF zjN _ _ _ e6;rw [zX];omega
  grind
 simp only [zk] at h1 h3 |-;omega
theorem zjO:Sz wL:=fun ts n t1 h=>by
 have go:∀ {t0:List Tk} {a:G0} {c d:Int},t0.length+1<=ts.length->((z6 t0).bd fun k t1=>(.ok (⟨8,a,c,d,⟨[k],true⟩⟩,t1):PR Nd)) = .ok (n,t1)->zn n+3 * t1.length<=3 * ts.length/\t1.length+1<=ts.length:=by
  intro t0 a c d hp h;obtain ⟨k,t,e,h⟩:=bd_ok h;cases h;have h0:=ZJ e;simp only [zk,ze] at h0 |-;omega
 unfold wL at h;split at h
 ·rename_i hp;have:=zI hp;cases h;simp only [zk,ze];omega
 ·split at h
  ·rename_i hp;exact go (by have:=zI hp;omega) h
  ·obtain ⟨u,t,e,h⟩:=bd_ok h;have:=Zk e;split at h
   ·rename_i hp;exact go (by grind) h
   ·exact go (by omega) h
theorem zpn:Sz xi:=fun ts n t1 h=>by
 obtain ⟨m,t,e,h⟩:=bd_ok h;obtain ⟨s,t2,e2,h⟩:=bd_ok h;obtain ⟨k,t3,e3,h⟩:=bd_ok h;cases h;have h0:=ZJ e;have h1:=Zk e2;have h2:=zjO _ _ _ e3;simp only [zk,ze] at h2 |-;omega
theorem zpo {ts t1:List Tk}{n:Nd}(h:atP k ts = .ok (n,t1)):zn n=1/\t1.length+1<=ts.length:=by
 obtain ⟨m,t,e,h⟩:=bd_ok h;obtain ⟨s,t2,e2,h⟩:=bd_ok h;obtain ⟨v,t3,e3,h⟩:=bd_ok h;obtain ⟨u,t4,e4,h⟩:=bd_ok h;cases h;have h0:=ZJ e;have h1:=Zk e2;have h2:=xR e3;have h3:=Zk e4;exact ⟨by simp [zk,ze],by omega⟩
theorem zro:Sz vb:=fun ts n t1 h=>by
 unfold vb at h;split at h
 ·rename_i hp;obtain ⟨a,t,e,h⟩:=bd_ok h;cases h;have:=zI hp;have:=xR e;simp only [zk,ze];omega
 split at h
 ·rename_i hp;obtain ⟨a,t,e,h⟩:=bd_ok h;cases h;have:=zI hp;have:=ZJ e;simp only [zk,ze];omega
 split at h
 ·rename_i hp;have:=zI hp;split at h
  ·rename_i hq;obtain ⟨a,t,e,h⟩:=bd_ok h;cases h;have:=zI hq;have:=ZJ e;simp only [zk,ze];omega
  ·obtain ⟨a,t,e,h⟩:=bd_ok h;cases h;have:=ZJ e;simp only [zk,ze];omega
 split at h
 ·exact zjM _ _ _ h
 obtain ⟨m,t,e,h⟩:=bd_ok h;have h0:=ZJ e;split at h
 ·obtain ⟨ks,t2,e2,h⟩:=bd_ok h;cases h;have:=zer e2;simp only [zk];omega
 split at h
 ·rename_i hp;obtain ⟨a,t2,e2,h⟩:=bd_ok h;obtain ⟨u,t3,e3,h⟩:=bd_ok h;cases h;have:=zI hp;have h1:=X4 e2;have:=Zk e3;simp only [zk,ze] at h1 |-;omega
 split at h
 ·rename_i hp;obtain ⟨a,t2,e2,h⟩:=bd_ok h;cases h;have:=zI hp.1;have h1:=ZJ e2;simp only [zk,ze] at h0 h1 |-;omega
 split at h
 ·rename_i hp;obtain ⟨a,t2,e2,h⟩:=bd_ok h;cases h;have:=zI hp.1;have h1:=ZJ e2;simp only [zk,ze] at h0 h1 |-;omega
 ·have:=zjL h;omega
theorem zpp {m n:Nd}{ts t1:List Tk}(h:WN m ts = .ok (n,t1)):zn n+3 * t1.length<=3 * ts.length+2/\t1.length+1<=ts.length:=by
 unfold WN at h;split at h
 ·obtain ⟨ks,t2,e2,h⟩:=bd_ok h;cases h;have:=zer e2;simp only [zk,ze];omega
 split at h
 ·rename_i hp;obtain ⟨a,t2,e2,h⟩:=bd_ok h;obtain ⟨u,t3,e3,h⟩:=bd_ok h;obtain ⟨u,t4,e4,h⟩:=bd_ok h;obtain ⟨b,t5,e5,h⟩:=bd_ok h;cases h;have:=zI hp;have h1:=X4 e2;have:=Zk e3;have:=Zk e4;have h2:=X4 e5;simp only [zk,ze] at h1 h2 |-;omega
 ·obtain ⟨u,t4,e4,h⟩:=bd_ok h;obtain ⟨b,t5,e5,h⟩:=bd_ok h;cases h;have:=Zk e4;have h2:=zro _ _ _ e5;simp only [zk,ze] at h2 |-;omega
theorem wh {m n:Nd}{ts t1:List Tk}(h:Wl m ts = .ok (n,t1)):n=m/\t1.length+1=ts.length:=by
 obtain ⟨u,t,e,h⟩:=bd_ok h;cases h;exact ⟨rfl,Zk e⟩
theorem zfo {blk:List Tk->PR Nd}(hb:Sz blk) (k a:Int):Sz (wg blk k a):=fun ts n t1 h=>by
 obtain ⟨m,t,e,h⟩:=bd_ok h;obtain ⟨b,t2,e2,h⟩:=bd_ok h;cases h;have h0:=zjN _ _ _ e;have h1:=hb _ _ _ e2;simp only [zk] at h0 h1 |-
 simp only [zX,ze,zk];omega
theorem zrp {blk:List Tk->PR Nd}(hb:Sz blk):Sz (YE blk):=fun ts n t1 h=>by
 unfold YE at h;split at h
 ·rename_i hp;obtain ⟨a,t,e,h⟩:=bd_ok h;have:=zI hp;have:=ZJ e;obtain ⟨rfl,h2⟩:=wh h;simp only [zk,ze];omega
 split at h
 ·rename_i hp;obtain ⟨a,t,e,h⟩:=bd_ok h;have:=zI hp;have:=zpo e;obtain ⟨rfl,h2⟩:=wh h;simp only [zk,ze];omega
 split at h
 ·rename_i hp;obtain ⟨a,t,e,h⟩:=bd_ok h;have:=zI hp;have:=zpo e;obtain ⟨rfl,h2⟩:=wh h;simp only [zk,ze];omega
 split at h
 ·rename_i hp;obtain ⟨a,t,e,h⟩:=bd_ok h;have:=zI hp;have h1:=zfo hb _ _ _ _ _ e;split at h
  ·rename_i hq;obtain ⟨b,t2,e2,h⟩:=bd_ok h;cases h;have:=zI hq;have h2:=hb _ _ _ e2;simp only [zk] at h1 h2 |-
   simp only [zX,ze,zk];omega
  ·cases h;simp only [zk] at h1 |-
   simp only [zX,ze,zk];omega
 split at h
 ·rename_i hp;have:=zI hp;have h1:=zfo hb _ _ _ _ _ h;omega
 split at h
 ·rename_i hp;have:=zI hp;split at h
  ·obtain ⟨rfl,h2⟩:=wh h;simp only [zk,ze];omega
  ·obtain ⟨a,t,e,h⟩:=bd_ok h;have h1:=X4 e;obtain ⟨rfl,h2⟩:=wh h;simp only [zk,ze] at h1 |-;omega
 split at h
 ·rename_i hp;have:=zI hp;obtain ⟨rfl,h2⟩:=wh h;simp only [zk,ze];omega
 split at h
 ·rename_i hp;obtain ⟨a,t,e,h⟩:=bd_ok h;obtain ⟨ks,t2,e2,h⟩:=bd_ok h;have:=zI hp;have:=ZJ e;have:=zer e2;obtain ⟨rfl,h2⟩:=wh h;simp only [zk];omega
 ·obtain ⟨a,t,e,h⟩:=bd_ok h;obtain ⟨m,t2,e2,h⟩:=bd_ok h;have:=ZJ e;have:=zpp e2;obtain ⟨rfl,h2⟩:=wh h;omega
theorem zhe {one:List Tk->PR Nd}(ho:Sz one):∀ (k:Nat) (acc:List Nd) (ts:List Tk) (l:List Nd) (t1:List Tk),xj one k acc ts = .ok (l,t1)->ze l+3 * t1.length+3<=ze acc+3 * ts.length/\t1.length+1<=ts.length
 |0,acc,ts,l,t1,h=>by cases h
 |k+1,acc,ts,l,t1,h=>by
  unfold xj at h;split at h
  ·rename_i hp;have:=zI hp;cases h;omega
  ·obtain ⟨a,t,e,h⟩:=bd_ok h;have h1:=ho _ _ _ e;have h2:=zhe ho k _ _ _ _ h;rw [zX] at h2;simp only [ze] at h2;omega
theorem zhf:∀ r,Sz (Z8 r)
 |0=>fun ts n t1 h=>by unfold Z8 at h;split at h <;> cases h
 |r+1=>fun ts n t1 h=>by
  obtain ⟨u,t,e,h⟩:=bd_ok (show ((zT [123] ts).bd _)=_ from h);obtain ⟨l,t2,e2,h⟩:=bd_ok h;cases h;have:=Zk e;have:=zhe (zrp (zhf r)) _ _ _ _ _ e2;simp only [zk,mkS,ze] at this |-;omega
theorem zvA (a:Int):Sz (fnP a):=fun ts n t1 h=>by
 obtain ⟨m,t,e,h⟩:=bd_ok h;obtain ⟨u,t2,e2,h⟩:=bd_ok h;obtain ⟨ps,t3,e3,h⟩:=bd_ok h;obtain ⟨u,t4,e4,h⟩:=bd_ok h;obtain ⟨ret,t5,e5,h⟩:=bd_ok h;obtain ⟨b,t6,e6,h⟩:=bd_ok h;cases h;have:=ZJ e;have:=Zk e2;have:=Zk e4;have h6:=zhf _ _ _ _ e6;have h3:ze ps+3 * t3.length<=3 * t2.length:=by
  split at e3
  ·cases e3;simp only [ze];omega
  ·have:=zbF zpn _ _ _ e3;omega
 have h5:zn ret+3 * t5.length<=3 * t4.length+1:=by
  split at e5
  ·rename_i hp;have:=zI hp;split at e5
   ·cases e5
   ·have:=zjO _ _ _ e5;omega
  ·cases e5;simp only [zk,ze];omega
 simp only [zk] at h5 h6 |-
 simp only [zX,ze,zk];omega
theorem VH:∀ (k:Nat) (acc:List Nd) (ts:List Tk) (l:List Nd) (t1:List Tk),Yi k acc ts = .ok (l,t1)->ze l+3 * t1.length<=ze acc+3 * ts.length
 |0,acc,ts,l,t1,h=>by cases h
 |k+1,acc,ts,l,t1,h=>by
  unfold Yi at h;split at h
  ·cases h;omega
  split at h
  ·rename_i hp;obtain ⟨a,t,e,h⟩:=bd_ok h;have:=zI hp;have h1:=zvA _ _ _ _ e;have h2:=VH k _ _ _ _ h;rw [zX] at h2;simp only [ze] at h2;omega
  ·obtain ⟨u,t,e,h⟩:=bd_ok h;obtain ⟨a,t2,e2,h⟩:=bd_ok h;have:=Zk e;have h1:=zt5 _ _ _ _ e2;have h2:=VH k _ _ _ _ h;rw [zX] at h2;simp only [ze] at h2;omega
theorem ZR (n:Nd):1<=zn n:=by rw [zk];omega
theorem zdY {xs:List Nd}{i:Nat}(h:i < xs.length):ze (xs.take (i+1))=ze (xs.take i)+zn xs[i]:=by
 rw [List.take_succ_eq_append_getElem h,zX];simp [ze]
theorem zaC (xs:List Nd) (i:Nat):ze (xs.take i)<=ze xs:=by
 have:=zX (xs.take i) (xs.drop i);rw [List.take_append_drop] at this;omega
theorem zlq:∀ (k:Nat) (n:Nd),zn n<=k->zn n<=1000000000->q4i k n=some (zn n:Int)
 |0,n,h,_=>by have:=ZR n;omega
 |k+1,n,h,hb=>by
  obtain ⟨a,b,c,d,⟨xs,nn⟩⟩:=n;show ((lpO (qab (q4i k)) (1,(⟨xs,nn⟩:Sl Nd),Sl.len (⟨xs,nn⟩:Sl Nd),0)).bind fun y3=>some y3)=_;have hs:zn ⟨a,b,c,d,⟨xs,nn⟩⟩=ze xs+1:=by rw [zk]
  have loop:∀ (m i:Nat),i+m=xs.length->lpO (qab (q4i k)) (((1+ze (xs.take i):Nat):Int),(⟨xs,nn⟩:Sl Nd),Sl.len (⟨xs,nn⟩:Sl Nd),(i:Int))=some ((1+ze xs:Nat):Int):=by
   intro m
   induction m with
   |zero=>
    intro i hi;rw [Zn];have hf:qab (q4i k) (((1+ze (xs.take i):Nat):Int),(⟨xs,nn⟩:Sl Nd),Sl.len (⟨xs,nn⟩:Sl Nd),(i:Int))=some (.done ((1+ze (xs.take i):Nat):Int)):=by
     show (if decide ((i:Int) < (xs.length:Int))=true then _ else _)=_;grind
    grind
   |succ m ih=>
    intro i hi;have hlt:i < xs.length:=by omega
    rw [Zn];have hg:zd (⟨xs,nn⟩:Sl Nd) (i:Int)=some xs[i]:=by
     unfold zd;rw [jr (by omega)];simp [hlt]
    have h1:=zdY hlt;have h2:=zaC xs (i+1);have hr:q4i k xs[i]=some (zn xs[i]:Int):=zlq k xs[i] (by omega) (by omega);have hlen:xs.length<=ze xs:=by
     clear hr h1 h2 hg ih hs hb h hlt hi
     induction xs with
     |nil=>simp
     |cons x r ih=>have:=ZR x;simp only [ze,ju];omega
    have hf:qab (q4i k) (((1+ze (xs.take i):Nat):Int),(⟨xs,nn⟩:Sl Nd),Sl.len (⟨xs,nn⟩:Sl Nd),(i:Int))=some (.next (((1+ze (xs.take (i+1)):Nat):Int),(⟨xs,nn⟩:Sl Nd),Sl.len (⟨xs,nn⟩:Sl Nd),((i+1:Nat):Int))):=by
     show (if decide ((i:Int) < (xs.length:Int))=true then (zd (⟨xs,nn⟩:Sl Nd) (i:Int)).bind _ else _)=_;rw [jr (by simp;omega),hg];simp only [jf,zj,hr];rw [zM (by omega) (by omega),zM (by omega) (by omega),h1];have e1:((1+ze (xs.take i):Nat):Int)+(zn xs[i]:Int)=((1+(ze (xs.take i)+zn xs[i]):Nat):Int):=by omega
     grind
    grind
  have:=loop xs.length 0 (by omega);simp only [List.take_zero,ze,Ue] at this;grind
theorem zt6 {l:List UInt8}{n:Nat}{v:Int}(h:nxt l = .tok k n v):(0<=v/\v<=1099511627776)/\k≠0:=by
 cases l with
 |nil=>cases h
 |cons c r=>
  unfold nxt at h;simp only at h;split at h
  ·cases h
  split at h
  ·cases h
  split at h
  ·unfold Xv at h;split at h
   ·cases h
   ·rename_i hb;cases h;unfold WM at hb;grind
  split at h
  ·unfold xf at h;grind
  ·unfold xg at h;grind
theorem zt7 {l:List UInt8}{e:Int}(h:nxt l = .err e):e≠0:=by
 cases l with
 |nil=>cases h;omega
 |cons c r=>
  unfold nxt at h;simp only at h;split at h
  ·cases h
  split at h
  ·cases h
  split at h
  ·unfold Xv at h;grind
  split at h
  ·unfold xf at h;grind
  ·unfold xg at h;grind
theorem zes:∀ (f at_:Nat) (l:List UInt8) (ts:List Tk),wJ f at_ l = .inr ts->∀ t∈ts,(0<=t.n_/\t.n_<=1099511627776)/\t.k_≠0
 |0,at_,l,ts,h=>by cases h;simp
 |f+1,at_,l,ts,h=>by
  unfold wJ at h;split at h
  ·cases h;simp
  split at h
  ·exact zes f _ _ ts h
  ·cases h
  ·rename_i k n v hn;split at h
   ·cases h
   ·rename_i ts' hts;cases h;intro t ht;rcases Ua.1 ht with rfl | ht
    ·exact zt6 hn
    ·exact zes f _ _ ts' hts t ht
theorem zcN {s:G0}(h:(ZU s).2.1=0):TGood (ZU s).2.2.xs/\(ZU s).2.2.nn=true:=by
 unfold ZU at h |-
 by_cases hs:16384 < s.size
 ·grind
 ·rw [js hs] at h |-
  cases e:Wi 0 (bs s) with
  |inl x=>
   rw [e] at h;exfalso;have:∀ (f a:Nat) (l:List UInt8) (x:Nat×Int),wJ f a l = .inl x->x.2≠0:=by
    intro f
    induction f with
    |zero=>intro a l x h;cases h
    |succ f ih=>
     intro a l x h;unfold wJ at h;split at h
     ·cases h
     split at h
     ·grind
     ·rename_i e he;cases h;exact zt7 he
     grind
   exact this _ _ _ _ e h
  |inr ts=>
   have hl:=Ve (bs s).length (bs s) 0 ts (GJ _) e;rw [Z7] at hl;refine ⟨⟨by simp,fun _=>by simp,by simp;omega,fun t ht=>?_⟩,rfl⟩;simp only [G5,Uw] at ht;rcases ht with ht | rfl
   ·exact (zes _ _ _ _ e t ht).1
   ·simp
def VI:Nd:=⟨0,lit [],0,0,nilS⟩
def xJ (s:G0):Nd×Int×Int:=if (ZU s).2.1≠0 then (VI,(ZU s).1,(ZU s).2.1) else
 match Yi (ZU s).2.2.xs.length [] (ZU s).2.2.xs with
 | .error e=>(VI,e.1,e.2)
 | .ok (ks,_)=>if 4096 < ze ks+1 then (VI,0,22) else (⟨0,lit [],0,0,mkS ks⟩,0,0)
noncomputable abbrev Zo:=q4t qa8 q10 qx q99 q13 q8v qar qcy q9n
theorem zjP {acc:List Nd}{z a:Nd}(h:acc.length<=30000):∃ y8:Sl Nd,zp 64 (mkS acc) [z]=some y8/\zd y8 (Sl.len (mkS acc))=some z/\y8.set (Sl.len (mkS acc)) a=mkS (acc++[a]):=by
 refine ⟨_,zsv h,?_,?_⟩
 ·unfold zd mkS Sl.len;grind
 ·unfold mkS Sl.len Sl.set;cases acc <;> simp
theorem zbG {a0 e0:Int}:∀ (k:Nat) (ts:List Tk) (acc:List Nd),TGood ts->ts.length<=k->acc.length+ts.length<=30000->
    match Yi k acc ts with
    | .error e=>∃ st u v w,lpO Zo ((0,lit [],0,0),a0,e0,⟨⟨ts,true⟩,0⟩,mkS acc)=some (.inl (e,u,v,w,st))
    | .ok (l,_)=>lpO Zo ((0,lit [],0,0),a0,e0,⟨⟨ts,true⟩,0⟩,mkS acc)=some (.inr ((0,lit [],0,0),a0,e0,mkS l))
  |0,ts,acc,g,hk,ha=>absurd (GP (by omega)) g.ne
  |k+1,ts,acc,g,hk,ha=>by
    have ht:=g.tail_len;have key:∀ z,Zo ((0,lit [],0,0),a0,e0,⟨⟨ts,true⟩,0⟩,mkS acc)=some z->lpO Zo ((0,lit [],0,0),a0,e0,⟨⟨ts,true⟩,0⟩,mkS acc)=(match z with | .next x'=>lpO Zo x' | .done y=>some y):=fun z hz=>by rw [Zn,hz];grind
    unfold Yi;by_cases h0:(hd ts).k_=0
    · rw [jr h0];have hz:Zo ((0,lit [],0,0),a0,e0,⟨⟨ts,true⟩,0⟩,mkS acc)=some (.done (.inr ((0,lit [],0,0),a0,e0,mkS acc))):=by
        unfold Zo q4t;simp only [ZE g,jf,jh];grind
      exact key _ hz
    · rw [js h0];cases e:isP [102,110] ts with
      |true=>
        simp only [jl];have s:=zw6 (g.is e) (hd ts).a_;cases es:fnP (hd ts).a_ ts.tail with
        |error er=>
          obtain ⟨st,s⟩:=s.err es;have hz:Zo ((0,lit [],0,0),a0,e0,⟨⟨ts,true⟩,0⟩,mkS acc)=some (.done (.inl (er,(0,lit [],0,0),a0,e0,mkS acc))):=by
            unfold Zo q4t;simp only [ZE g,jf,jh];rw [jr h0];simp only [zU g,jf,e,jl,s,jj]
          exact ⟨_,_,_,_,key _ hz⟩
        |ok p=>
          obtain ⟨a,t1⟩:=p;obtain ⟨s,g1,l1⟩:=s.out es;obtain ⟨y8,q1,q2,q3⟩:=zjP (acc:=acc) (z:=⟨0,lit [],0,0,Sl.mk [] false⟩) (a:=a) (by omega);have hz:Zo ((0,lit [],0,0),a0,e0,⟨⟨ts,true⟩,0⟩,mkS acc)=some (.next ((0,lit [],0,0),a0,e0,⟨⟨t1,true⟩,0⟩,mkS (acc++[a]))):=by
            unfold Zo q4t;simp only [ZE g,jf,jh];rw [jr h0];simp only [zU g,jf,e,jl,s,ji,q1,q2,ZC,ndK,ndT,zj,q3]
          have ih:=zbG (a0:=a0) (e0:=e0) k t1 (acc++[a]) g1 (by omega) (by simp;omega);rw [key _ hz];exact ih
      |false=>
        simp only [jg,jk];have s0:=ZF (d:=0) g [116,121,112,101];cases em:zT [116,121,112,101] ts with
        |error er=>
          obtain ⟨st,s⟩:=s0.err em;have hz:Zo ((0,lit [],0,0),a0,e0,⟨⟨ts,true⟩,0⟩,mkS acc)=some (.done (.inl (er,(0,lit [],0,0),a0,e0,mkS acc))):=by
            unfold Zo q4t;simp only [ZE g,jf,jh];rw [jr h0];simp only [zU g,jf,e,jg,jk,s,jj]
          exact ⟨_,_,_,_,key _ hz⟩
        |ok p=>
          obtain ⟨u,t0⟩:=p;obtain ⟨s,g0,l0⟩:=s0.out em;have s1:=zvz (d:=0) g0 (hd ts).a_;simp only [PR.bd];cases es:zcJ (hd ts).a_ t0 with
          |error er=>
            obtain ⟨st,s2⟩:=s1.err es;have hz:Zo ((0,lit [],0,0),a0,e0,⟨⟨ts,true⟩,0⟩,mkS acc)=some (.done (.inl (er,(0,lit [],0,0),a0,e0,mkS acc))):=by
              unfold Zo q4t;simp only [ZE g,jf,jh];rw [jr h0];simp only [zU g,jf,e,jg,jk,s,s2,ji,jj]
            grind
          |ok p=>
            obtain ⟨a,t1⟩:=p;obtain ⟨s2,g1,l1⟩:=s1.out es;obtain ⟨y8,q1,q2,q3⟩:=zjP (acc:=acc) (z:=⟨0,lit [],0,0,Sl.mk [] false⟩) (a:=a) (by omega);have hz:Zo ((0,lit [],0,0),a0,e0,⟨⟨ts,true⟩,0⟩,mkS acc)=some (.next ((0,lit [],0,0),a0,e0,⟨⟨t1,true⟩,0⟩,mkS (acc++[a]))):=by
              unfold Zo q4t;simp only [ZE g,jf,jh];rw [jr h0];simp only [zU g,jf,e,jg,jk,s,s2,ji,q1,q2,ZC,ndK,ndT,zj,q3]
            have ih:=zbG (a0:=a0) (e0:=e0) k t1 (acc++[a]) g1 (by omega) (by simp;omega);grind
theorem zet (s:G0):q1o s=some (xJ s):=by
 show ((qa8 s).bind _)=_;rw [zpk,jf];unfold xJ;simp only [jh];by_cases h:(ZU s).2.1=0
 case neg=>rw [jr h,jr h];rfl
 case pos=>
 rw [js (by simpa using h),js (by simpa using h)];obtain ⟨g,hn⟩:=zcN h;generalize hx:(ZU s).2.2=X at g hn;obtain ⟨ts,nn⟩:=X;simp only at g hn;subst hn;have lp:=zbG (a0:=(ZU s).1) (e0:=(ZU s).2.1) ts.length ts [] g (GJ _) (by have:=g.len;simp;omega);have hlen:=g.len;show ((lpO Zo ((0,lit [],0,0),(ZU s).1,(ZU s).2.1,(⟨⟨ts,true⟩,0⟩:PSt),mkS [])).bind _)=_;cases e:Yi ts.length [] ts with
 |error er=>
  rw [e] at lp;obtain ⟨st,u,v,w,lp⟩:=lp;rw [lp];rfl
 |ok p=>
  obtain ⟨l,t1⟩:=p;rw [e] at lp;simp only at lp;rw [lp];have hsz:=VH _ _ _ _ _ e;simp only [ze] at hsz;have hsize:qcy ⟨0,lit [],0,0,mkS l⟩=some ((ze l+1:Nat):Int):=by
   have:=zlq 100000 ⟨0,lit [],0,0,mkS l⟩ (by rw [zk];simp only [mkS];omega) (by rw [zk];simp only [mkS];omega);rw [zk] at this;exact this
  simp only [jf,ji,hsize,jh];by_cases hb:4096 < ze l+1
  ·rw [jr (by omega),jr hb];rfl
  ·rw [js (by omega),js hb];rfl
end
end Go.Px
