/- Part La: Px01A Px01B Px01C Px01D Px02A Px02B Px02C Px0 -/
import Derived.Test.YtghhopjjddppbaaGreatDoorSh
import Derived.Test.YtghhopjjddppbaaGreatDoorA9
import Derived.Test.YtghhopjjddppbaaGreatDoorB2
namespace Go.Px
set_option linter.unusedVariables false
set_option linter.unusedSimpArgs false
abbrev bs (s:ByteArray):List UInt8:=s.data.toList
theorem Zu (s:ByteArray):(bs s).length=s.size:=by cases s;simp [bs,ByteArray.size]
theorem zaD {s t:ByteArray}(h:bs s=bs t):s=t:=by
 cases s;cases t
 congr 1
 exact Array.toList_inj.1 h
theorem yd (l:List UInt8):bs (lit l)=l:=rfl
theorem zj6 (s t:ByteArray):bs (s++t)=bs s++bs t:=by
 show (s++t).data.toList=_
 rw [ByteArray.data_append,Array.toList_append]
theorem zQ {s β:Type}(f:s→Option (Step s β)) (x:s):lpO f x=(f x).bind fun | .next x'=>lpO f x' | .done y=>some y:=zkP f x
theorem Yz {s:ByteArray}{i:Nat}{c:UInt8}(h:(bs s)[i]?=some c):ZC s (i:Int)=some (c.toNat:Int):=by
 unfold ZC
 rw [if_pos (Int.natCast_nonneg i)]
 simp only [Int.toNat_natCast]
 have h:s.data.toList[i]?=some c:=h
 rw [h];rfl
theorem zem {l:List UInt8}{i:Nat}(h:i < l.length):∃ c,l[i]?=some c∧l.drop i=c::l.drop (i+1):=
 ⟨l[i],List.getElem?_eq_getElem h,List.drop_eq_getElem_cons h⟩
theorem XZ (s:ByteArray) (i j:Nat):bs (s.extract i j)=((bs s).take j).drop i:=by
 show (s.extract i j).data.toList=_
 rw [ByteArray.data_extract]
 simp [Array.toList_extract,List.extract,List.take_drop]
 by_cases h:i≤j
 ·rw [Nat.add_sub_cancel' h]
 ·have h1:j - i=0:=by omega
  rw [h1]
  simp
  omega
theorem Xf {s:ByteArray}{i j:Nat}(h1:i≤j) (h2:j≤s.size):Zl s (i:Int) (j:Int)=some (s.extract i j):=by
 unfold Zl
 rw [if_pos ⟨Int.natCast_nonneg i,Int.ofNat_le.2 h1,Int.ofNat_le.2 h2⟩]
 rfl
theorem zls {n:Nat}(h:n < 9223372036854775808):IntKind.i64.wrap (n:Int)=n:=yL (by omega) (by omega)
theorem zlt {n k:Nat}(h:n+k < 9223372036854775808):IntKind.i64.wrap ((n:Int)+(k:Int))=((n+k:Nat):Int):=by
 rw [yL (by omega) (by omega)];simp
theorem yj {n:Nat}(h:n+1 < 9223372036854775808):IntKind.i64.wrap ((n:Int)+1)=((n+1:Nat):Int):=by
 rw [yL (by omega) (by omega)];simp
def ZS (p:UInt8→Bool) (l:List UInt8):Nat:=(l.takeWhile p).length
theorem zlu (p:UInt8→Bool):ZS p []=0:=rfl
theorem Yd (p:UInt8→Bool) (c:UInt8) (l:List UInt8):ZS p (c::l)=if p c then ZS p l+1 else 0:=by
 unfold ZS;rw [List.takeWhile_cons];split <;> simp
theorem Wh (p:UInt8→Bool):∀ l:List UInt8,ZS p l≤l.length
 |[]=>Nat.le_refl _
 |c::l=>by rw [Yd];split <;> simp;exact Wh p l
def isL (b:UInt8):Bool:=(decide (97≤b.toNat) && decide (b.toNat≤122)) || decide (b.toNat=95)
def isD (b:UInt8):Bool:=decide (48≤b.toNat) && decide (b.toNat≤57)
def isW (b:UInt8):Bool:=isL b || isD b
def WX (b:UInt8):Bool:=decide (b.toNat≠10)
theorem zb1 (b:UInt8):q41 (b.toNat:Int)=some (isD b):=by
 simp only [q41,q8o,isD,decide_eq_true_eq]
 split
 ·rename_i h
  have:48≤b.toNat:=by omega
  simp [this];omega
 ·rename_i h
  have:¬ 48≤b.toNat:=by omega
  simp [this]
theorem zaE (b:UInt8):q37 (b.toNat:Int)=some (isL b):=by
 simp only [q37,q84,isL,decide_eq_true_eq]
 have e1:(97≤(b.toNat:Int))↔97≤b.toNat:=by omega
 have e2:((b.toNat:Int)≤122)↔b.toNat≤122:=by omega
 have e3:((b.toNat:Int)=95)↔b.toNat=95:=by omega
 simp only [e1,e2,e3]
 by_cases h1:97≤b.toNat <;> by_cases h2:b.toNat≤122 <;> simp [h1,h2]
theorem zj7 (b:UInt8):q5k (b.toNat:Int)=some (isW b):=by
 simp only [q5k,q85,zaE,zb1,isW,Option.bind_some]
 cases isL b <;> simp
theorem zlv (b:UInt8):q4t (b.toNat:Int)=some (WX b):=by
 simp only [q4t,q74,WX]
 congr 1
 exact decide_eq_decide.2 (by omega)
theorem Vt {f:Int→Option Bool}{p:UInt8→Bool}(hf:∀ c:UInt8,f (c.toNat:Int)=some (p c)) {s:ByteArray}(hs:s.size < 4611686018427387904) :
    ∀ (n i:Nat),s.size - i=n→i≤s.size→lpO (q27 f) (s,(i:Int))=some ((i+ZS p ((bs s).drop i):Nat):Int)
  |0,i,hn,hi=>by
    have:i=s.size:=by omega
    subst this
    rw [zQ]
    simp [q27,List.drop_eq_nil_of_le,Zu,zlu]
  |n+1,i,hn,hi=>by
    have hlt:i < s.size:=by omega
    obtain ⟨c,hc,hd⟩:=zem (l:=bs s) (i:=i) (by rw [Zu];exact hlt)
    rw [zQ]
    simp only [q27,decide_eq_true_eq]
    rw [if_pos (Int.ofNat_lt.2 hlt),Yz hc]
    simp only [Option.bind_some,hf]
    rw [hd,Yd]
    cases hp:p c with
    |true=>
      simp only [if_true,Option.bind_some]
      rw [yj (by omega),Vt hf hs n (i+1) (by omega) (by omega)]
      congr 2
      omega
    |false=>simp
theorem zj8 {s:ByteArray}{i:Nat}(hs:s.size < 4611686018427387904) (hi:i≤s.size):q5g (s,(i:Int))=some ((i+ZS isD ((bs s).drop i):Nat):Int):=by
 show (lpO (q27 q41) (s,(i:Int))).bind some=_
 rw [Vt zb1 hs _ i rfl hi];rfl
theorem ziN {s:ByteArray}{i:Nat}(hs:s.size < 4611686018427387904) (hi:i≤s.size):q53 (s,(i:Int))=some ((i+ZS isW ((bs s).drop i):Nat):Int):=by
 show (lpO (q27 q5k) (s,(i:Int))).bind some=_
 rw [Vt zj7 hs _ i rfl hi];rfl
theorem zj9 {s:ByteArray}{i:Nat}(hs:s.size < 4611686018427387904) (hi:i≤s.size):q4s (s,(i:Int))=some ((i+ZS WX ((bs s).drop i):Nat):Int):=by
 show (lpO (q27 q4t) (s,(i:Int))).bind some=_
 rw [Vt zlv hs _ i rfl hi];rfl
end Go.Px
namespace Go.Px
set_option linter.unusedVariables false
set_option linter.unusedSimpArgs false
def xo (l:List UInt8):Bool:=decide (l=[116,121,112,101]) || (decide (l=[102,110]) || (decide (l=[111,119,110]) || (decide (l=[99,101,108,108]) || (decide (l=[99,111,117,110,116,101,100]) || (decide (l=[108,111,99,107]) || (decide (l=[103,117,97,114,100]) || (decide (l=[119,104,101,114,101]) || (decide (l=[105,110,116]) || (decide (l=[109,117,116]) || (decide (l=[102,114,101,101]) || (decide (l=[117,110,108,111,99,107]) || (decide (l=[105,102]) || (decide (l=[101,108,115,101]) || (decide (l=[119,104,105,108,101]) || (decide (l=[114,101,116,117,114,110]) || (decide (l=[97,98,111,114,116]) || (decide (l=[102,111,114,107]) || (decide (l=[110,101,119]) || (decide (l=[97,114,114,97,121]))))))))))))))))))))
theorem zlw {p:Prop}[Decidable p] {X:Option Bool}{b:Bool}(h:X=some b):(if decide p=true then some (decide p) else X)=some (decide p || b):=by
 subst h
 by_cases hp:p <;> simp [hp]
theorem zlx {X:Option Bool}{b:Bool}(h:X=some b):(X.bind fun y=>some y)=some b:=by subst h;rfl
theorem znd {X:Option Bool}{b:Bool}(h:X=some b):(X.bind fun y=>if y=true then some true else some false)=some b:=by subst h;cases b <;> rfl
theorem zha (s:ByteArray) (l:List UInt8):decide (s=lit l)=decide (bs s=l):=by
 refine decide_eq_decide.2 ⟨fun h=>by rw [h];rfl,fun h=>zaD h⟩
theorem zoD (s:ByteArray):q63 s=some (xo (bs s)):=by
 simp only [q63,q8p,xo,← zha]
 refine znd ?_
 repeat (first | exact rfl | apply zlw | apply zlx)
theorem zne (l:List UInt8):q63 (lit l)=some (xo l):=zoD (lit l)
def vh (a:Nat):List UInt8→Nat
 |[]=>a
 |c::r=>vh (a * 10+(c.toNat - 48)) r
def yW (l:List UInt8):Nat:=vh 0 l
theorem zhb:∀ (l:List UInt8) (a:Nat),a≤vh a l
 |[],a=>Nat.le_refl _
 |c::r,a=>Nat.le_trans (by omega) (zhb r _)
def sgn (c:UInt8):Bool:=[123,125,40,41,91,93,44,58,59,61,43,45,38,60].contains c
def two (l:List UInt8):Bool:=decide (l.take 2=[45,62]) || (decide (l.take 2=[60,61]) || decide (l.take 2=[61,61]))
def Yt (l:List UInt8):Nat:=if two l then 2 else match l with
 |[]=>0
 |c::_=>if sgn c then 1 else 0
inductive Nx where
 |skip (n:Nat)
 |tok (k:Int) (n:Nat) (v:Int)
 |err (e:Int)
def Vu:Option UInt8→Bool
 |some c=>isL c
 |none=>false
def Xg (l:List UInt8):Bool:=decide (1099511627776 < yW (l.take (ZS isD l))) || ((decide (1 < ZS isD l) && decide (l.head?=some 48)) || Vu l[ZS isD l]?)
def wx (l:List UInt8):Nx:=if Xg l then .err 12 else .tok 3 (ZS isD l) (yW (l.take (ZS isD l)))
def Xh (l:List UInt8):Nx:=if 16 < ZS isW l then .err 13 else .tok (if xo (l.take (ZS isW l)) then 2 else 1) (ZS isW l) 0
def xz (l:List UInt8):Nx:=if Yt l=0 then .err 11 else .tok 4 (Yt l) 0
def nxt (l:List UInt8):Nx:=match l with
 |[] =>.err 11
 |c::r=>if c.toNat=32∨c.toNat=10 then .skip 1 else if c.toNat=35 then .skip (ZS WX (c::r)) else if isD c then wx (c::r) else if isL c then Xh (c::r) else xz (c::r)
def xX:Nat→Nat→List UInt8→(Nat×Int)⊕List q8
 |0,_,_ =>.inr []
 |f+1,at_,l=>if l.isEmpty then .inr [] else match nxt l with
  | .skip n=>xX f (at_+n) (l.drop n)
  | .err e =>.inl (at_,e)
  | .tok k n v=>match xX f (at_+n) (l.drop n) with
   | .inl x =>.inl x
   | .inr ts =>.inr (⟨k,lit (l.take n),v,at_⟩::ts)
def YI (at_:Nat) (l:List UInt8):(Nat×Int)⊕List q8:=xX l.length at_ l
theorem zcQ (l:List UInt8):Yt l≤l.length:=by
 unfold Yt
 split
 ·rename_i h
  unfold two at h
  match l with
  |[]=>simp at h
  |[a]=>simp at h
  |a::b::r=>simp
 ·match l with
  |[]=>simp
  |a::r=>simp only;split <;> simp
def Xr (m:Nat):Nx→Prop
 | .skip n=>1≤n∧n≤m
 | .tok _ n _=>1≤n∧n≤m
 | .err _=>True
theorem Wi {l:List UInt8}(h:l≠[]):Xr l.length (nxt l):=by
 match l,h with
 |c::r,_=>
  show Xr (c::r).length (if c.toNat=32∨c.toNat=10 then .skip 1 else if c.toNat=35 then .skip (ZS WX (c::r)) else if isD c then wx (c::r) else if isL c then Xh (c::r) else xz (c::r))
  split
  ·exact ⟨by omega,by simp⟩
  ·rename_i h1
   split
   ·rename_i h2
    refine ⟨?_,Wh _ _⟩
    rw [Yd]
    have:WX c=true:=by unfold WX;simp;omega
    simp [this]
   ·split
    ·rename_i hd
     unfold wx
     cases Xg (c::r) with
     |true=>trivial
     |false=>
      refine ⟨?_,Wh _ _⟩
      rw [Yd];simp [hd]
    ·split
     ·rename_i hl
      unfold Xh
      split
      ·trivial
      ·refine ⟨?_,Wh _ _⟩
       rw [Yd];simp [isW,hl]
     ·unfold xz
      split
      ·trivial
      ·exact ⟨by omega,zcQ _⟩
theorem WY:∀ (f:Nat) (l:List UInt8) (at_:Nat) (g:Nat),l.length≤f→l.length≤g→xX f at_ l=xX g at_ l
 |0,l,at_,g,h,hg=>by
  have:l=[]:=List.eq_nil_of_length_eq_zero (by omega)
  subst this
  cases g <;> rfl
 |f+1,l,at_,g,h,hg=>by
  match l with
  |[]=>cases g <;> rfl
  |c::r=>
   match g,hg with
   |g+1,hg=>
    have hp:=Wi (l:=c::r) (by simp)
    unfold xX
    simp only [List.isEmpty_cons,Bool.false_eq_true,if_false]
    cases hn:nxt (c::r) with
    |err e=>rfl
    |skip n=>
     rw [hn] at hp
     simp only [Xr] at hp ⊢
     exact WY f _ _ g (by rw [List.length_drop];simp only [List.length_cons] at *;omega) (by rw [List.length_drop];simp only [List.length_cons] at *;omega)
    |tok k n v=>
     rw [hn] at hp
     simp only [Xr] at hp ⊢
     rw [WY f ((c::r).drop n) _ g (by rw [List.length_drop];simp only [List.length_cons] at *;omega) (by rw [List.length_drop];simp only [List.length_cons] at *;omega)]
theorem zb2 (at_:Nat):YI at_ [] = .inr []:=rfl
theorem wL (at_:Nat) {l:List UInt8}(h:l≠[]):YI at_ l=match nxt l with
    | .skip n=>YI (at_+n) (l.drop n)
    | .err e =>.inl (at_,e)
    | .tok k n v=>match YI (at_+n) (l.drop n) with
      | .inl x =>.inl x
      | .inr ts =>.inr (⟨k,lit (l.take n),v,at_⟩::ts):=by
  match l,h with
  |c::r,_=>
    have hp:=Wi (l:=c::r) (by simp)
    unfold YI
    show xX (r.length+1) at_ (c::r)=_
    rw [xX]
    simp only [List.isEmpty_cons,Bool.false_eq_true,if_false]
    cases hn:nxt (c::r) with
    |err e=>rfl
    |skip n=>
      rw [hn] at hp
      simp only [Xr] at hp ⊢
      exact WY _ _ _ _ (by rw [List.length_drop];simp only [List.length_cons] at *;omega) (Nat.le_refl _)
    |tok k n v=>
      rw [hn] at hp
      simp only [Xr] at hp ⊢
      rw [WY r.length ((c::r).drop n) _ ((c::r).drop n).length (by rw [List.length_drop];simp only [List.length_cons] at *;omega) (Nat.le_refl _)]
end Go.Px
namespace Go.Px
set_option linter.unusedVariables false
set_option linter.unusedSimpArgs false
theorem zen (p:UInt8→Bool):∀ l:List UInt8,l.take (ZS p l)=l.takeWhile p
 |[]=>rfl
 |c::l=>by
  rw [Yd,List.takeWhile_cons]
  cases p c with
  |true=>simp [zen p l]
  |false=>simp
theorem zhc (p:UInt8→Bool) (l:List UInt8):∀ c∈l.take (ZS p l),p c=true:=by
 rw [zen]
 induction l with
 |nil=>simp
 |cons a l ih=>
  rw [List.takeWhile_cons]
  cases h:p a with
  |true=>simpa [h] using ih
  |false=>simp
theorem zb3 {s:ByteArray}{i:Nat}{l:List UInt8}(h:(bs s).drop i=l) (hl:l≠[]):i < s.size∧l.length=s.size - i:=by
 subst h
 rw [List.length_drop,Zu]
 refine ⟨?_,rfl⟩
 rcases Nat.lt_or_ge i s.size with h | h
 ·exact h
 ·exact absurd (List.drop_eq_nil_of_le (by rw [Zu];exact h)) hl
theorem zaF {s:ByteArray}{i n:Nat}{l:List UInt8}(h:(bs s).drop i=l) (hl:l≠[]) (hn:n≤l.length):Zl s (i:Int) ((i+n:Nat):Int)=some (lit (l.take n)):=by
 obtain ⟨h1,h2⟩:=zb3 h hl
 rw [Xf (by omega) (by omega)]
 congr 1
 apply zaD
 rw [XZ,yd,← h,List.take_drop]
theorem zhd {s:ByteArray}{i n:Nat}{l:List UInt8}(h:(bs s).drop i=l) {c:UInt8}(hc:l[n]?=some c):ZC s ((i+n:Nat):Int)=some (c.toNat:Int):=by
 apply Yz
 rw [← h,List.getElem?_drop] at hc
 exact hc
theorem WC (l:List UInt8):(lit l).size=l.length:=by rw [← Zu,yd]
theorem zaG {M:Nat}(hM:M=18446744073709551615):∀ (l:List UInt8) (a:Nat),(∀ c∈l,isD c=true)→a≤M→Lib.parseUintM M a l=if vh a l≤M then .ok (vh a l) else .range
 |[],a,_,ha=>by rw [if_pos (show vh a []≤M from ha)];rfl
 |c::r,a,h,ha=>by
  have hc:=h c (by simp)
  simp only [isD,Bool.and_eq_true,decide_eq_true_eq] at hc
  have hge:=zhb r (a * 10+(c.toNat - 48))
  have e:vh a (c::r)=vh (a * 10+(c.toNat - 48)) r:=rfl
  rw [e]
  unfold Lib.parseUintM
  rw [if_pos hc]
  split
  ·rw [if_neg (by omega)]
  ·split
   ·rw [if_neg (by omega)]
   ·exact zaG hM r _ (fun x hx=>h x (by simp [hx])) (by omega)
theorem zka {l:List UInt8}(hl:l≠[]) (h:∀ c∈l,isD c=true):Lib.parseIntB 64 l=if yW l < 9223372036854775808 then .ok (yW l:Int) else .range:=by
 match l,hl with
 |c::r,_=>
  have hc:=h c (by simp)
  simp only [isD,Bool.and_eq_true,decide_eq_true_eq] at hc
  have e43:¬ (c.toNat=43∨c.toNat=45):=by omega
  have e45:¬ c.toNat=45:=by omega
  unfold Lib.parseIntB Lib.parseUintB
  simp only
  rw [if_neg e43,if_neg (by simp)]
  generalize hM:(2 ^ 64 - 1:Nat)=M
  generalize hB:(2 ^ (64 - 1):Nat)=B
  have hM:M=18446744073709551615:=by rw [← hM]
  have hB:B=9223372036854775808:=by rw [← hB]
  rw [zaG hM _ _ h (by omega)]
  simp only [e45,false_and,not_false_eq_true,true_and,if_false]
  show (match (if yW (c::r)≤M then Lib.NumEnd.ok (yW (c::r)) else .range) with
   | .syntax=>Lib.NumEnd.syntax
   | .range =>.range
   | .ok u=>if B≤u then .range else .ok (u:Int))=_
  by_cases h1:yW (c::r)≤M
  ·rw [if_pos h1]
   simp only
   by_cases h2:yW (c::r) < 9223372036854775808
   ·rw [if_pos h2,if_neg (by omega)]
   ·rw [if_neg h2,if_pos (by omega)]
  ·rw [if_neg h1,if_neg (by omega)]
abbrev tk0:q8:=⟨0,lit [],0,0⟩
theorem zkb {s:ByteArray}{i:Nat}{c:UInt8}{r:List UInt8}(hs:s.size≤16384) (hl:(bs s).drop i=c::r) (hd:isD c=true) :
    q5l (s,(i:Int),((i+ZS isD (c::r):Nat):Int))=some (if Xg (c::r) then (tk0,12) else (⟨3,lit ((c::r).take (ZS isD (c::r))),(yW ((c::r).take (ZS isD (c::r))):Nat),i⟩,0)):=by
  obtain ⟨h1,h2⟩:=zb3 hl (by simp)
  have hn:=Wh isD (c::r)
  have hn1:1≤ZS isD (c::r):=by rw [Yd];simp [hd]
  generalize hN:ZS isD (c::r)=n at *
  have hall:=zhc isD (c::r)
  rw [hN] at hall
  have hne:(c::r).take n≠[]:=by
    match n,hn1 with
    |n+1,_=>simp
  have hlen:((c::r).take n).length=n:=by rw [List.length_take];omega
  have hhead:((c::r).take n)[0]?=some c:=by
    match n,hn1 with
    |n+1,_=>simp
  have hlast:∀ (X Y:Option (q8×Int)),(if decide (((i+n:Nat):Int) < (s.size:Int))=true then (ZC s ((i+n:Nat):Int)).bind fun y=>(q37 y).bind fun z=>if z=true then X else Y else Y)=if Vu (c::r)[n]?=true then X else Y:=by
    intro X Y
    by_cases hb:i+n < s.size
    · have:n < (c::r).length:=by omega
      have hg:=List.getElem?_eq_getElem this
      generalize (c::r)[n]=b at hg
      rw [zhd hl hg,hg]
      simp only [decide_eq_true_eq,Option.bind_some,zaE]
      rw [if_pos (Int.ofNat_lt.2 hb)]
      rfl
    · have:(c::r)[n]?=none:=List.getElem?_eq_none (by omega)
      rw [this]
      simp only [decide_eq_true_eq]
      rw [if_neg (fun h=>hb (Int.ofNat_lt.1 h))]
      rfl
  unfold q5l q86
  rw [show ((s,(i:Int),((i+n:Nat):Int)):ByteArray×Int×Int).fst=s from rfl]
  simp only
  rw [zaF hl (by simp) (by omega)]
  simp only [Option.bind_some,q5m,Xe,true_and]
  rw [if_pos (by rw [WC,hlen];omega),show (lit ((c::r).take n)).data.toList=(c::r).take n from rfl,zka hne hall]
  by_cases hv:yW ((c::r).take n) < 9223372036854775808
  · rw [if_pos hv]
    simp only [Option.bind_some,Sum.elim_inl]
    unfold Xg
    rw [hN]
    by_cases h40:1099511627776 < yW ((c::r).take n)
    · simp only [decide_eq_true_eq]
      rw [if_pos (by omega)]
      simp [h40]
    · simp only [decide_eq_true_eq]
      rw [if_neg (by omega),WC,hlen]
      have hl2:=hlast (some (q8.mk 0 (lit []) 0 0,12)) (some (q8.mk 3 (lit ((c::r).take n)) (yW ((c::r).take n):Nat) i,0))
      simp only [decide_eq_true_eq] at hl2
      have e0:ZC (lit ((c::r).take n)) 0=some (c.toNat:Int):=Yz (i:=0) hhead
      by_cases h1n:1 < n
      · rw [if_pos (by omega),e0]
        simp only [Option.bind_some]
        by_cases h48:c.toNat=48
        · rw [if_pos (by omega)]
          have:c=48:=UInt8.toNat_inj.1 (by simpa using h48)
          simp [h40,h1n,this]
        · rw [if_neg (by omega),hl2]
          have:¬ c=48:=fun h=>h48 (by rw [h];rfl)
          simp only [h40,h1n,this,decide_true,decide_false,List.head?_cons,Option.some.injEq,Bool.and_false,Bool.false_or]
          cases Vu (c::r)[n]? <;> rfl
      · rw [if_neg (by omega),hl2]
        simp only [h40,h1n,decide_false,Bool.false_and,Bool.false_or]
        cases Vu (c::r)[n]? <;> rfl
  · rw [if_neg hv]
    simp only [Option.bind_some,Sum.elim_inr]
    unfold Xg
    rw [hN]
    have h40:1099511627776 < yW ((c::r).take n):=by omega
    simp [h40]
theorem znf {s:ByteArray}{i:Nat}{l:List UInt8}{n:Nat}(hs:s.size≤16384) (hl:(bs s).drop i=l) (hne:l≠[]) (hn:n≤l.length) :
    q75 (s,(i:Int),((i+n:Nat):Int))=some (if 16 < n then (tk0,13) else (⟨if xo (l.take n) then 2 else 1,lit (l.take n),0,i⟩,0)):=by
  unfold q75 q9n
  simp only
  rw [zaF hl hne hn]
  have hlen:(l.take n).length=n:=by rw [List.length_take];omega
  simp only [Option.bind_some,WC,hlen,decide_eq_true_eq,zne]
  by_cases h:16 < n
  · rw [if_pos (by omega),if_pos h]
  · rw [if_neg (by omega),if_neg h]
    by_cases hk:xo (l.take n)=true
    · rw [if_pos hk,if_pos hk];rfl
    · rw [if_neg hk,if_neg hk];rfl
end Go.Px
namespace Go.Px
set_option linter.unusedVariables false
set_option linter.unusedSimpArgs false
theorem zaH (l:List UInt8) (a b:UInt8):q2r (lit l,lit [a,b])=some (decide (l.take 2=[a,b])):=by
 show ((q1b (lit l,lit [a,b])).bind fun y=>some y)=_
 unfold q1b
 simp only [WC,List.length_cons,List.length_nil,decide_eq_true_eq]
 by_cases h:2≤l.length
 ·rw [if_pos (by omega)]
  have:Zl (lit l) 0 ((2:Nat):Int)=some (lit (l.take 2)):=by
   have:=zaF (s:=lit l) (i:=0) (n:=2) (l:=l) rfl (by intro e;subst e;simp at h) h
   simpa using this
  rw [show ((0+1+1:Nat):Int)=((2:Nat):Int) from rfl,this]
  simp only [Option.bind_some]
  congr 1
  refine decide_eq_decide.2 ⟨fun h=>?_,fun h=>by rw [h]⟩
  have:=congrArg bs h
  simpa [yd] using this
 ·rw [if_neg (by omega)]
  have:l.take 2≠[a,b]:=by
   intro e
   have:=congrArg List.length e
   rw [List.length_take] at this
   simp at this;omega
  simp [this]
theorem WD:∀ (l:List UInt8) (c:UInt8),(0≤Lib.indexByte l c)↔l.contains c=true
 |[],c=>by simp [Lib.indexByte]
 |b::l,c=>by
  have ih:=WD l c
  have hg:=Lib.indexByte_ge l c
  unfold Lib.indexByte
  by_cases h:b=c
  ·subst h;simp
  ·have h':(b == c)=false:=by simpa using h
   have h2:(c == b)=false:=by simpa using fun e=>h e.symm
   simp only [h',Bool.false_eq_true,if_false,List.contains_cons,h2,Bool.false_or]
   rw [← ih]
   by_cases e:Lib.indexByte l c = -1
   ·rw [if_pos (by simpa using e)];omega
   ·rw [if_neg (by simpa using e)];omega
theorem zng {l:List UInt8}(hne:l≠[]):q8k (lit l)=some (lit (l.take (Yt l))):=by
 show (lpO (q4k q2r q2s) (lit l,(lit [45,62],lit [60,61],lit [61,61]),0)).bind _=_
 have w1:IntKind.i64.wrap (0+1)=1:=by decide
 have w2:IntKind.i64.wrap (1+1)=2:=by decide
 have w3:IntKind.i64.wrap (2+1)=3:=by decide
 have g0:∀ A B C:ByteArray,wS [A,B,C] 0=some A:=fun _ _ _=>rfl
 have g1:∀ A B C:ByteArray,wS [A,B,C] 1=some B:=fun _ _ _=>rfl
 have g2:∀ A B C:ByteArray,wS [A,B,C] 2=some C:=fun _ _ _=>rfl
 have two_take:two l=true→l.take 2=[45,62]∨l.take 2=[60,61]∨l.take 2=[61,61]:=by
  intro h;simpa [two] using h
 have loop:lpO (q4k q2r q2s) (lit l,(lit [45,62],lit [60,61],lit [61,61]),0)=some (if two l then .inl (lit (l.take 2)) else .inr (lit l)):=by
  rw [zQ]
  simp only [q4k,zaH,Option.bind_some,g0,w1]
  by_cases h1:l.take 2=[45,62]
  ·simp [h1,two]
  ·simp only [h1,decide_false,Bool.false_eq_true,if_false,Option.bind_some]
   rw [show decide ((0:Int) < 3)=true from rfl]
   simp only [if_true,Option.bind_some]
   rw [zQ]
   simp only [q4k,zaH,Option.bind_some,g1,w2]
   rw [show decide ((1:Int) < 3)=true from rfl]
   by_cases h2:l.take 2=[60,61]
   ·simp [h2,two]
   ·simp only [h2,decide_false,Bool.false_eq_true,if_false,Option.bind_some,if_true]
    rw [zQ]
    simp only [q4k,zaH,Option.bind_some,g2,w3]
    rw [show decide ((2:Int) < 3)=true from rfl]
    by_cases h3:l.take 2=[61,61]
    ·simp [h3,two]
    ·simp only [h3,decide_false,Bool.false_eq_true,if_false,Option.bind_some,if_true]
     rw [zQ]
     simp only [q4k]
     rw [show decide ((3:Int) < 3)=false from rfl]
     simp [two,h1,h2,h3]
 rw [loop]
 unfold Yt
 by_cases ht:two l=true
 ·rw [if_pos ht,if_pos ht];rfl
 ·rw [if_neg ht,if_neg ht]
  match l,hne with
  |c::r,_=>
   have e0:ZC (lit (c::r)) 0=some (c.toNat:Int):=Yz (i:=0) rfl
   have e1:Zl (lit (c::r)) 0 1=some (lit [c]):=by
    have:=zaF (s:=lit (c::r)) (i:=0) (n:=1) (l:=c::r) rfl (by simp) (by simp)
    simpa using this
   simp only [Option.bind_some,Sum.elim_inr]
   rw [e0,e1]
   simp only [Option.bind_some,q2s,XY,Int.toNat_natCast]
   have hb:(0≤Lib.indexByte (lit [123,125,40,41,91,93,44,58,59,61,43,45,38,60]).data.toList c.toNat.toUInt8)↔sgn c=true:=by
    have:c.toNat.toUInt8=c:=by simp [Nat.toUInt8]
    rw [this]
    exact WD _ c
   by_cases hs:sgn c=true
   ·rw [if_pos (decide_eq_true (hb.2 hs)),if_pos hs];rfl
   ·rw [if_neg (fun h=>hs (hb.1 (of_decide_eq_true h))),if_neg hs];rfl
noncomputable abbrev Vv:=q6f q4s q41 q5g q5l q37 q53 q75 q8k
theorem ziO {s:ByteArray}{i:Nat}{l:List UInt8}(hs:s.size≤16384) (hl:(bs s).drop i=l) (hne:l≠[]) (out:Sl q8) :
    Vv (s,(i:Int),out)=match nxt l with
      | .skip n=>some (.next (s,((i+n:Nat):Int),out))
      | .err e=>some (.done (.inl ((i:Int),e)))
      | .tok k n v=>(ZM 40 out [⟨k,lit (l.take n),v,i⟩]).bind fun o=>some (.next (s,((i+n:Nat):Int),o)):=by
  obtain ⟨h1,h2⟩:=zb3 hl hne
  match l,hne with
  |c::r,_=>
    have hc:ZC s (i:Int)=some (c.toNat:Int):=zhd (n:=0) hl rfl
    have hpos:=Wi (l:=c::r) (by simp)
    simp only [Vv,q6f]
    rw [if_pos (decide_eq_true (Int.ofNat_lt.2 h1)),hc]
    simp only [Option.bind_some]
    have e32:((c.toNat:Int)=32)↔c.toNat=32:=by omega
    have e10:((c.toNat:Int)=10)↔c.toNat=10:=by omega
    have e35:((c.toNat:Int)=35)↔c.toNat=35:=by omega
    have rest:∀ (k:Int) (n:Nat) (v:Int),n≤(c::r).length→(ZM 40 out [⟨k,lit ((c::r).take n),v,i⟩]).bind (fun o=>some (Step.next (β:=Int×Int⊕ByteArray×Sl q8) (s,IntKind.i64.wrap ((i:Int)+((lit ((c::r).take n)).size:Int)),o)))=(ZM 40 out [⟨k,lit ((c::r).take n),v,i⟩]).bind fun o=>some (.next (s,((i+n:Nat):Int),o)):=by
      intro k n v hn
      have hz:(lit ((c::r).take n)).size=n:=by rw [WC,List.length_take];omega
      rw [hz,zlt (by omega)]
    unfold nxt at hpos ⊢
    simp only at hpos ⊢
    by_cases hb:c.toNat=32∨c.toNat=10
    · rw [if_pos hb]
      simp only
      rcases hb with hb | hb
      · rw [if_pos (decide_eq_true (e32.2 hb))]
        simp [yj (n:=i) (by omega)]
      · have:¬ c.toNat=32:=by omega
        rw [if_neg (fun h=>this (e32.1 (of_decide_eq_true h)))]
        simp only [Option.bind_some,decide_eq_true_eq]
        rw [if_pos (e10.2 hb)]
        simp [yj (n:=i) (by omega)]
    · rw [if_neg hb] at hpos ⊢
      have n32:¬ c.toNat=32:=fun h=>hb (.inl h)
      have n10:¬ c.toNat=10:=fun h=>hb (.inr h)
      rw [if_neg (fun h=>n32 (e32.1 (of_decide_eq_true h)))]
      simp only [Option.bind_some,decide_eq_true_eq]
      rw [if_neg (fun h=>n10 (e10.1 h))]
      by_cases h35:c.toNat=35
      · rw [if_pos (e35.2 h35),if_pos h35,zj9 (by omega) (by omega),hl]
        simp
      · rw [if_neg (fun h=>h35 (e35.1 h))]
        rw [if_neg h35] at hpos ⊢
        simp only [zb1,zaE,Option.bind_some]
        by_cases hd:isD c=true
        · rw [if_pos hd] at hpos
          rw [if_pos hd,if_pos hd,zj8 (by omega) (by omega),hl]
          simp only [Option.bind_some]
          rw [zkb hs hl hd]
          unfold wx at hpos ⊢
          by_cases hbad:Xg (c::r)=true
          · rw [if_pos hbad,if_pos hbad]
            simp
          · rw [if_neg hbad] at hpos
            rw [if_neg hbad,if_neg hbad]
            simp only [Xr] at hpos
            simp only [Option.bind_some,Sum.elim_inr,ne_eq,not_true_eq_false,if_false,Option.bind_assoc,Sum.elim_inl]
            exact rest _ _ _ hpos.2
        · rw [if_neg hd] at hpos
          rw [if_neg hd,if_neg hd]
          by_cases hL:isL c=true
          · rw [if_pos hL] at hpos
            rw [if_pos hL,if_pos hL,ziN (by omega) (by omega),hl]
            simp only [Option.bind_some]
            rw [znf hs hl (by simp) (Wh _ _)]
            unfold Xh at hpos ⊢
            by_cases h16:16 < ZS isW (c::r)
            · rw [if_pos h16,if_pos h16]
              simp
            · rw [if_neg h16] at hpos
              rw [if_neg h16,if_neg h16]
              simp only [Xr] at hpos
              simp only [Option.bind_some,Sum.elim_inr,ne_eq,not_true_eq_false,if_false,Option.bind_assoc,Sum.elim_inl]
              exact rest _ _ _ hpos.2
          · rw [if_neg hL] at hpos
            rw [if_neg hL,if_neg hL]
            have hcut:Zl s (i:Int) (s.size:Int)=some (lit (c::r)):=by
              have:=zaF (n:=(c::r).length) hl (by simp) (Nat.le_refl _)
              rw [List.take_length] at this
              rw [← this];congr 1;omega
            rw [hcut]
            simp only [Option.bind_some]
            rw [zng (by simp)]
            simp only [Option.bind_some,decide_eq_true_eq]
            unfold xz at hpos ⊢
            by_cases h0:Yt (c::r)=0
            · rw [if_pos h0,if_pos (by rw [h0];rfl)]
              simp
            · rw [if_neg h0] at hpos
              have hx:¬ lit ((c::r).take (Yt (c::r)))=lit []:=by
                intro e
                have:=congrArg (fun x=>(bs x).length) e
                simp only [yd] at this
                rw [List.length_take] at this
                have:=zcQ (c::r)
                simp only [List.length_nil] at *;omega
              rw [if_neg h0,if_neg hx]
              simp only [Xr] at hpos
              simp only [Option.bind_some,Sum.elim_inr,ne_eq,not_true_eq_false,if_false,Option.bind_assoc,Sum.elim_inl]
              exact rest _ _ _ hpos.2
theorem zly {s:ByteArray}(hs:s.size≤16384):∀ (n i:Nat) (acc:List q8) (nn:Bool),s.size - i≤n→i≤s.size→acc.length≤i→
    lpO Vv (s,(i:Int),⟨acc,nn⟩)=some (match YI i ((bs s).drop i) with
      | .inl x =>.inl ((x.1:Int),x.2)
      | .inr ts =>.inr (s,⟨acc++ts,nn || !ts.isEmpty⟩)):=by
  intro n
  induction n with
  |zero=>
    intro i acc nn hn hi ha
    have:i=s.size:=by omega
    subst this
    rw [zQ]
    have hd:(bs s).drop s.size=[]:=List.drop_eq_nil_of_le (by rw [Zu];exact Nat.le_refl _)
    rw [hd,zb2]
    simp [Vv,q6f]
  |succ n ih=>
    intro i acc nn hn hi ha
    rcases Nat.lt_or_ge i s.size with hlt | hge
    · have hne:(bs s).drop i≠[]:=by
        intro e
        have:=congrArg List.length e
        rw [List.length_drop,Zu] at this
        simp at this;omega
      have hp:=Wi hne
      have hlen:((bs s).drop i).length=s.size - i:=by rw [List.length_drop,Zu]
      rw [zQ,ziO hs rfl hne,wL _ hne]
      cases hx:nxt ((bs s).drop i) with
      |err e=>rfl
      |skip k=>
        rw [hx] at hp
        simp only [Xr] at hp
        simp only [Option.bind_some,List.drop_drop]
        rw [ih (i+k) acc nn (by omega) (by omega) (by omega)]
      |tok k m v=>
        rw [hx] at hp
        simp only [Xr] at hp
        simp only [List.drop_drop]
        rw [XF (by simp only [List.length_cons,List.length_nil];omega) (by simp only [List.length_cons,List.length_nil];omega)]
        simp only [Option.bind_some]
        rw [ih (i+m) _ _ (by omega) (by omega) (by simp only [List.length_append,List.length_cons,List.length_nil];omega)]
        cases YI (i+m) ((bs s).drop (i+m)) with
        |inl x=>rfl
        |inr ts=>simp
    · have:i=s.size:=by omega
      exact ih i acc nn (by omega) hi ha
def yQ (s:ByteArray):Int×Int×Sl q8:=if 16384 < s.size then (0,10,⟨[],false⟩) else match YI 0 (bs s) with
 | .inl x=>((x.1:Int),x.2,⟨[],false⟩)
 | .inr ts=>(0,0,⟨ts++[⟨0,lit [],0,s.size⟩],true⟩)
theorem Vw:∀ (m:Nat) (l:List UInt8) (i:Nat) (ts:List q8),l.length≤m→YI i l = .inr ts→ts.length≤l.length
 |0,l,i,ts,hm,h=>by
  have:l=[]:=List.eq_nil_of_length_eq_zero (by omega)
  subst this
  rw [zb2] at h;cases h;simp
 |m+1,l,i,ts,hm,h=>by
  by_cases hne:l=[]
  ·subst hne
   rw [zb2] at h;cases h;simp
  ·have hp:=Wi hne
   rw [wL _ hne] at h
   cases hx:nxt l with
   |err e=>rw [hx] at h;cases h
   |skip k=>
    rw [hx] at h hp
    simp only [Xr] at hp
    have:=Vw m _ _ _ (by rw [List.length_drop];omega) h
    rw [List.length_drop] at this;omega
   |tok k n v=>
    rw [hx] at h hp
    simp only [Xr] at hp
    simp only at h
    cases hr:YI (i+n) (l.drop n) with
    |inl x=>rw [hr] at h;cases h
    |inr us=>
     rw [hr] at h
     cases h
     have:=Vw m _ _ _ (by rw [List.length_drop];omega) hr
     rw [List.length_drop] at this
     simp only [List.length_cons];omega
theorem zkc (s:ByteArray):q4u s=some (yQ s):=by
 unfold q4u q87 yQ
 simp only [decide_eq_true_eq]
 by_cases h:16384 < s.size
 ·rw [if_pos (by omega),if_pos h];rfl
 ·rw [if_neg (by omega),if_neg h]
  have:=zly (s:=s) (by omega) s.size 0 [] false (by omega) (by omega) (by simp)
  rw [List.drop_zero] at this
  rw [show ((s,0,Sl.mk [] false):ByteArray×Int×Sl q8)=(s,((0:Nat):Int),⟨[],false⟩) from rfl,this]
  cases hx:YI 0 (bs s) with
  |inl x=>rfl
  |inr ts=>
   have hl:=Vw _ _ _ _ (Nat.le_refl _) hx
   rw [Zu] at hl
   simp only [Option.bind_some,Sum.elim_inr,List.nil_append,Bool.false_or]
   rw [XF (by simp only [List.length_cons,List.length_nil];omega) (by simp only [List.length_cons,List.length_nil];omega)]
   simp
end Go.Px
namespace Go.Px
set_option linter.unusedVariables false
set_option linter.unusedSimpArgs false
abbrev Tk:=q8
abbrev Nd:=q9
abbrev zq {α:Type}:Sl α:=⟨[],false⟩
def hd:List Tk→Tk
 |[]=>⟨0,lit [],0,0⟩
 |t::_=>t
abbrev PR (α:Type):=Except (Int×Int) (α×List Tk)
def PR.bd {α β:Type}(r:PR α) (f:α→List Tk→PR β):PR β:=match r with
 | .error e =>.error e
 | .ok (a,ts)=>f a ts
def isP (s:List UInt8) (ts:List Tk):Bool:=(decide ((hd ts).Kind_=2) || decide ((hd ts).Kind_=4)) && decide ((hd ts).Text_=lit s)
def X0 {α:Type}(e:Int) (ts:List Tk):PR α :=.error ((hd ts).At_,e)
def Zc (s:List UInt8) (ts:List Tk):PR Unit:=if isP s ts=true then .ok ((),ts.tail) else X0 20 ts
def xp (k:Int) (ts:List Tk):PR Tk:=if (hd ts).Kind_=k then .ok (hd ts,ts.tail) else X0 20 ts
def Zn (ts:List Tk):PR Nd:=(xp 1 ts).bd fun t ts =>.ok (⟨5,t.Text_,0,t.At_,zq⟩,ts)
def Yu (sg:Int) (ts:List Tk):PR Int:=(xp 3 ts).bd fun t ts =>.ok (sg * t.Num_,ts)
def Nd.num (n:Nd) (v:Int):Nd:=⟨n.Kind_,n.Text_,v,n.At_,n.Kids_⟩
def Y4 (n:Nd) (ts:List Tk):PR Nd:=
 if isP [43] ts=true then (Yu 1 ts.tail).bd fun v ts =>.ok (Nd.num n v,ts)
 else if isP [45] ts=true then (Yu (-1) ts.tail).bd fun v ts =>.ok (Nd.num n v,ts)
 else .ok (n,ts)
def Z2 (ts:List Tk):PR Nd:=
 if (hd ts).Kind_=3 then (Yu 1 ts).bd fun v t1 =>.ok (⟨5,lit [],v,(hd ts).At_,zq⟩,t1)
 else if isP [45] ts=true then (Yu (-1) ts.tail).bd fun v t1 =>.ok (⟨5,lit [],v,(hd ts).At_,zq⟩,t1)
 else (Zn ts).bd Y4
def WE (ts:List Tk):PR ByteArray:=
 if isP [60] ts=true then .ok (lit [60],ts.tail) else if isP [60,61] ts=true then .ok (lit [60,61],ts.tail) else if isP [61,61] ts=true then .ok (lit [61,61],ts.tail) else X0 20 ts
def yk (one:List Tk→PR Nd):Nat→List Nd→List Tk→PR (List Nd)
 |0,acc,ts =>.ok (acc,ts)
 |k+1,acc,ts=>if isP [44] ts=true then (one ts.tail).bd fun a ts=>yk one k (acc++[a]) ts else .ok (acc,ts)
def yp (one:List Tk→PR Nd) (ts:List Tk):PR (List Nd):=(one ts).bd fun a t1=>yk one ts.length [a] t1
def wy (ts:List Tk):PR (Sl Nd):=(Zc [40] ts).bd fun _ t1=>
 if isP [41] t1=true then .ok (zq,t1.tail) else (yp Z2 t1).bd fun l t2=>(Zc [41] t2).bd fun _ t3 =>.ok (⟨l,true⟩,t3)
def Xn (ts:List Tk):PR Nd:=
 if isP [111,119,110] ts=true then .ok (⟨2,(hd ts).Text_,0,(hd ts).At_,zq⟩,ts.tail)
 else if isP [99,101,108,108] ts=true then .ok (⟨2,(hd ts).Text_,0,(hd ts).At_,zq⟩,ts.tail)
 else if isP [99,111,117,110,116,101,100] ts=true then (Zn ts.tail).bd fun k t1 =>.ok (⟨2,(hd ts).Text_,0,(hd ts).At_,⟨[k],true⟩⟩,t1)
 else if isP [108,111,99,107] ts=true then (Zn ts.tail).bd fun k t1 =>.ok (⟨2,(hd ts).Text_,0,(hd ts).At_,⟨[k],true⟩⟩,t1)
 else if isP [103,117,97,114,100] ts=true then (Zn ts.tail).bd fun k t1 =>.ok (⟨2,(hd ts).Text_,0,(hd ts).At_,⟨[k],true⟩⟩,t1)
 else X0 20 ts
def Yj (ts:List Tk):PR Nd:=(Zn ts).bd fun n t1=>
 if isP [91] t1=true then (Zn t1.tail).bd fun k t2=>(Zc [93] t2).bd fun _ t3 =>.ok (⟨3,n.Text_,n.Num_,n.At_,⟨[k],true⟩⟩,t3)
 else .ok (⟨3,n.Text_,n.Num_,n.At_,zq⟩,t1)
def YA (ts:List Tk):PR Nd:=(Z2 ts).bd fun a t1=>(WE t1).bd fun op t2=>(Z2 t2).bd fun b t3 =>.ok (⟨4,op,0,a.At_,⟨[a,b],true⟩⟩,t3)
def Vx (at_:Int) (ts:List Tk):PR Nd:=(Zn ts).bd fun n t1=>(Xn t1).bd fun s t2=>
 (if isP [123] t2=true then (yp Yj t2.tail).bd fun l t3=>(Zc [125] t3).bd fun _ t4 =>.ok ([s]++l,t4) else .ok ([s],t2):PR (List Nd)).bd fun ks t5=>
 (if isP [119,104,101,114,101] t5=true then (yp YA t5.tail).bd fun l t6 =>.ok (ks++l,t6) else .ok (ks,t5):PR (List Nd)).bd fun ks t7=>
 (Zc [59] t7).bd fun _ t8 =>.ok (⟨1,n.Text_,n.Num_,at_,⟨ks,true⟩⟩,t8)
def YB (ts:List Tk):PR Nd:=
 if isP [105,110,116] ts=true then .ok (⟨8,(hd ts).Text_,0,(hd ts).At_,zq⟩,ts.tail)
 else if isP [111,119,110] ts=true then (Zn ts.tail).bd fun k t1 =>.ok (⟨8,(hd ts).Text_,0,(hd ts).At_,⟨[k],true⟩⟩,t1)
 else (Zc [38] ts).bd fun _ t1=>
  if isP [109,117,116] t1=true then (Zn t1.tail).bd fun k t2 =>.ok (⟨8,lit [38,109,117,116],0,(hd ts).At_,⟨[k],true⟩⟩,t2)
  else (Zn t1).bd fun k t2 =>.ok (⟨8,(hd ts).Text_,0,(hd ts).At_,⟨[k],true⟩⟩,t2)
def YC (ts:List Tk):PR Nd:=(Zn ts).bd fun n t1=>(Zc [58] t1).bd fun _ t2=>(YB t2).bd fun m t3 =>.ok (⟨7,n.Text_,n.Num_,n.At_,⟨[m],true⟩⟩,t3)
def atP (k:Int) (ts:List Tk):PR Nd:=(Zn ts).bd fun n t1=>(Zc [91] t1).bd fun _ t2=>(Yu 1 t2).bd fun v t3=>(Zc [93] t3).bd fun _ t4 =>.ok (⟨k,n.Text_,v,n.At_,zq⟩,t4)
def yZ (ts:List Tk):PR Nd:=
 if isP [110,101,119] ts=true then (Yu 1 ts.tail).bd fun v t1 =>.ok (⟨23,lit [],v,(hd ts).At_,zq⟩,t1)
 else if isP [97,114,114,97,121] ts=true then (Zn ts.tail).bd fun k t1 =>.ok (⟨24,k.Text_,0,(hd ts).At_,zq⟩,t1)
 else if isP [38] ts=true then
  (if isP [109,117,116] ts.tail=true then (Zn ts.tail.tail).bd fun k t1 =>.ok (⟨27,k.Text_,0,(hd ts).At_,zq⟩,t1) else (Zn ts.tail).bd fun k t1 =>.ok (⟨26,k.Text_,0,(hd ts).At_,zq⟩,t1))
 else if (hd ts).Kind_≠1 then Z2 ts
 else (Zn ts).bd fun n t1=>
  if isP [40] t1=true then (wy t1).bd fun ks t2 =>.ok (⟨28,n.Text_,n.Num_,n.At_,ks⟩,t2)
  else if isP [91] t1=true then (Z2 t1.tail).bd fun a t2=>(Zc [93] t2).bd fun _ t3 =>.ok (⟨25,n.Text_,n.Num_,n.At_,⟨[a],true⟩⟩,t3)
  else if isP [43] t1=true∧(hd t1.tail).Kind_=1 then (Zn t1.tail).bd fun b t2 =>.ok (⟨21,lit [],0,n.At_,⟨[n,b],true⟩⟩,t2)
  else if isP [45] t1=true∧(hd t1.tail).Kind_=1 then (Zn t1.tail).bd fun b t2 =>.ok (⟨22,lit [],0,n.At_,⟨[n,b],true⟩⟩,t2)
  else Y4 n t1
def xc (n:Nd) (ts:List Tk):PR Nd:=
 if isP [40] ts=true then (wy ts).bd fun ks t1 =>.ok (⟨20,lit [],0,n.At_,⟨[⟨28,n.Text_,n.Num_,n.At_,ks⟩],true⟩⟩,t1)
 else if isP [91] ts=true then (Z2 ts.tail).bd fun a t1=>(Zc [93] t1).bd fun _ t2=>(Zc [61] t2).bd fun _ t3=>(Z2 t3).bd fun b t4 =>.ok (⟨11,n.Text_,n.Num_,n.At_,⟨[a,b],true⟩⟩,t4)
 else (Zc [61] ts).bd fun _ t1=>(yZ t1).bd fun e t2 =>.ok (⟨10,n.Text_,n.Num_,n.At_,⟨[e],true⟩⟩,t2)
def Xs (n:Nd) (ts:List Tk):PR Nd:=(Zc [59] ts).bd fun _ t1 =>.ok (n,t1)
def xL (blk:List Tk→PR Nd) (k at_:Int) (ts:List Tk):PR Nd:=(YA ts).bd fun n t1=>(blk t1).bd fun b t2 =>.ok (⟨k,n.Text_,n.Num_,at_,⟨n.Kids_.xs++[b],true⟩⟩,t2)
def ZQ (blk:List Tk→PR Nd) (ts:List Tk):PR Nd:=
 if isP [102,114,101,101] ts=true then (Zn ts.tail).bd fun n t1=>Xs ⟨12,n.Text_,n.Num_,(hd ts).At_,zq⟩ t1
 else if isP [108,111,99,107] ts=true then (atP 13 ts.tail).bd fun n t1=>Xs ⟨n.Kind_,n.Text_,n.Num_,(hd ts).At_,zq⟩ t1
 else if isP [117,110,108,111,99,107] ts=true then (atP 14 ts.tail).bd fun n t1=>Xs ⟨n.Kind_,n.Text_,n.Num_,(hd ts).At_,zq⟩ t1
 else if isP [105,102] ts=true then (xL blk 15 (hd ts).At_ ts.tail).bd fun n t1=>
  if isP [101,108,115,101] t1=true then (blk t1.tail).bd fun b t2 =>.ok (⟨n.Kind_,n.Text_,n.Num_,n.At_,⟨n.Kids_.xs++[b],true⟩⟩,t2)
  else .ok (⟨n.Kind_,n.Text_,n.Num_,n.At_,⟨n.Kids_.xs++[⟨9,lit [],0,(hd ts).At_,zq⟩],true⟩⟩,t1)
 else if isP [119,104,105,108,101] ts=true then xL blk 16 (hd ts).At_ ts.tail
 else if isP [114,101,116,117,114,110] ts=true then
  (if isP [59] ts.tail=true then Xs ⟨17,lit [],0,(hd ts).At_,zq⟩ ts.tail else (Z2 ts.tail).bd fun a t1=>Xs ⟨17,lit [],0,(hd ts).At_,⟨[a],true⟩⟩ t1)
 else if isP [97,98,111,114,116] ts=true then Xs ⟨18,lit [],0,(hd ts).At_,zq⟩ ts.tail
 else if isP [102,111,114,107] ts=true then (Zn ts.tail).bd fun n t1=>(wy t1).bd fun ks t2=>Xs ⟨19,n.Text_,n.Num_,(hd ts).At_,ks⟩ t2
 else (Zn ts).bd fun n t1=>(xc n t1).bd Xs
def Yk (one:List Tk→PR Nd):Nat→List Nd→List Tk→PR (List Nd)
 |0,acc,ts=>X0 20 ts
 |k+1,acc,ts=>if isP [125] ts=true then .ok (acc,ts.tail) else (one ts).bd fun a t1=>Yk one k (acc++[a]) t1
def mkS {α:Type}(l:List α):Sl α:=⟨l, !l.isEmpty⟩
def yE:Nat→List Tk→PR Nd
 |0,ts=>if isP [123] ts=true then X0 21 ts else X0 20 ts
 |r+1,ts=>(Zc [123] ts).bd fun _ t1=>(Yk (ZQ (yE r)) t1.length [] t1).bd fun l t2 =>.ok (⟨9,lit [],0,(hd ts).At_,mkS l⟩,t2)
def fnP (at_:Int) (ts:List Tk):PR Nd:=(Zn ts).bd fun n t1=>(Zc [40] t1).bd fun _ t2=>
 (if isP [41] t2=true then .ok ([],t2) else yp YC t2:PR (List Nd)).bd fun ps t3=>(Zc [41] t3).bd fun _ t4=>
 (if isP [45,62] t4=true then (if isP [38] t4.tail=true then X0 20 t4.tail else YB t4.tail) else .ok (⟨8,lit [],0,(hd t4).At_,zq⟩,t4):PR Nd).bd fun ret t5=>
 (yE 8 t5).bd fun b t6 =>.ok (⟨6,n.Text_,n.Num_,at_,⟨ps++[ret,b],true⟩⟩,t6)
def yF:Nat→List Nd→List Tk→PR (List Nd)
 |0,acc,ts=>X0 20 ts
 |k+1,acc,ts=>if (hd ts).Kind_=0 then .ok (acc,ts)
  else if isP [102,110] ts=true then (fnP (hd ts).At_ ts.tail).bd fun a t1=>yF k (acc++[a]) t1
  else (Zc [116,121,112,101] ts).bd fun _ t1=>(Vx (hd ts).At_ t1).bd fun a t2=>yF k (acc++[a]) t2
structure TGood (ts:List Tk):Prop where
 ne:ts≠[]
 last:∀ h:ts≠[],(ts.getLast h).Kind_=0
 len:ts.length≤20000
 num:∀ t∈ts,0≤t.Num_∧t.Num_≤1099511627776
theorem TGood.tail {ts:List Tk}(g:TGood ts) (h:(hd ts).Kind_≠0):TGood ts.tail:=by
 match ts,g,h with
 |[],g,_=>exact absurd rfl g.ne
 |[t],g,h=>exact absurd (g.last (by simp)) h
 |t::u::r,g,h=>
  refine ⟨by simp,fun _=>?_,?_,fun x hx=>g.num x (List.mem_cons_of_mem _ hx)⟩
  ·have:=g.last (by simp)
   rw [List.getLast_cons (by simp)] at this
   exact this
  ·have:=g.len;simp only [List.tail_cons,List.length_cons] at this ⊢;omega
theorem TGood.hd_idx {ts:List Tk}(g:TGood ts) (b:Bool):zt (⟨ts,b⟩:Sl Tk) 0=some (hd ts):=by
 match ts,g with
 |[],g=>exact absurd rfl g.ne
 |t::r,_=>rfl
theorem TGood.tl {ts:List Tk}(g:TGood ts) (b:Bool):zV (⟨ts,b⟩:Sl Tk) 1 (Sl.len (⟨ts,b⟩:Sl Tk))=some ⟨ts.tail,b⟩:=by
 match ts,g with
 |[],g=>exact absurd rfl g.ne
 |t::r,_=>
  unfold zV
  rw [if_pos ⟨by omega,by simp [Sl.len];omega,by simp [Sl.len]⟩]
  simp [Sl.len]
theorem zfE {s:List UInt8}{ts:List Tk}(h:isP s ts=true):(hd ts).Kind_≠0:=by
 unfold isP at h
 simp only [Bool.and_eq_true,Bool.or_eq_true,decide_eq_true_eq] at h
 omega
theorem TGood.is {s:List UInt8}{ts:List Tk}(g:TGood ts) (h:isP s ts=true):TGood ts.tail:=g.tail (zfE h)
theorem TGood.tail_len {ts:List Tk}(g:TGood ts):ts.tail.length+1=ts.length:=by
 match ts,g with
 |[],g=>exact absurd rfl g.ne
 |t::r,_=>simp
abbrev PSt:=Sl q8×Int
def Sm {α β:Type}(d:Int) (n:Nat) (r:PR α) (m:Option β) (er:(Int×Int)×PSt→β) (ok:α→PSt→β):Prop:=match r with
 | .error e=>∃ st,m=some (er (e,st))
 | .ok (a,ts)=>m=some (ok a (⟨ts,true⟩,d))∧TGood ts∧ts.length≤n
theorem Sm.bd {α β γ δ:Type}{d:Int}{n n':Nat}{r:PR α}{f:α→List Tk→PR γ}{m:Option β}{K:β→Option δ}{er:(Int×Int)×PSt→β}{ok:α→PSt→β}{er':(Int×Int)×PSt→δ}{ok':γ→PSt→δ}
    (h:Sm d n r m er ok) (he:∀ e,K (er e)=some (er' e)) (hk:∀ a ts,r = .ok (a,ts)→TGood ts→ts.length≤n→Sm d n' (f a ts) (K (ok a (⟨ts,true⟩,d))) er' ok'):Sm d n' (r.bd f) (m.bind K) er' ok':=by
  cases r with
  |error e=>
    obtain ⟨st,rfl⟩:=h
    exact ⟨st,he _⟩
  |ok p=>
    obtain ⟨a,ts⟩:=p
    obtain ⟨rfl,g,l⟩:=h
    exact hk a ts rfl g l
theorem Sm.ok {α β:Type}{d:Int}{n:Nat}{a:α}{ts:List Tk}{m:Option β}{er:(Int×Int)×PSt→β}{ok:α→PSt→β}(g:TGood ts) (l:ts.length≤n) (h:m=some (ok a (⟨ts,true⟩,d))):Sm d n (.ok (a,ts)) m er ok:=⟨h,g,l⟩
theorem Sm.mono {α β:Type}{d:Int}{n n':Nat}{r:PR α}{m:Option β}{er:(Int×Int)×PSt→β}{ok:α→PSt→β}(h:Sm d n r m er ok) (l:n≤n'):Sm d n' r m er ok:=by
 cases r with
 |error e=>exact h
 |ok p=>exact ⟨h.1,h.2.1,Nat.le_trans h.2.2 l⟩
variable {d:Int}{n:Nat}{ts:List Tk}
theorem ZL (g:TGood ts):qc (⟨ts,true⟩,d)=some (hd ts,⟨ts,true⟩,d):=by
 show ((zt (⟨ts,true⟩:Sl Tk) 0).bind fun y0=>some (y0,((⟨ts,true⟩:Sl Tk),d)))=_
 rw [g.hd_idx];rfl
theorem YL (g:TGood ts) (s:List UInt8):qk (lit s,⟨ts,true⟩,d)=some (isP s ts,⟨ts,true⟩,d):=by
 show ((qc (⟨ts,true⟩,d)).bind _)=_
 rw [ZL g,Option.bind_some]
 simp only [decide_eq_true_eq]
 unfold isP
 by_cases h2:(hd ts).Kind_=2
 ·rw [if_pos h2];simp [h2]
 ·rw [if_neg h2]
  by_cases h4:(hd ts).Kind_=4
  ·rw [if_pos h4];simp [h4]
  ·rw [if_neg h4];simp [h2,h4]
theorem zZ (g:TGood ts) (s:List UInt8):qb (lit s,⟨ts,true⟩,d)=some (isP s ts,if isP s ts=true then (⟨ts.tail,true⟩,d) else (⟨ts,true⟩,d)):=by
 show ((qk (lit s,⟨ts,true⟩,d)).bind _)=_
 rw [YL g,Option.bind_some]
 cases h:isP s ts with
 |false=>rfl
 |true=>
  simp only [Bool.not_true,Bool.false_eq_true,if_false,if_true]
  rw [g.tl];rfl
theorem Wj (g:TGood ts) (e:Int):qi (e,⟨ts,true⟩,d)=some (((hd ts).At_,e),⟨ts,true⟩,d):=by
 show ((qc (⟨ts,true⟩,d)).bind _)=_
 rw [ZL g];rfl
theorem vK {α β:Type}(g:TGood ts) {s:List UInt8}{K:Bool×PSt→Option β}{p q:PR α}{er:(Int×Int)×PSt→β}{ok:α→PSt→β}(h1:isP s ts=true→TGood ts.tail→ts.tail.length+1=ts.length→Sm d n p (K (true,⟨ts.tail,true⟩,d)) er ok)
    (h0:isP s ts=false→Sm d n q (K (false,⟨ts,true⟩,d)) er ok):Sm d n (if isP s ts=true then p else q) ((qb (lit s,⟨ts,true⟩,d)).bind K) er ok:=by
  rw [zZ g,Option.bind_some]
  cases h:isP s ts with
  |true=>simp only [if_true];exact h1 h (g.is h) g.tail_len
  |false=>simp only [Bool.false_eq_true,if_false];exact h0 h
theorem ZB (g:TGood ts) (s:List UInt8):Sm d (ts.length - 1) (Zc s ts) (qd (lit s,⟨ts,true⟩,d)) Sum.inl (fun _ st=>Sum.inr st):=by
 show Sm d _ _ ((qb (lit s,⟨ts,true⟩,d)).bind _) _ _
 unfold Zc
 refine vK g (fun h g1 l=>?_) fun h=>?_
 ·exact .ok g1 (by omega) rfl
 ·refine ⟨(⟨ts,true⟩,d),?_⟩
  show ((qi (20,⟨ts,true⟩,d)).bind _)=_
  rw [Wj g];rfl
theorem zhe (g:TGood ts) (k:Int) (hk:k≠0):Sm d (ts.length - 1) (xp k ts) (q1r (k,⟨ts,true⟩,d)) Sum.inl (fun t st=>Sum.inr (t,st)):=by
 show Sm d _ _ ((qc (⟨ts,true⟩,d)).bind _) _ _
 rw [ZL g,Option.bind_some]
 unfold xp
 simp only [decide_eq_true_eq]
 by_cases h:(hd ts).Kind_=k
 ·rw [if_pos h,if_neg (by simpa using h),g.tl]
  exact .ok (g.tail (by omega)) (by have:=g.tail_len;omega) rfl
 ·rw [if_neg h,if_pos h,Wj g]
  exact ⟨_,rfl⟩
theorem zkd {ts t1:List Tk}{t:Tk}{k:Int}(g:TGood ts) (h:xp k ts = .ok (t,t1)):0≤t.Num_∧t.Num_≤1099511627776:=by
 unfold xp at h
 split at h
 ·cases h
  match ts,g with
  |[],g=>exact absurd rfl g.ne
  |t::r,g=>exact g.num t (by simp [hd])
 ·cases h
def ndT (n:Nd):Int×ByteArray×Int×Int:=(n.Kind_,n.Text_,n.Num_,n.At_)
theorem ZX (g:TGood ts):Sm d (ts.length - 1) (Zn ts) (qe (⟨ts,true⟩,d)) Sum.inl (fun n st=>Sum.inr (ndT n,st)):=by
 show Sm d _ _ ((q1r (1,⟨ts,true⟩,d)).bind _) _ _
 exact (zhe g 1 (by omega)).bd (fun e=>rfl) fun t t1 _ g1 l =>.ok g1 l rfl
theorem xM (g:TGood ts) (sg:Int) (hs:sg=1∨sg = -1):Sm d (ts.length - 1) (Yu sg ts) (q1e (sg,⟨ts,true⟩,d)) Sum.inl (fun v st=>Sum.inr (v,st)):=by
 show Sm d _ _ ((q1r (3,⟨ts,true⟩,d)).bind _) _ _
 refine (zhe g 3 (by omega)).bd (fun e=>rfl) fun t t1 ht g1 l =>.ok g1 l ?_
 have:=zkd g ht
 show some (Sum.inr (IntKind.i64.wrap (sg * t.Num_),_))=_
 rw [yL (by rcases hs with rfl | rfl <;> omega) (by rcases hs with rfl | rfl <;> omega)]
end Go.Px
namespace Go.Px
set_option linter.unusedVariables false
set_option linter.unusedSimpArgs false
variable {d:Int}{n:Nat}{ts:List Tk}
theorem Sm.out {α β:Type}{r:PR α}{m:Option β}{er:(Int×Int)×PSt→β}{ok:α→PSt→β}(h:Sm d n r m er ok) {a:α}{t1:List Tk}(e:r = .ok (a,t1)):m=some (ok a (⟨t1,true⟩,d))∧TGood t1∧t1.length≤n:=by
 rw [e] at h;exact h
theorem Sm.err {α β:Type}{r:PR α}{m:Option β}{er:(Int×Int)×PSt→β}{ok:α→PSt→β}(h:Sm d n r m er ok) {e:Int×Int}(he:r = .error e):∃ st,m=some (er (e,st)):=by
 rw [he] at h;exact h
theorem zb {α β:Type}{r:PR α}{f:α→List Tk→PR β}{b:β}{t:List Tk}(h:r.bd f = .ok (b,t)):∃ a t1,r = .ok (a,t1)∧f a t1 = .ok (b,t):=by
 cases r with
 |error e=>cases h
 |ok p=>exact ⟨p.1,p.2,rfl,h⟩
theorem Sm.map {α β γ:Type}{r:PR α}{m:Option β}{K:β→Option γ}{er:(Int×Int)×PSt→β}{ok:α→PSt→β}{er':(Int×Int)×PSt→γ}{ok':α→PSt→γ}(h:Sm d n r m er ok) (he:∀ e,K (er e)=some (er' e)) (hk:∀ a t1,r = .ok (a,t1)→TGood t1→K (ok a (⟨t1,true⟩,d))=some (ok' a (⟨t1,true⟩,d))):Sm d n r (m.bind K) er' ok':=by
 cases r with
 |error e=>obtain ⟨st,rfl⟩:=h;exact ⟨st,he _⟩
 |ok p=>obtain ⟨rfl,g,l⟩:=h;exact ⟨hk _ _ rfl g,g,l⟩
theorem yC {ts t1:List Tk}{n:Nd}(h:Zn ts = .ok (n,t1)):n.Kids_=zq:=by
 obtain ⟨a,t,_,h⟩:=zb h
 cases h;rfl
theorem zhf {n0:Nd}(g:TGood ts):Sm d ts.length (Y4 n0 ts) (q1s (ndT n0,⟨ts,true⟩,d)) Sum.inl (fun n st=>Sum.inr (ndT n,st)):=by
 show Sm d _ _ ((qb (lit [43],⟨ts,true⟩,d)).bind _) _ _
 unfold Y4
 refine vK g (fun h g1 l=>?_) fun h=>?_
 ·simp only [if_true,Option.bind_assoc]
  exact (xM g1 1 (.inl rfl)).bd (fun e=>rfl) fun v t1 _ g2 l2 =>.ok g2 (by omega) rfl
 ·simp only [Bool.false_eq_true,if_false,Option.bind_assoc]
  refine vK g (fun h g1 l=>?_) fun h=>?_
  ·simp only [if_true,Option.bind_assoc]
   exact (xM g1 (-1) (.inr rfl)).bd (fun e=>rfl) fun v t1 _ g2 l2 =>.ok g2 (by omega) rfl
  ·exact .ok g (by omega) rfl
theorem zcR {ts t1:List Tk}{n n0:Nd}(h0:n0.Kids_=zq) (h:Y4 n0 ts = .ok (n,t1)):n.Kids_=zq:=by
 unfold Y4 at h
 split at h
 ·obtain ⟨a,t,_,h⟩:=zb h;cases h;exact h0
 ·split at h
  ·obtain ⟨a,t,_,h⟩:=zb h;cases h;exact h0
  ·cases h;exact h0
theorem Ya {ts t1:List Tk}{n:Nd}(h:Z2 ts = .ok (n,t1)):n.Kids_=zq:=by
 unfold Z2 at h
 split at h
 ·obtain ⟨a,t,_,h⟩:=zb h;cases h;rfl
 ·split at h
  ·obtain ⟨a,t,_,h⟩:=zb h;cases h;rfl
  ·obtain ⟨a,t,h1,h⟩:=zb h;exact zcR (yC h1) h
theorem xN (g:TGood ts):Sm d (ts.length - 1) (Z2 ts) (qm (⟨ts,true⟩,d)) Sum.inl (fun n st=>Sum.inr (ndT n,st)):=by
 show Sm d _ _ ((qc (⟨ts,true⟩,d)).bind _) _ _
 rw [ZL g,Option.bind_some,ZL g,Option.bind_some]
 unfold Z2
 simp only [decide_eq_true_eq]
 by_cases h3:(hd ts).Kind_=3
 ·rw [if_pos h3,if_pos h3]
  simp only [Option.bind_assoc]
  exact (xM g 1 (.inl rfl)).bd (fun e=>rfl) fun v t1 _ g2 l2 =>.ok g2 (by omega) rfl
 ·rw [if_neg h3,if_neg h3]
  simp only [Option.bind_assoc]
  refine vK g (fun h g1 l=>?_) fun h=>?_
  ·simp only [if_true,Option.bind_assoc]
   exact (xM g1 (-1) (.inr rfl)).bd (fun e=>rfl) fun v t1 _ g2 l2 =>.ok g2 (by omega) rfl
  ·show Sm d _ _ ((qe (⟨ts,true⟩,d)).bind _) _ _
   refine (ZX g).bd (fun e=>rfl) fun n t1 _ g1 l1=>?_
   show Sm d _ _ (((q1s (ndT n,⟨t1,true⟩,d)).bind _).bind _) _ _
   rw [Option.bind_assoc]
   refine Sm.mono ?_ l1
   exact Sm.map (zhf g1) (fun e=>rfl) fun a t2 _ _=>rfl
theorem zoE (g:TGood ts):Sm d (ts.length - 1) (WE ts) (q5d (⟨ts,true⟩,d)) Sum.inr (fun s st=>Sum.inl (s,st)):=by
  have body:∀ (i:Int) (s:List UInt8),0≤i→i < 3→wS [lit [60],lit [60,61],lit [61,61]] i=some (lit s)→
      q2f qb qi ((lit [60],lit [60,61],lit [61,61]),i,⟨ts,true⟩,d)=if isP s ts=true then some (.done (.inl (lit s,⟨ts.tail,true⟩,d))) else some (.next ((lit [60],lit [60,61],lit [61,61]),i+1,⟨ts,true⟩,d)):=by
    intro i s h0 h3 hn
    unfold q2f
    simp only [decide_eq_true_eq,if_pos h3,hn,Option.bind_some,zZ g]
    cases h:isP s ts with
    |true=>simp only [if_true]
    |false=>simp only [Bool.false_eq_true,if_false];rw [yL (by omega) (by omega)]
  have e0:=body 0 [60] (by omega) (by omega) rfl
  have e1:=body 1 [60,61] (by omega) (by omega) rfl
  have e2:=body 2 [61,61] (by omega) (by omega) rfl
  show Sm d _ _ ((lpO (q2f qb qi) ((lit [60],lit [60,61],lit [61,61]),0,⟨ts,true⟩,d)).bind _) _ _
  unfold WE
  rw [zQ,e0]
  cases h0:isP [60] ts with
  |true=>exact .ok (g.is h0) (by have:=g.tail_len;omega) rfl
  |false=>
    simp only [Bool.false_eq_true,if_false,Option.bind_some]
    rw [zQ,show (0:Int)+1=1 from rfl,e1]
    cases h1:isP [60,61] ts with
    |true=>exact .ok (g.is h1) (by have:=g.tail_len;omega) rfl
    |false=>
      simp only [Bool.false_eq_true,if_false,Option.bind_some]
      rw [zQ,show (1:Int)+1=2 from rfl,e2]
      cases h2:isP [61,61] ts with
      |true=>exact .ok (g.is h2) (by have:=g.tail_len;omega) rfl
      |false=>
        simp only [Bool.false_eq_true,if_false,Option.bind_some]
        rw [zQ,show (2:Int)+1=3 from rfl]
        have e3:q2f qb qi ((lit [60],lit [60,61],lit [61,61]),3,⟨ts,true⟩,d)=some (.done (.inr (⟨ts,true⟩,d))):=rfl
        rw [e3]
        simp only [Option.bind_some,Sum.elim_inr,Wj g]
        exact ⟨_,rfl⟩
theorem WF {acc:List Nd}{a:Nd}(h:acc.length≤30000) (b:Bool):ZM 64 (⟨acc,b⟩:Sl Nd) [a]=some ⟨acc++[a],true⟩:=by
 rw [XF (by simp;omega) (by simp;omega)]
 simp
abbrev ziP:=Step (PSt×Sl Nd) (((Int×Int)×PSt)⊕(PSt×Sl Nd))
def zbj (d:Int) (one:List Tk→PR Nd) (f:PSt×Sl Nd→Option ziP):Prop:=∀ (ts:List Tk) (acc:List Nd),TGood ts→acc.length≤30000→
 (isP [44] ts=false→f ((⟨ts,true⟩,d),⟨acc,true⟩)=some (.done (.inr ((⟨ts,true⟩,d),⟨acc,true⟩))))∧
 (isP [44] ts=true→match one ts.tail with
  | .error e=>∃ st,f ((⟨ts,true⟩,d),⟨acc,true⟩)=some (.done (.inl (e,st)))
  | .ok (a,t1)=>TGood t1∧t1.length+1≤ts.length∧f ((⟨ts,true⟩,d),⟨acc,true⟩)=some (.next ((⟨t1,true⟩,d),⟨acc++[a],true⟩)))
theorem zaI {one:List Tk→PR Nd}{f:PSt×Sl Nd→Option ziP}(hf:zbj d one f):∀ (k:Nat) (ts:List Tk) (acc:List Nd),TGood ts→ts.length≤k→acc.length+ts.length≤30000→
    Sm d ts.length (yk one k acc ts) (lpO f ((⟨ts,true⟩,d),⟨acc,true⟩)) Sum.inl (fun l st=>Sum.inr (st,⟨l,true⟩))∧∀ l t1,yk one k acc ts = .ok (l,t1)→l.length+t1.length≤acc.length+ts.length
  |0,ts,acc,g,hk,ha=>absurd (List.eq_nil_of_length_eq_zero (by omega)) g.ne
  |k+1,ts,acc,g,hk,ha=>by
    obtain ⟨h0,h1⟩:=hf ts acc g (by omega)
    rw [zQ]
    show Sm d _ (if isP [44] ts=true then _ else _) _ _ _∧∀ l t1,(if isP [44] ts=true then _ else _)=_→_
    cases h:isP [44] ts with
    |false=>
      rw [h0 h]
      simp only [Bool.false_eq_true,if_false,Option.bind_some]
      exact ⟨.ok g (Nat.le_refl _) rfl,fun l t1 e=>by cases e;exact Nat.le_refl _⟩
    |true=>
      have h1:=h1 h
      simp only [if_true]
      cases e:one ts.tail with
      |error er=>
        rw [e] at h1
        obtain ⟨st,h1⟩:=h1
        rw [h1]
        exact ⟨⟨st,rfl⟩,fun l t1 e=>by cases e⟩
      |ok p=>
        obtain ⟨a,t1⟩:=p
        rw [e] at h1
        obtain ⟨g1,l1,h1⟩:=h1
        rw [h1]
        have ih:=zaI hf k t1 (acc++[a]) g1 (by omega) (by simp;omega)
        exact ⟨ih.1.mono (by omega),fun l t2 e2=>by have:=ih.2 l t2 e2;simp at this;omega⟩
theorem zdC:zbj d Z2 (q3q qm qb):=by
 intro ts acc g ha
 unfold q3q
 simp only [zZ g,Option.bind_some]
 refine ⟨fun h=>by rw [h];rfl,fun h=>?_⟩
 rw [h]
 simp only [if_true]
 have s:=xN (d:=d) (g.is h)
 cases e:Z2 ts.tail with
 |error er=>obtain ⟨st,s⟩:=s.err e;exact ⟨st,by rw [s];rfl⟩
 |ok p=>
  obtain ⟨a,t1⟩:=p
  obtain ⟨s,g1,l1⟩:=s.out e
  have:=g.tail_len
  refine ⟨g1,by omega,?_⟩
  have hk:=Ya e
  rw [s]
  simp only [Option.bind_some,Sum.elim_inr,ndT]
  rw [WF ha,show q9.mk a.Kind_ a.Text_ a.Num_ a.At_ (Sl.mk [] false)=a by cases a;simp at hk;rw [hk]]
  rfl
end Go.Px
namespace Go.Px
set_option linter.unusedVariables false
set_option linter.unusedSimpArgs false
variable {d:Int}{n:Nat}{ts:List Tk}
theorem yG {a:Nd}(h:a.Kids_=zq):q9.mk a.Kind_ a.Text_ a.Num_ a.At_ (Sl.mk [] false)=a:=by
 cases a;simp only at h;rw [h]
theorem zW (a:Nd):q9.mk a.Kind_ a.Text_ a.Num_ a.At_ a.Kids_=a:=by cases a;rfl
theorem Vy {one:List Tk→PR Nd}{f:PSt×Sl Nd→Option ziP}(hf:zbj d one f) {β:Type}{m:Option β}{er:(Int×Int)×PSt→β}{ok:Nd→PSt→β}{K:β→Option (((Int×Int)×PSt)⊕(PSt×Sl Nd))}(g:TGood ts) (h:Sm d (ts.length - 1) (one ts) m er ok)
    (he:∀ e,K (er e)=some (Sum.inl e)) (hk:∀ a t1,one ts = .ok (a,t1)→K (ok a (⟨t1,true⟩,d))=(lpO f ((⟨t1,true⟩,d),⟨[a],true⟩)).bind fun y9=>Sum.elim (fun y10=>some (Sum.inl y10)) (fun y11=>some (Sum.inr y11)) y9) :
    Sm d (ts.length - 1) (yp one ts) (m.bind K) Sum.inl (fun l st=>Sum.inr (st,⟨l,true⟩))∧∀ l t1,yp one ts = .ok (l,t1)→l.length+t1.length≤ts.length:=by
  have hlen:=g.len
  have h0:=g.tail_len
  constructor
  · refine h.bd he fun a t1 e g1 l1=>?_
    rw [hk a t1 e]
    have:=(zaI hf ts.length t1 [a] g1 (by omega) (by simp;omega)).1
    refine Sm.mono ?_ l1
    exact Sm.map this (fun e=>rfl) fun l t2 _ _=>rfl
  · intro l t2 e
    obtain ⟨a,t1,e1,e2⟩:=zb e
    obtain ⟨_,g1,l1⟩:=h.out e1
    have:=(zaI hf ts.length t1 [a] g1 (by omega) (by simp;omega)).2 l t2 e2
    simp at this;omega
theorem zfF (g:TGood ts):Sm d (ts.length - 1) (yp Z2 ts) (q3x (⟨ts,true⟩,d)) Sum.inl (fun l st=>Sum.inr (st,⟨l,true⟩))∧∀ l t1,yp Z2 ts = .ok (l,t1)→l.length+t1.length≤ts.length:=by
 refine Vy zdC g (xN g) (fun e=>rfl) fun a t1 e=>?_
 show (lpO _ (((⟨t1,true⟩:Sl Tk),d),Sl.mk [q9.mk a.Kind_ a.Text_ a.Num_ a.At_ (Sl.mk [] false)] true)).bind _=_
 rw [yG (Ya e)]
theorem zdD (g:TGood ts):Sm d (ts.length - 1) (wy ts) (q1t (⟨ts,true⟩,d)) Sum.inl (fun l st=>Sum.inr (st,l)):=by
 show Sm d _ _ ((qd (lit [40],⟨ts,true⟩,d)).bind _) _ _
 refine (ZB g [40]).bd (fun e=>rfl) fun _ t1 _ g1 l1=>?_
 refine vK g1 (fun h g2 l=>?_) fun h=>?_
 ·exact .ok g2 (by omega) rfl
 ·refine (zfF g1).1.bd (fun e=>rfl) fun l t2 _ g2 l2=>?_
  refine (ZB g2 [41]).bd (fun e=>rfl) fun _ t3 _ g3 l3 =>.ok g3 (by omega) rfl
def ndK (n:Nd) (st:PSt):(Int×ByteArray×Int×Int)×PSt×Sl Nd:=(ndT n,st,n.Kids_)
theorem znh (g:TGood ts):Sm d (ts.length - 1) (Xn ts) (q54 (⟨ts,true⟩,d)) Sum.inr (fun n st=>Sum.inl (ndK n st)):=by
  show Sm d _ _ ((qc (⟨ts,true⟩,d)).bind _) _ _
  rw [ZL g,Option.bind_some,ZL g,Option.bind_some,zZ g,Option.bind_some]
  have ht:=g.tail_len
  unfold Xn
  have nm:∀ {K:((Int×Int)×PSt⊕(Int×ByteArray×Int×Int)×PSt)→Option ((Int×ByteArray×Int×Int)×PSt×Sl Nd⊕(Int×Int)×PSt)},TGood ts.tail→
      (∀ e,K (Sum.inl e)=some (Sum.inr e))→(∀ k t1,Zn ts.tail = .ok (k,t1)→K (Sum.inr (ndT k,⟨t1,true⟩,d))=some (Sum.inl (ndK ⟨2,(hd ts).Text_,0,(hd ts).At_,⟨[k],true⟩⟩ (⟨t1,true⟩,d))))→
      Sm d (ts.length - 1) ((Zn ts.tail).bd fun k t1 =>.ok (⟨2,(hd ts).Text_,0,(hd ts).At_,⟨[k],true⟩⟩,t1)) ((qe (⟨ts.tail,true⟩,d)).bind K) Sum.inr (fun n st=>Sum.inl (ndK n st)):=
    fun {K} g1 h1 h2=>(ZX g1).bd h1 fun k t1 e g2 l2 =>.ok g2 (by omega) (h2 k t1 e)
  have kk:∀ k t1,Zn ts.tail = .ok (k,t1)→q9.mk (ndT k).1 (ndT k).2.1 (ndT k).2.2.1 (ndT k).2.2.2 (Sl.mk [] false)=k:=fun k t1 e=>yG (yC e)
  cases h1:isP [111,119,110] ts with
  |true=>exact .ok (g.is h1) (by omega) rfl
  |false=>
    simp only [Bool.false_eq_true,if_false,zZ g,Option.bind_some]
    cases h2:isP [99,101,108,108] ts with
    |true=>exact .ok (g.is h2) (by omega) rfl
    |false=>
      simp only [Bool.false_eq_true,if_false,zZ g,Option.bind_some]
      cases h3:isP [99,111,117,110,116,101,100] ts with
      |true=>
        simp only [if_true,Option.bind_some,Option.bind_assoc]
        exact nm (g.is h3) (fun e=>rfl) fun k t1 e=>by
          simp only [Sum.elim_inr,Option.bind_some,kk k t1 e];rfl
      |false=>
        simp only [Bool.false_eq_true,if_false,zZ g,Option.bind_some]
        cases h4:isP [108,111,99,107] ts with
        |true=>
          simp only [if_true,Option.bind_some,Option.bind_assoc]
          exact nm (g.is h4) (fun e=>rfl) fun k t1 e=>by
            simp only [Sum.elim_inr,Option.bind_some,kk k t1 e];rfl
        |false=>
          simp only [Bool.false_eq_true,if_false,zZ g,Option.bind_some]
          cases h5:isP [103,117,97,114,100] ts with
          |true=>
            simp only [if_true,Option.bind_some,Option.bind_assoc]
            exact nm (g.is h5) (fun e=>rfl) fun k t1 e=>by
              simp only [Sum.elim_inr,Option.bind_some,kk k t1 e];rfl
          |false=>
            simp only [Bool.false_eq_true,if_false,Option.bind_some,Wj g]
            exact ⟨_,rfl⟩
theorem zfG (g:TGood ts):Sm d (ts.length - 1) (Yj ts) (q3f (⟨ts,true⟩,d)) Sum.inl (fun n st=>Sum.inr (ndK n st)):=by
 show Sm d _ _ ((qe (⟨ts,true⟩,d)).bind _) _ _
 refine (ZX g).bd (fun e=>rfl) fun n t1 _ g1 l1=>?_
 refine vK g1 (fun h g2 l=>?_) fun h=>?_
 ·simp only [if_true,Option.bind_assoc]
  refine (ZX g2).bd (fun e=>rfl) fun k t2 e g3 l3=>?_
  show Sm d _ _ (((qd (lit [93],⟨t2,true⟩,d)).bind _).bind _) _ _
  rw [Option.bind_assoc]
  refine (ZB g3 [93]).bd (fun e=>rfl) fun _ t4 _ g4 l4 =>.ok g4 (by omega) ?_
  have:=yG (yC e)
  simp only [Sum.elim_inr,Option.bind_some,ndT,this];rfl
 ·exact .ok g1 (by omega) rfl
theorem zdE (g:TGood ts):Sm d (ts.length - 1) (YA ts) (q1c (⟨ts,true⟩,d)) Sum.inl (fun n st=>Sum.inr (ndK n st)):=by
 show Sm d _ _ ((qm (⟨ts,true⟩,d)).bind _) _ _
 refine (xN g).bd (fun e=>rfl) fun a t1 ea g1 l1=>?_
 refine (zoE g1).bd (fun e=>rfl) fun op t2 _ g2 l2=>?_
 refine (xN g2).bd (fun e=>rfl) fun b t3 eb g3 l3 =>.ok g3 (by omega) ?_
 have h1:=yG (Ya ea)
 have h2:=yG (Ya eb)
 simp only [Sum.elim_inr,ndT,h1,h2];rfl
theorem zcS:zbj d Yj (q38 q3f qb):=by
 intro ts acc g ha
 unfold q38
 simp only [zZ g,Option.bind_some]
 refine ⟨fun h=>by rw [h];rfl,fun h=>?_⟩
 rw [h]
 simp only [if_true]
 have s:=zfG (d:=d) (g.is h)
 cases e:Yj ts.tail with
 |error er=>obtain ⟨st,s⟩:=s.err e;exact ⟨st,by rw [s];rfl⟩
 |ok p=>
  obtain ⟨a,t1⟩:=p
  obtain ⟨s,g1,l1⟩:=s.out e
  have:=g.tail_len
  refine ⟨g1,by omega,?_⟩
  rw [s]
  simp only [Option.bind_some,Sum.elim_inr,ndK,ndT,zW,WF ha]
theorem zdF:zbj d YA (q3r q1c qb):=by
 intro ts acc g ha
 unfold q3r
 simp only [zZ g,Option.bind_some]
 refine ⟨fun h=>by rw [h];rfl,fun h=>?_⟩
 rw [h]
 simp only [if_true]
 have s:=zdE (d:=d) (g.is h)
 cases e:YA ts.tail with
 |error er=>obtain ⟨st,s⟩:=s.err e;exact ⟨st,by rw [s];rfl⟩
 |ok p=>
  obtain ⟨a,t1⟩:=p
  obtain ⟨s,g1,l1⟩:=s.out e
  have:=g.tail_len
  refine ⟨g1,by omega,?_⟩
  rw [s]
  simp only [Option.bind_some,Sum.elim_inr,ndK,ndT,zW,WF ha]
theorem VW (g:TGood ts):Sm d (ts.length - 1) (yp Yj ts) (q3s (⟨ts,true⟩,d)) Sum.inl (fun l st=>Sum.inr (st,⟨l,true⟩))∧∀ l t1,yp Yj ts = .ok (l,t1)→l.length+t1.length≤ts.length:=by
 refine Vy zcS g (zfG g) (fun e=>rfl) fun a t1 e=>?_
 show (lpO _ (((⟨t1,true⟩:Sl Tk),d),Sl.mk [q9.mk a.Kind_ a.Text_ a.Num_ a.At_ a.Kids_] true)).bind _=_
 rw [zW]
theorem zfH (g:TGood ts):Sm d (ts.length - 1) (yp YA ts) (q3y (⟨ts,true⟩,d)) Sum.inl (fun l st=>Sum.inr (st,⟨l,true⟩))∧∀ l t1,yp YA ts = .ok (l,t1)→l.length+t1.length≤ts.length:=by
 refine Vy zdF g (zdE g) (fun e=>rfl) fun a t1 e=>?_
 show (lpO _ (((⟨t1,true⟩:Sl Tk),d),Sl.mk [q9.mk a.Kind_ a.Text_ a.Num_ a.At_ a.Kids_] true)).bind _=_
 rw [zW]
theorem zhg {xs l:List Nd}(h:xs.length+l.length≤60000):ZM 64 (⟨xs,true⟩:Sl Nd) l=some ⟨xs++l,true⟩:=by
 rw [XF (by simp;omega) (by simp;omega)]
 simp
theorem zoF (g:TGood ts) (at_:Int):Sm d (ts.length - 1) (Vx at_ ts) (q4d (at_,⟨ts,true⟩,d)) Sum.inl (fun n st=>Sum.inr (ndK n st)):=by
 have hlen:=g.len
 show Sm d _ _ ((qe (⟨ts,true⟩,d)).bind _) _ _
 refine (ZX g).bd (fun e=>rfl) fun n t1 _ g1 l1=>?_
 refine (znh g1).bd (fun e=>rfl) fun s t2 _ g2 l2=>?_
 show Sm d _ _ ((qb (lit [123],⟨t2,true⟩,d)).bind _) _ _
 rw [zZ g2,Option.bind_some]
 have hs:q9.mk (ndK s (⟨t2,true⟩,d)).1.1 (ndK s (⟨t2,true⟩,d)).1.2.1 (ndK s (⟨t2,true⟩,d)).1.2.2.1 (ndK s (⟨t2,true⟩,d)).1.2.2.2 (ndK s (⟨t2,true⟩,d)).2.2=s:=zW s
 simp only [hs]
 have hlen2:=g2.len
 refine Sm.bd (er:=Sum.inl) (ok:=fun (l:List Nd) (st:PSt)=>Sum.inr (st,(0,lit [],0,0),(1,n.Text_,n.Num_,at_),(⟨l,true⟩:Sl Nd))) (n:=t2.length) ?_ (fun e=>rfl) fun ks t5 e5 g5 l5=>?_
 ·cases h:isP [123] t2 with
  |false=>exact .ok g2 (Nat.le_refl _) rfl
  |true=>
   simp only [if_true]
   have g3:=g2.is h
   have hl3:=g2.tail_len
   obtain ⟨k1,k2⟩:=VW (d:=d) g3
   refine k1.bd (fun e=>rfl) fun l t3 e g4 l4=>?_
   have:=k2 l t3 e
   simp only [Sum.elim_inr]
   rw [zhg (by simp;omega),Option.bind_some]
   exact (ZB g4 [125]).bd (fun e=>rfl) fun _ t4 _ g5 l5 =>.ok g5 (by omega) rfl
 have hks:ks.length≤20001:=by
  split at e5
  ·rename_i h
   have hl3:=g2.tail_len
   obtain ⟨l,t3,e1,e2⟩:=zb e5
   obtain ⟨_,t4,_,e3⟩:=zb e2
   cases e3
   have:=(VW (d:=d) (g2.is h)).2 l t3 e1
   simp;omega
  ·cases e5;simp
 show Sm d _ _ ((qb (lit [119,104,101,114,101],⟨t5,true⟩,d)).bind _) _ _
 rw [zZ g5,Option.bind_some]
 have hlen5:=g5.len
 refine Sm.bd (er:=Sum.inl) (ok:=fun (l:List Nd) (st:PSt)=>Sum.inr (st,(0,lit [],0,0),(1,n.Text_,n.Num_,at_),(⟨l,true⟩:Sl Nd))) (n:=t5.length) ?_ (fun e=>rfl) fun ks2 t7 e7 g7 l7=>?_
 ·cases h:isP [119,104,101,114,101] t5 with
  |false=>exact .ok g5 (Nat.le_refl _) rfl
  |true=>
   simp only [if_true]
   have g3:=g5.is h
   have hl3:=g5.tail_len
   obtain ⟨k1,k2⟩:=zfH (d:=d) g3
   refine k1.bd (fun e=>rfl) fun l t3 e g4 l4=>?_
   have:=k2 l t3 e
   simp only [Sum.elim_inr]
   rw [zhg (by omega),Option.bind_some]
   exact .ok g4 (by omega) rfl
 exact (ZB g7 [59]).bd (fun e=>rfl) fun _ t8 _ g8 l8 =>.ok g8 (by omega) rfl
end Go.Px
namespace Go.Px
set_option linter.unusedVariables false
set_option linter.unusedSimpArgs false
variable {d:Int}{n:Nat}{ts:List Tk}
theorem zhh (g:TGood ts):Sm d (ts.length - 1) (YB ts) (q3z (⟨ts,true⟩,d)) Sum.inr (fun n st=>Sum.inl (n,st)):=by
 show Sm d _ _ ((qc (⟨ts,true⟩,d)).bind _) _ _
 rw [ZL g,Option.bind_some,ZL g,Option.bind_some,zZ g,Option.bind_some]
 have ht:=g.tail_len
 unfold YB
 cases h1:isP [105,110,116] ts with
 |true=>exact .ok (g.is h1) (by omega) rfl
 |false=>
  simp only [Bool.false_eq_true,if_false,zZ g,Option.bind_some]
  cases h2:isP [111,119,110] ts with
  |true=>
   simp only [if_true,Option.bind_some,Sum.elim_inl]
   refine (ZX (g.is h2)).bd (fun e=>rfl) fun k t1 e g1 l1 =>.ok g1 (by omega) ?_
   have:=yG (yC e)
   simp only [Sum.elim_inr,ndT,this]
  |false=>
   simp only [Bool.false_eq_true,if_false,Option.bind_assoc]
   refine (ZB g [38]).bd (fun e=>rfl) fun _ t1 _ g1 l1=>?_
   simp only [Sum.elim_inr,zZ g1,Option.bind_some,Option.bind_assoc]
   cases h3:isP [109,117,116] t1 with
   |true=>
    simp only [if_true,Option.bind_some,Sum.elim_inl]
    have:=g1.tail_len
    refine (ZX (g1.is h3)).bd (fun e=>rfl) fun k t2 e g2 l2 =>.ok g2 (by omega) ?_
    have:=yG (yC e)
    simp only [Sum.elim_inr,ndT,this]
   |false=>
    simp only [Bool.false_eq_true,if_false,Option.bind_some,Sum.elim_inl]
    refine (ZX g1).bd (fun e=>rfl) fun k t2 e g2 l2 =>.ok g2 (by omega) ?_
    have:=yG (yC e)
    simp only [Sum.elim_inr,ndT,this]
theorem zfI (g:TGood ts):Sm d (ts.length - 1) (YC ts) (q3g (⟨ts,true⟩,d)) Sum.inl (fun n st=>Sum.inr (ndK n st)):=by
 show Sm d _ _ ((qe (⟨ts,true⟩,d)).bind _) _ _
 refine (ZX g).bd (fun e=>rfl) fun n t1 _ g1 l1=>?_
 refine (ZB g1 [58]).bd (fun e=>rfl) fun _ t2 _ g2 l2=>?_
 exact (zhh g2).bd (fun e=>rfl) fun m t3 _ g3 l3 =>.ok g3 (by omega) (by simp only [Sum.elim_inl,zW];rfl)
theorem zcT:zbj d YC (q39 q3g qb):=by
 intro ts acc g ha
 unfold q39
 simp only [zZ g,Option.bind_some]
 refine ⟨fun h=>by rw [h];rfl,fun h=>?_⟩
 rw [h]
 simp only [if_true]
 have s:=zfI (d:=d) (g.is h)
 cases e:YC ts.tail with
 |error er=>obtain ⟨st,s⟩:=s.err e;exact ⟨st,by rw [s];rfl⟩
 |ok p=>
  obtain ⟨a,t1⟩:=p
  obtain ⟨s,g1,l1⟩:=s.out e
  have:=g.tail_len
  refine ⟨g1,by omega,?_⟩
  rw [s]
  simp only [Option.bind_some,Sum.elim_inr,ndK,ndT,zW,WF ha]
theorem VX (g:TGood ts):Sm d (ts.length - 1) (yp YC ts) (q3t (⟨ts,true⟩,d)) Sum.inl (fun l st=>Sum.inr (st,⟨l,true⟩))∧∀ l t1,yp YC ts = .ok (l,t1)→l.length+t1.length≤ts.length:=by
 refine Vy zcT g (zfI g) (fun e=>rfl) fun a t1 e=>?_
 show (lpO _ (((⟨t1,true⟩:Sl Tk),d),Sl.mk [q9.mk a.Kind_ a.Text_ a.Num_ a.At_ a.Kids_] true)).bind _=_
 rw [zW]
theorem zmB (g:TGood ts) (k:Int):Sm d (ts.length - 1) (atP k ts) (q4g (k,⟨ts,true⟩,d)) Sum.inl (fun n st=>Sum.inr (ndT n,st)):=by
 show Sm d _ _ ((qe (⟨ts,true⟩,d)).bind _) _ _
 refine (ZX g).bd (fun e=>rfl) fun n t1 _ g1 l1=>?_
 refine (ZB g1 [91]).bd (fun e=>rfl) fun _ t2 _ g2 l2=>?_
 refine (xM g2 1 (.inl rfl)).bd (fun e=>rfl) fun v t3 _ g3 l3=>?_
 exact (ZB g3 [93]).bd (fun e=>rfl) fun _ t4 _ g4 l4 =>.ok g4 (by omega) rfl
theorem zcU (g:TGood ts) (n:Nd):Sm d (ts.length - 1) (Xs n ts) (q3h (ndT n,⟨ts,true⟩,d)) Sum.inl (fun n st=>Sum.inr (ndT n,st)):=by
 show Sm d _ _ ((qd (lit [59],⟨ts,true⟩,d)).bind _) _ _
 exact (ZB g [59]).bd (fun e=>rfl) fun _ t1 _ g1 l1 =>.ok g1 (by omega) rfl
theorem zbk (g:TGood ts) (n:Nd):Sm d (ts.length - 1) (Xs n ts) (q1y (n,⟨ts,true⟩,d)) Sum.inl (fun n st=>Sum.inr (n,st)):=by
 show Sm d _ _ ((qd (lit [59],⟨ts,true⟩,d)).bind _) _ _
 exact (ZB g [59]).bd (fun e=>rfl) fun _ t1 _ g1 l1 =>.ok g1 (by omega) (by simp only [Sum.elim_inr,zW])
theorem TGood.idx1 {ts:List Tk}(g:TGood ts.tail):zt (⟨ts,true⟩:Sl Tk) 1=some (hd ts.tail):=by
 match ts,g with
 |[],g=>exact absurd rfl g.ne
 |[t],g=>exact absurd rfl g.ne
 |t::u::r,_=>rfl
theorem zdG {ts:List Tk}(h:isP [43] ts=true):isP [45] ts=false:=by
 unfold isP at h ⊢
 simp only [Bool.and_eq_true,decide_eq_true_eq] at h
 have:¬ (hd ts).Text_=lit [45]:=by
  rw [h.2];intro e
  have:=congrArg bs e
  simp [yd] at this
 simp [this]
theorem zni (g:TGood ts):Sm d (ts.length - 1) (yZ ts) (q55 (⟨ts,true⟩,d)) Sum.inl (fun n st=>Sum.inr (n,st)):=by
 show Sm d _ _ ((qc (⟨ts,true⟩,d)).bind _) _ _
 rw [ZL g,Option.bind_some,zZ g,Option.bind_some]
 have ht:=g.tail_len
 unfold yZ
 cases h1:isP [110,101,119] ts with
 |true=>
  simp only [if_true,Option.bind_assoc]
  exact (xM (g.is h1) 1 (.inl rfl)).bd (fun e=>rfl) fun v t1 _ g1 l1 =>.ok g1 (by omega) rfl
 |false=>
 simp only [Bool.false_eq_true,if_false,zZ g,Option.bind_some]
 cases h2:isP [97,114,114,97,121] ts with
 |true=>
  simp only [if_true,Option.bind_assoc]
  exact (ZX (g.is h2)).bd (fun e=>rfl) fun v t1 _ g1 l1 =>.ok g1 (by omega) rfl
 |false=>
 simp only [Bool.false_eq_true,if_false,zZ g,Option.bind_some]
 cases h3:isP [38] ts with
 |true=>
  have g1:=g.is h3
  simp only [if_true,zZ g1,Option.bind_some]
  cases h4:isP [109,117,116] ts.tail with
  |true=>
   have:=g1.tail_len
   simp only [if_true,Option.bind_some,Option.bind_assoc]
   exact (ZX (g1.is h4)).bd (fun e=>rfl) fun v t1 _ g2 l2 =>.ok g2 (by omega) rfl
  |false=>
   simp only [Bool.false_eq_true,if_false,Option.bind_some,Option.bind_assoc]
   exact (ZX g1).bd (fun e=>rfl) fun v t1 _ g2 l2 =>.ok g2 (by omega) rfl
 |false=>
 simp only [Bool.false_eq_true,if_false,ZL g,Option.bind_some,decide_eq_true_eq]
 by_cases hk:(hd ts).Kind_=1
 case neg=>
  simp only [ne_eq,hk,not_false_eq_true,if_true,Option.bind_assoc]
  refine Sm.map (xN g) (fun e=>rfl) fun v t1 e g2=>?_
  have:=yG (Ya e)
  simp only [Sum.elim_inr,Sum.elim_inl,Option.bind_some,ndT,this]
 case pos=>
 simp only [ne_eq,hk,not_true_eq_false,if_false,Option.bind_some,Sum.elim_inr]
 refine (ZX g).bd (fun e=>rfl) fun n t1 en g1 l1=>?_
 have hn:=yG (yC en)
 have ht1:=g1.tail_len
 simp only [Sum.elim_inr,YL g1,Option.bind_some]
 cases h4:isP [40] t1 with
 |true=>
  simp only [if_true,Option.bind_assoc]
  exact (zdD g1).bd (fun e=>rfl) fun v t2 _ g2 l2 =>.ok g2 (by omega) rfl
 |false=>
 simp only [Bool.false_eq_true,if_false,zZ g1,Option.bind_some]
 cases h5:isP [91] t1 with
 |true=>
  simp only [if_true,Option.bind_assoc]
  refine (xN (g1.is h5)).bd (fun e=>rfl) fun a t2 ea g2 l2=>?_
  have ha:=yG (Ya ea)
  show Sm d _ _ (((qd (lit [93],⟨t2,true⟩,d)).bind _).bind _) _ _
  rw [Option.bind_assoc]
  exact (ZB g2 [93]).bd (fun e=>rfl) fun _ t3 _ g3 l3 =>.ok g3 (by omega) (by simp only [Sum.elim_inr,Sum.elim_inl,Option.bind_some,ndT,ha])
 |false=>
 simp only [Bool.false_eq_true,if_false,Option.bind_some,Sum.elim_inr,YL g1]
 by_cases hp:isP [43] t1=true∧(hd t1.tail).Kind_=1
 ·obtain ⟨hp1,hp2⟩:=hp
  have hm:=zdG hp1
  have gt:=g1.is hp1
  have mo:=(ZB (d:=d) g1 [43]).out (show Zc [43] t1 = .ok ((),t1.tail) by unfold Zc;rw [if_pos hp1])
  rw [if_pos ⟨hp1,hp2⟩]
  simp only [hp1,hm,if_true,Bool.false_eq_true,if_false,Option.bind_some,gt.idx1,hp2,decide_true,mo.1,Sum.elim_inr]
  have nm:=ZX (d:=d) gt
  cases e:Zn t1.tail with
  |error er=>
   obtain ⟨st,h⟩:=nm.err e
   simp only [h,YL g1,hp1,hm,if_true,Bool.false_eq_true,if_false,gt.idx1,hp2,decide_true,mo.1,Option.bind_some,Sum.elim_inr,Sum.elim_inl,Zb]
   exact ⟨st,rfl⟩
  |ok q=>
   obtain ⟨k,t2⟩:=q
   obtain ⟨h,g2,l2⟩:=nm.out e
   have hk2:=yG (yC e)
   simp only [h,YL g1,hp1,hm,if_true,Bool.false_eq_true,if_false,gt.idx1,hp2,decide_true,mo.1,Option.bind_some,Sum.elim_inr,Sum.elim_inl,Zb]
   simp only [ndT,hk2,hn]
   exact .ok g2 (by omega) rfl
 ·rw [if_neg hp]
  by_cases hq:isP [45] t1=true∧(hd t1.tail).Kind_=1
  ·obtain ⟨hp1,hp2⟩:=hq
   have hm:isP [43] t1=false:=by
    cases h:isP [43] t1 with
    |false=>rfl
    |true=>have:=zdG h;rw [hp1] at this;cases this
   have gt:=g1.is hp1
   have mo:=(ZB (d:=d) g1 [45]).out (show Zc [45] t1 = .ok ((),t1.tail) by unfold Zc;rw [if_pos hp1])
   rw [if_pos ⟨hp1,hp2⟩]
   simp only [hp1,hm,if_true,Bool.false_eq_true,if_false,Option.bind_some,gt.idx1,hp2,decide_true,mo.1,Sum.elim_inr]
   have nm:=ZX (d:=d) gt
   cases e:Zn t1.tail with
   |error er=>
    obtain ⟨st,h⟩:=nm.err e
    simp only [h,YL g1,hp1,hm,if_true,Bool.false_eq_true,if_false,gt.idx1,hp2,decide_true,mo.1,Option.bind_some,Sum.elim_inr,Sum.elim_inl,Zb]
    exact ⟨st,rfl⟩
   |ok q=>
    obtain ⟨k,t2⟩:=q
    obtain ⟨h,g2,l2⟩:=nm.out e
    have hk2:=yG (yC e)
    simp only [h,YL g1,hp1,hm,if_true,Bool.false_eq_true,if_false,gt.idx1,hp2,decide_true,mo.1,Option.bind_some,Sum.elim_inr,Sum.elim_inl,Zb]
    simp only [ndT,hk2,hn]
    exact .ok g2 (by omega) rfl
  ·rw [if_neg hq]
   have fin:Sm d (ts.length - 1) (Y4 n t1) ((q1s (ndT n,⟨t1,true⟩,d)).bind fun y=>Sum.elim (fun e=>some (Sum.inl e)) (fun z=>some (Sum.inr (q9.mk z.1.1 z.1.2.1 z.1.2.2.1 z.1.2.2.2 (Sl.mk [] false),z.2))) y) Sum.inl (fun n st=>Sum.inr (n,st)):=by
    refine Sm.mono ?_ l1
    refine Sm.map (zhf g1) (fun e=>rfl) fun a t2 e _=>?_
    have:=yG (zcR (yC en) e)
    simp only [Sum.elim_inr,ndT,this]
   cases hp1:isP [43] t1 with
   |true=>
    have gt:=g1.is hp1
    have hm:=zdG hp1
    have hk1:¬ (hd t1.tail).Kind_=1:=fun e=>hp ⟨hp1,e⟩
    simp only [YL g1,hp1,hm,if_true,Bool.false_eq_true,if_false,Option.bind_some,gt.idx1,hk1,decide_false,Sum.elim_inr,Zb]
    exact fin
   |false=>
    cases hq1:isP [45] t1 with
    |true=>
     have gt:=g1.is hq1
     have hk1:¬ (hd t1.tail).Kind_=1:=fun e=>hq ⟨hq1,e⟩
     simp only [YL g1,hp1,hq1,if_true,Bool.false_eq_true,if_false,Option.bind_some,gt.idx1,hk1,decide_false,Sum.elim_inr,Zb]
     exact fin
    |false=>
     simp only [YL g1,hp1,hq1,Bool.false_eq_true,if_false,Option.bind_some,Sum.elim_inr,Zb]
     exact fin
end Go.Px
namespace Go.Px
set_option linter.unusedVariables false
set_option linter.unusedSimpArgs false
variable {d:Int}{n:Nat}{ts:List Tk}
theorem zlz (g:TGood ts) (n:Nd):Sm d (ts.length - 1) (xc n ts) (q3i (ndT n,⟨ts,true⟩,d)) Sum.inl (fun n st=>Sum.inr (ndK n st)):=by
 show Sm d _ _ ((qk (lit [40],⟨ts,true⟩,d)).bind _) _ _
 rw [YL g,Option.bind_some]
 have ht:=g.tail_len
 unfold xc
 cases h1:isP [40] ts with
 |true=>
  simp only [if_true,Option.bind_assoc]
  exact (zdD g).bd (fun e=>rfl) fun v t1 _ g1 l1 =>.ok g1 (by omega) rfl
 |false=>
 simp only [Bool.false_eq_true,if_false,zZ g,Option.bind_some]
 cases h2:isP [91] ts with
 |true=>
  simp only [if_true,Option.bind_assoc]
  refine (xN (g.is h2)).bd (fun e=>rfl) fun a t1 ea g1 l1=>?_
  have ha:=yG (Ya ea)
  show Sm d _ _ (((qd (lit [93],⟨t1,true⟩,d)).bind _).bind _) _ _
  rw [Option.bind_assoc]
  refine (ZB g1 [93]).bd (fun e=>rfl) fun _ t2 _ g2 l2=>?_
  show Sm d _ _ (((qd (lit [61],⟨t2,true⟩,d)).bind _).bind _) _ _
  rw [Option.bind_assoc]
  refine (ZB g2 [61]).bd (fun e=>rfl) fun _ t3 _ g3 l3=>?_
  show Sm d _ _ (((qm (⟨t3,true⟩,d)).bind _).bind _) _ _
  rw [Option.bind_assoc]
  refine (xN g3).bd (fun e=>rfl) fun b t4 eb g4 l4 =>.ok g4 (by omega) ?_
  have hb:=yG (Ya eb)
  simp only [Sum.elim_inr,Sum.elim_inl,Option.bind_some,ndT,ha,hb];rfl
 |false=>
 simp only [Bool.false_eq_true,if_false,Option.bind_some,Sum.elim_inr]
 refine (ZB g [61]).bd (fun e=>rfl) fun _ t1 _ g1 l1=>?_
 refine (zni g1).bd (fun e=>rfl) fun a t2 _ g2 l2 =>.ok g2 (by omega) ?_
 simp only [Sum.elim_inr,zW];rfl
def zcV (d:Int) (h:PSt→Option ((Int×Int)×PSt⊕(Int×ByteArray×Int×Int)×PSt×Sl Nd)) (blk:List Tk→PR Nd):Prop:=∀ ts,TGood ts→Sm d (ts.length - 1) (blk ts) (h (⟨ts,true⟩,d)) Sum.inl (fun n st=>Sum.inr (ndK n st))
variable {h:PSt→Option ((Int×Int)×PSt⊕(Int×ByteArray×Int×Int)×PSt×Sl Nd)}{blk:List Tk→PR Nd}
theorem zcW {ts t1:List Tk}{n:Nd}(h:YA ts = .ok (n,t1)):∃ a b,n.Kids_=⟨[a,b],true⟩:=by
 obtain ⟨a,t,_,h⟩:=zb h
 obtain ⟨op,t2,_,h⟩:=zb h
 obtain ⟨b,t3,_,h⟩:=zb h
 cases h;exact ⟨a,b,rfl⟩
theorem zeo (hb:zcV d h blk) (g:TGood ts) (k a:Int):Sm d (ts.length - 1) (xL blk k a ts) (q12 h (k,a,⟨ts,true⟩,d)) Sum.inl (fun n st=>Sum.inr (ndK n st)):=by
 show Sm d _ _ ((q1c (⟨ts,true⟩,d)).bind _) _ _
 refine (zdE g).bd (fun e=>rfl) fun n t1 e1 g1 l1=>?_
 refine (hb t1 g1).bd (fun e=>rfl) fun b t2 e2 g2 l2 =>.ok g2 (by omega) ?_
 obtain ⟨x,y,hk⟩:=zcW e1
 simp only [Sum.elim_inr,ndK,ndT,hk,zW]
 rw [WF (by simp)];rfl
theorem zfJ {ts t1:List Tk}{n:Nd}{k a:Int}(h:xL blk k a ts = .ok (n,t1)):∃ a b c,n.Kids_=⟨[a,b,c],true⟩:=by
 obtain ⟨m,t,e,h⟩:=zb h
 obtain ⟨b,t2,_,h⟩:=zb h
 obtain ⟨x,y,hk⟩:=zcW e
 cases h;exact ⟨x,y,b,by simp [hk]⟩
theorem zb4 (x:(Int×ByteArray×Int×Int)×Int):q2x x=some ((x.1.1,x.1.2.1,x.1.2.2.1,x.2),x.2):=rfl
theorem zke (x:Nd×Int):q2g x=some (⟨x.1.Kind_,x.1.Text_,x.1.Num_,x.2,x.1.Kids_⟩,x.2):=rfl
set_option maxHeartbeats 1000000 in
theorem znj (hb:zcV d h blk) (g:TGood ts):Sm d (ts.length - 1) (ZQ blk ts) (q11 h (⟨ts,true⟩,d)) Sum.inl (fun n st=>Sum.inr (n,st)):=by
 show Sm d _ _ ((qc (⟨ts,true⟩,d)).bind _) _ _
 rw [ZL g,Option.bind_some,zZ g,Option.bind_some]
 have ht:=g.tail_len
 unfold ZQ
 cases h1:isP [102,114,101,101] ts with
 |true=>
  simp only [if_true,Option.bind_assoc]
  refine (ZX (g.is h1)).bd (fun e=>rfl) fun n t1 _ g1 l1=>?_
  refine Sm.mono (n:=t1.length - 1) ?_ (by omega)
  simp only [Sum.elim_inr,zb4,Option.bind_some,Option.bind_assoc,ndT]
  exact Sm.map (zcU g1 ⟨12,n.Text_,n.Num_,(hd ts).At_,zq⟩) (fun e=>rfl) fun a t2 ea g2=>by
   obtain ⟨_,t3,_,e⟩:=zb ea
   cases e;rfl
 |false=>
 simp only [Bool.false_eq_true,if_false,zZ g,Option.bind_some]
 cases h2:isP [108,111,99,107] ts with
 |true=>
  simp only [if_true,Option.bind_assoc]
  refine (zmB (g.is h2) 13).bd (fun e=>rfl) fun n t1 _ g1 l1=>?_
  refine Sm.mono (n:=t1.length - 1) ?_ (by omega)
  simp only [Sum.elim_inr,zb4,Option.bind_some,Option.bind_assoc,ndT]
  exact Sm.map (zcU g1 ⟨n.Kind_,n.Text_,n.Num_,(hd ts).At_,zq⟩) (fun e=>rfl) fun a t2 ea g2=>by
   obtain ⟨_,t3,_,e⟩:=zb ea
   cases e;rfl
 |false=>
 simp only [Bool.false_eq_true,if_false,zZ g,Option.bind_some]
 cases h3:isP [117,110,108,111,99,107] ts with
 |true=>
  simp only [if_true,Option.bind_assoc]
  refine (zmB (g.is h3) 14).bd (fun e=>rfl) fun n t1 _ g1 l1=>?_
  refine Sm.mono (n:=t1.length - 1) ?_ (by omega)
  simp only [Sum.elim_inr,zb4,Option.bind_some,Option.bind_assoc,ndT]
  exact Sm.map (zcU g1 ⟨n.Kind_,n.Text_,n.Num_,(hd ts).At_,zq⟩) (fun e=>rfl) fun a t2 ea g2=>by
   obtain ⟨_,t3,_,e⟩:=zb ea
   cases e;rfl
 |false=>
 simp only [Bool.false_eq_true,if_false,zZ g,Option.bind_some]
 cases h4:isP [105,102] ts with
 |true=>
  simp only [if_true,Option.bind_assoc]
  refine (zeo hb (g.is h4) 15 (hd ts).At_).bd (fun e=>rfl) fun n t1 en g1 l1=>?_
  obtain ⟨x,y,z,hk⟩:=zfJ en
  simp only [Sum.elim_inr,ndK,ndT,hk,zZ g1,Option.bind_some,Option.bind_assoc]
  cases h5:isP [101,108,115,101] t1 with
  |true=>
   have:=g1.tail_len
   simp only [if_true,Option.bind_assoc]
   refine (hb t1.tail (g1.is h5)).bd (fun e=>rfl) fun b t2 _ g2 l2 =>.ok g2 (by omega) ?_
   simp only [Sum.elim_inr,ndK,ndT,zW]
   rw [WF (by simp)];rfl
  |false=>
   simp only [Bool.false_eq_true,if_false]
   rw [WF (by simp)]
   exact .ok g1 (by omega) rfl
 |false=>
 simp only [Bool.false_eq_true,if_false,zZ g,Option.bind_some]
 cases h5:isP [119,104,105,108,101] ts with
 |true=>
  simp only [if_true,Option.bind_assoc]
  refine Sm.mono (n:=ts.tail.length - 1) ?_ (by omega)
  exact Sm.map (zeo hb (g.is h5) 16 (hd ts).At_) (fun e=>rfl) fun a t1 ea g1=>by
   simp only [Sum.elim_inr,Sum.elim_inl,Option.bind_some,ndK,ndT,zW]
 |false=>
 simp only [Bool.false_eq_true,if_false,zZ g,Option.bind_some]
 cases h6:isP [114,101,116,117,114,110] ts with
 |true=>
  have g1:=g.is h6
  simp only [if_true,YL g1,Option.bind_some,Option.bind_assoc]
  cases h7:isP [59] ts.tail with
  |true=>
   simp only [Bool.not_true,Bool.false_eq_true,if_false,if_true,Option.bind_some,Sum.elim_inr]
   refine Sm.mono (n:=ts.tail.length - 1) ?_ (by omega)
   show Sm d _ _ (((q1y (_,⟨ts.tail,true⟩,d)).bind _).bind _) _ _
   rw [Option.bind_assoc]
   exact Sm.map (zbk g1 ⟨17,lit [],0,(hd ts).At_,zq⟩) (fun e=>rfl) fun a t1 ea g1=>by
    simp only [Sum.elim_inr,Sum.elim_inl,Option.bind_some,zW]
  |false=>
   simp only [Bool.not_false,Bool.false_eq_true,if_false,if_true,Option.bind_assoc]
   refine (xN g1).bd (fun e=>rfl) fun a t1 ea g2 l2=>?_
   have ha:=yG (Ya ea)
   simp only [Sum.elim_inr,Option.bind_some,Option.bind_assoc,ndT,ha]
   refine Sm.mono (n:=t1.length - 1) ?_ (by omega)
   exact Sm.map (zbk g2 ⟨17,lit [],0,(hd ts).At_,⟨[a],true⟩⟩) (fun e=>rfl) fun b t2 eb g3=>by
    simp only [Sum.elim_inr,Sum.elim_inl,Option.bind_some,zW]
 |false=>
 simp only [Bool.false_eq_true,if_false,zZ g,Option.bind_some]
 cases h7:isP [97,98,111,114,116] ts with
 |true=>
  have g1:=g.is h7
  simp only [if_true,Option.bind_assoc]
  refine Sm.mono (n:=ts.tail.length - 1) ?_ (by omega)
  exact Sm.map (zcU g1 ⟨18,lit [],0,(hd ts).At_,zq⟩) (fun e=>rfl) fun a t2 ea g2=>by
   obtain ⟨_,t3,_,e⟩:=zb ea
   cases e;rfl
 |false=>
 simp only [Bool.false_eq_true,if_false,zZ g,Option.bind_some]
 cases h8:isP [102,111,114,107] ts with
 |true=>
  simp only [if_true,Option.bind_assoc]
  refine (ZX (g.is h8)).bd (fun e=>rfl) fun n t1 _ g1 l1=>?_
  simp only [Sum.elim_inr,Option.bind_assoc]
  refine (zdD g1).bd (fun e=>rfl) fun ks t2 _ g2 l2=>?_
  simp only [Sum.elim_inr,zke,Option.bind_some,Option.bind_assoc,ndT]
  refine Sm.mono (n:=t2.length - 1) ?_ (by omega)
  exact Sm.map (zbk g2 ⟨19,n.Text_,n.Num_,(hd ts).At_,ks⟩) (fun e=>rfl) fun b t2 eb g3=>by
   simp only [Sum.elim_inr,Sum.elim_inl,Option.bind_some,zW]
 |false=>
 simp only [Bool.false_eq_true,if_false,Option.bind_some,Sum.elim_inr,Option.bind_assoc]
 refine (ZX g).bd (fun e=>rfl) fun n t1 _ g1 l1=>?_
 simp only [Sum.elim_inr,Option.bind_assoc]
 refine (zlz g1 n).bd (fun e=>rfl) fun m t2 _ g2 l2=>?_
 simp only [Sum.elim_inr,Option.bind_assoc,ndK,ndT,zW]
 refine Sm.mono (n:=t2.length - 1) ?_ (by omega)
 exact Sm.map (zbk g2 m) (fun e=>rfl) fun b t2 eb g3=>by
  simp only [Sum.elim_inr,Sum.elim_inl,Option.bind_some,zW]
end Go.Px
namespace Go.Px
set_option linter.unusedVariables false
set_option linter.unusedSimpArgs false
variable {d:Int}{n:Nat}{ts:List Tk}
variable {h:PSt→Option ((Int×Int)×PSt⊕(Int×ByteArray×Int×Int)×PSt×Sl Nd)}{blk:List Tk→PR Nd}
theorem zmC {acc:List Nd}{a:Nd}(h:acc.length≤30000):ZM 64 (mkS acc) [a]=some (mkS (acc++[a])):=by
 rw [XF (by simp [mkS];omega) (by simp [mkS];omega)]
 simp [mkS]
noncomputable abbrev zdH (h:PSt→Option ((Int×Int)×PSt⊕(Int×ByteArray×Int×Int)×PSt×Sl Nd)):=q64 qc qk qi qd qb (q11 h)
theorem zcX (hb:zcV d h blk) {u v:Int×ByteArray×Int×Int}:∀ (k:Nat) (ts:List Tk) (acc:List Nd),TGood ts→ts.length≤k→acc.length+ts.length≤30000→
    Sm d (ts.length - 1) (Yk (ZQ blk) k acc ts) (lpO (zdH h) ((⟨ts,true⟩,d),u,v,mkS acc)) Sum.inl (fun l st=>Sum.inr (st,u,v,mkS l))∧∀ l t1,Yk (ZQ blk) k acc ts = .ok (l,t1)→l.length+t1.length≤acc.length+ts.length
  |0,ts,acc,g,hk,ha=>absurd (List.eq_nil_of_length_eq_zero (by omega)) g.ne
  |k+1,ts,acc,g,hk,ha=>by
    have ht:=g.tail_len
    rw [zQ]
    show Sm d _ (if isP [125] ts=true then _ else _) ((((qb (lit [125],⟨ts,true⟩,d)).bind _)).bind _) _ _∧∀ l t1,(if isP [125] ts=true then _ else _)=_→_
    rw [zZ g,Option.bind_some]
    cases e:isP [125] ts with
    |true=>
      simp only [if_true,Bool.not_true,Bool.false_eq_true,if_false]
      exact ⟨.ok (g.is e) (by omega) rfl,fun l t1 e=>by cases e;omega⟩
    |false=>
      simp only [Bool.false_eq_true,if_false,Bool.not_false,if_true]
      have s:=znj hb g
      cases es:ZQ blk ts with
      |error er=>
        obtain ⟨st,s⟩:=s.err es
        rw [s]
        exact ⟨⟨st,rfl⟩,fun l t1 e=>by cases e⟩
      |ok p=>
        obtain ⟨a,t1⟩:=p
        obtain ⟨s,g1,l1⟩:=s.out es
        rw [s]
        simp only [Option.bind_some,Sum.elim_inr,zW]
        rw [zmC (by omega)]
        simp only [Option.bind_some]
        have ih:=zcX hb (u:=u) (v:=v) k t1 (acc++[a]) g1 (by omega) (by simp;omega)
        exact ⟨ih.1.mono (by omega),fun l t2 e2=>by have:=ih.2 l t2 e2;simp at this;omega⟩
theorem zfK:∀ (r:Nat) (k:Nat) (d:Int),d=8 - (r:Int)→0≤d→r+1≤k→zcV d (qx k) (yE r)
  |r,0,d,_,_,hk=>by omega
  |0,k+1,d,hd',h0,hk=>by
    intro ts g
    show Sm d _ _ ((qc (⟨ts,true⟩,d)).bind _) _ _
    rw [ZL g,Option.bind_some,YL g,Option.bind_some]
    unfold yE
    cases e:isP [123] ts with
    |true=>
      have:decide (8≤d)=true:=decide_eq_true (by omega)
      simp only [if_true,Option.bind_some,this,Wj g]
      exact ⟨_,rfl⟩
    |false=>
      simp only [Bool.false_eq_true,if_false,Option.bind_some]
      have hm:Zc [123] ts = .error ((hd ts).At_,20):=by unfold Zc;rw [e];rfl
      obtain ⟨st,s⟩:=(ZB (d:=d) g [123]).err hm
      rw [s]
      exact ⟨st,rfl⟩
  |r+1,k+1,d,hd',h0,hk=>by
    intro ts g
    show Sm d _ _ ((qc (⟨ts,true⟩,d)).bind _) _ _
    rw [ZL g,Option.bind_some,YL g,Option.bind_some]
    unfold yE
    have h8:decide (8≤d)=false:=decide_eq_false (by omega)
    have hb:=zfK r k (d+1) (by omega) (by omega) (by omega)
    have hw:IntKind.i64.wrap (d+1)=d+1:=yL (by omega) (by omega)
    have hw2:IntKind.i64.wrap (d+1 - 1)=d:=by rw [yL (by omega) (by omega)];omega
    have hlen:=g.len
    have fin:Sm d (ts.length - 1) ((Zc [123] ts).bd fun _ t1=>(Yk (ZQ (yE r)) t1.length [] t1).bd fun l t2 =>.ok (⟨9,lit [],0,(hd ts).At_,mkS l⟩,t2))
        ((qd (lit [123],⟨ts,true⟩,d)).bind fun y4=>Sum.elim (fun y5=>some (Sum.inl y5)) (fun y6=>(lpO (zdH (qx k)) ((y6.1,IntKind.i64.wrap (y6.2+1)),(0,lit [],0,0),(9,lit [],0,(hd ts).At_),Sl.mk [] false)).bind fun y13=>
          Sum.elim (fun y14=>some (Sum.inl y14)) (fun y15=>some (Sum.inr (y15.2.2.1,(y15.1.1,IntKind.i64.wrap (y15.1.2 - 1)),y15.2.2.2))) y13) y4) Sum.inl (fun n st=>Sum.inr (ndK n st)):=by
      refine (ZB g [123]).bd (fun e=>rfl) fun _ t1 _ g1 l1=>?_
      have lp:=(zcX hb (u:=(0,lit [],0,0)) (v:=(9,lit [],0,(hd ts).At_)) t1.length t1 [] g1 (Nat.le_refl _) (by simp;omega)).1
      simp only [Sum.elim_inr,hw]
      show Sm d _ _ ((lpO (zdH (qx k)) ((⟨t1,true⟩,d+1),(0,lit [],0,0),(9,lit [],0,(hd ts).At_),mkS [])).bind _) _ _
      cases es:Yk (ZQ (yE r)) t1.length [] t1 with
      |error er=>obtain ⟨st,s⟩:=lp.err es;rw [s];exact ⟨st,rfl⟩
      |ok p=>
        obtain ⟨l,t2⟩:=p
        obtain ⟨s,g2,l2⟩:=lp.out es
        rw [s]
        simp only [Option.bind_some,Sum.elim_inr,hw2]
        exact .ok g2 (by omega) rfl
    cases e:isP [123] ts with
    |true=>
      simp only [if_true,Option.bind_some,h8,Bool.false_eq_true,if_false]
      exact fin
    |false=>
      simp only [Bool.false_eq_true,if_false,Option.bind_some]
      exact fin
theorem znk:zcV 0 q4v (yE 8):=zfK 8 100000 0 (by omega) (by omega) (by omega)
theorem zpG {xs l:List Nd}{b:Bool}(h:xs.length+l.length≤60000) (hl:l≠[]):ZM 64 (⟨xs,b⟩:Sl Nd) l=some ⟨xs++l,true⟩:=by
 rw [XF (by simp;omega) (by simp;omega)]
 cases l with
 |nil=>exact absurd rfl hl
 |cons=>simp
theorem zpH (g:TGood ts) (at_:Int):Sm 0 (ts.length - 1) (fnP at_ ts) (q4h (at_,⟨ts,true⟩,0)) Sum.inl (fun n st=>Sum.inr (ndK n st)):=by
 have hlen:=g.len
 show Sm 0 _ _ ((qe (⟨ts,true⟩,0)).bind _) _ _
 refine (ZX g).bd (fun e=>rfl) fun n t1 _ g1 l1=>?_
 refine (ZB g1 [40]).bd (fun e=>rfl) fun _ t2 _ g2 l2=>?_
 simp only [Sum.elim_inr,YL g2,Option.bind_some]
 have h2:=g2.tail_len
 refine Sm.bd (er:=Sum.inl) (ok:=fun (l:List Nd) (st:PSt)=>Sum.inr (st,(0,lit [],0,0),(6,n.Text_,n.Num_,at_),(mkS l:Sl Nd))) (n:=t2.length) ?_ (fun e=>rfl) fun ks t3 e3 g3 l3=>?_
 ·cases e:isP [41] t2 with
  |true=>exact .ok g2 (Nat.le_refl _) rfl
  |false=>
   simp only [Bool.false_eq_true,if_false,Bool.not_false,if_true]
   refine Sm.mono (n:=t2.length - 1) ?_ (by omega)
   obtain ⟨k1,k2⟩:=VX (d:=0) g2
   refine Sm.map k1 (fun e=>rfl) fun l t3 el g3=>?_
   have hne:l≠[]:=by
    obtain ⟨a,t,_,e2⟩:=zb el
    have:∀ (k:Nat) (acc:List Nd) (t:List Tk) (l:List Nd) (t3:List Tk),acc≠[]→yk YC k acc t = .ok (l,t3)→l≠[]:=by
     intro k
     induction k with
     |zero=>intro acc t l t3 ha e;cases e;exact ha
     |succ k ih=>
      intro acc t l t3 ha e
      unfold yk at e
      split at e
      ·obtain ⟨a,t',_,e⟩:=zb e
       exact ih _ _ _ _ (by simp) e
      ·cases e;exact ha
    exact this _ _ _ _ _ (by simp) e2
   cases l with
   |nil=>exact absurd rfl hne
   |cons a l=>rfl
 have hks:ks.length≤20001:=by
  have hlen2:=g2.len
  split at e3
  ·cases e3;simp
  ·have:=(VX (d:=0) g2).2 ks t3 e3;omega
 refine (ZB g3 [41]).bd (fun e=>rfl) fun _ t4 _ g4 l4=>?_
 simp only [Sum.elim_inr,zZ g4,Option.bind_some]
 have h4:=g4.tail_len
 refine Sm.bd (er:=Sum.inl) (ok:=fun (m:Nd) (st:PSt)=>Sum.inr (st,(0,lit [],0,0),(6,n.Text_,n.Num_,at_),(m.Kind_,m.Text_,m.Num_,m.At_,m.Kids_),(mkS ks:Sl Nd))) (n:=t4.length) ?_ (fun e=>rfl) fun ret t5 e5 g5 l5=>?_
 ·cases e:isP [45,62] t4 with
  |true=>
   have g5:=g4.is e
   simp only [if_true,YL g5,Option.bind_some]
   cases e2:isP [38] t4.tail with
   |true=>simp only [if_true,Wj g5,Option.bind_some];exact ⟨_,rfl⟩
   |false=>
    simp only [Bool.false_eq_true,if_false]
    refine Sm.mono (n:=t4.tail.length - 1) ?_ (by omega)
    exact Sm.map (zhh g5) (fun e=>rfl) fun a t _ _=>rfl
  |false=>
   simp only [Bool.false_eq_true,if_false,ZL g4,Option.bind_some]
   exact .ok g4 (Nat.le_refl _) rfl
 refine (znk t5 g5).bd (fun e=>rfl) fun b t6 _ g6 l6 =>.ok g6 (by omega) ?_
 simp only [Sum.elim_inr,ndK,ndT,zW,mkS]
 rw [zpG (by simp;omega) (by simp)]
 rfl
end Go.Px
namespace Go.Px
set_option linter.unusedVariables false
set_option linter.unusedSimpArgs false
mutual
def z8:Nd→Nat
 |⟨_,_,_,_,ks⟩=>zmD ks+1
def zmD:Sl Nd→Nat
 |⟨xs,_⟩=>zi xs
def zi:List Nd→Nat
 |[]=>0
 |a::r=>z8 a+zi r
end
theorem zk (n:Nd):z8 n=zi n.Kids_.xs+1:=by
 obtain ⟨a,b,c,d,⟨xs,nn⟩⟩:=n
 simp [z8,zmD]
theorem Zy:∀ (a b:List Nd),zi (a++b)=zi a+zi b
 |[],b=>by simp [zi]
 |x::a,b=>by simp [zi,Zy a b];omega
theorem zM {s:List UInt8}{ts:List Tk}(h:isP s ts=true):ts.tail.length+1=ts.length:=by
 cases ts with
 |nil=>exact absurd rfl (zfE h)
 |cons=>simp
theorem Zv {s:List UInt8}{ts t1:List Tk}{u:Unit}(h:Zc s ts = .ok (u,t1)):t1.length+1=ts.length:=by
 unfold Zc at h
 split at h
 ·rename_i h1;cases h;exact zM h1
 ·cases h
theorem zep {k:Int}(hk:k≠0) {ts t1:List Tk}{t:Tk}(h:xp k ts = .ok (t,t1)):t1.length+1=ts.length:=by
 unfold xp at h
 split at h
 ·rename_i h1
  cases h
  cases ts with
  |nil=>exact absurd h1.symm hk
  |cons=>simp
 ·cases h
theorem xi {sg:Int}{ts t1:List Tk}{v:Int}(h:Yu sg ts = .ok (v,t1)):t1.length+1=ts.length:=by
 obtain ⟨a,t,e,h⟩:=zb h
 cases h;exact zep (by omega) e
def Sz (p:List Tk→PR Nd):Prop:=∀ ts n t1,p ts = .ok (n,t1)→z8 n+3 * t1.length≤3 * ts.length∧t1.length+1≤ts.length
def SzL (p:List Tk→PR (List Nd)):Prop:=∀ ts n t1,p ts = .ok (n,t1)→zi n+3 * t1.length≤3 * ts.length∧t1.length+1≤ts.length
theorem ZN {ts t1:List Tk}{n:Nd}(h:Zn ts = .ok (n,t1)):z8 n=1∧t1.length+1=ts.length:=by
 obtain ⟨a,t,e,h⟩:=zb h
 cases h
 exact ⟨by simp [zk,zi],zep (by omega) e⟩
theorem zfL {ts t1:List Tk}{n m:Nd}(h:Y4 n ts = .ok (m,t1)):z8 m=z8 n∧t1.length≤ts.length:=by
 unfold Y4 at h
 split at h
 ·rename_i hp
  obtain ⟨a,t,e,h⟩:=zb h
  cases h
  have:=xi e;have:=zM hp
  exact ⟨by simp [zk,Nd.num],by omega⟩
 ·split at h
  ·rename_i hp
   obtain ⟨a,t,e,h⟩:=zb h
   cases h
   have:=xi e;have:=zM hp
   exact ⟨by simp [zk,Nd.num],by omega⟩
  ·cases h;exact ⟨rfl,Nat.le_refl _⟩
theorem Xt {ts t1:List Tk}{n:Nd}(h:Z2 ts = .ok (n,t1)):z8 n=1∧t1.length+1≤ts.length:=by
 unfold Z2 at h
 split at h
 ·obtain ⟨a,t,e,h⟩:=zb h
  cases h
  have:=xi e
  exact ⟨by simp [zk,zi],by omega⟩
 ·split at h
  ·rename_i hp
   obtain ⟨a,t,e,h⟩:=zb h
   cases h
   have:=xi e;have:=zM hp
   exact ⟨by simp [zk,zi],by omega⟩
  ·obtain ⟨a,t,e,h⟩:=zb h
   have h1:=ZN e;have h2:=zfL h
   exact ⟨by omega,by omega⟩
theorem zbI {one:List Tk→PR Nd}(ho:Sz one):∀ (k:Nat) (acc:List Nd) (ts:List Tk) (l:List Nd) (t1:List Tk),yk one k acc ts = .ok (l,t1)→zi l+3 * t1.length≤zi acc+3 * ts.length∧t1.length≤ts.length
 |0,acc,ts,l,t1,h=>by cases h;exact ⟨Nat.le_refl _,Nat.le_refl _⟩
 |k+1,acc,ts,l,t1,h=>by
  unfold yk at h
  split at h
  ·rename_i hp
   obtain ⟨a,t,e,h⟩:=zb h
   have h1:=ho _ _ _ e
   have h2:=zbI ho k _ _ _ _ h
   have h3:=zM hp
   rw [Zy] at h2
   simp only [zi] at h2
   omega
  ·cases h;exact ⟨Nat.le_refl _,Nat.le_refl _⟩
theorem Vz {one:List Tk→PR Nd}(ho:Sz one):SzL (yp one):=by
 intro ts l t1 h
 obtain ⟨a,t,e,h⟩:=zb h
 have h1:=ho _ _ _ e
 have h2:=zbI ho _ _ _ _ _ h
 simp only [zi] at h2
 omega
theorem zfM:Sz Z2:=fun ts n t1 h=>by have:=Xt h;omega
theorem zb5 {ts t1:List Tk}{ks:Sl Nd}(h:wy ts = .ok (ks,t1)):zi ks.xs+3 * t1.length+3≤3 * ts.length∧t1.length+1≤ts.length:=by
 obtain ⟨u,t,e,h⟩:=zb h
 have h0:=Zv e
 split at h
 ·rename_i hp
  have:=zM hp
  cases h
  simp [zi];omega
 ·obtain ⟨l,t2,e2,h⟩:=zb h
  obtain ⟨u,t3,e3,h⟩:=zb h
  cases h
  have h1:=Vz zfM _ _ _ e2
  have h2:=Zv e3
  simp only;omega
theorem zkf:Sz Yj:=fun ts n t1 h=>by
 obtain ⟨a,t,e,h⟩:=zb h
 have h0:=ZN e
 split at h
 ·rename_i hp
  have:=zM hp
  obtain ⟨k,t2,e2,h⟩:=zb h
  obtain ⟨u,t3,e3,h⟩:=zb h
  cases h
  have h1:=ZN e2;have h2:=Zv e3
  simp only [zk,zi] at h1 ⊢;omega
 ·cases h
  simp only [zk,zi];omega
theorem zlA {ts t1:List Tk}{s:ByteArray}(h:WE ts = .ok (s,t1)):t1.length+1=ts.length:=by
 unfold WE at h
 split at h
 ·rename_i hp;cases h;exact zM hp
 ·split at h
  ·rename_i hp;cases h;exact zM hp
  ·split at h
   ·rename_i hp;cases h;exact zM hp
   ·cases h
theorem zfN:Sz YA:=fun ts n t1 h=>by
 obtain ⟨a,t,e,h⟩:=zb h
 obtain ⟨op,t2,e2,h⟩:=zb h
 obtain ⟨b,t3,e3,h⟩:=zb h
 cases h
 have h0:=Xt e;have h1:=zlA e2;have h2:=Xt e3
 simp only [zk,zi] at h0 h2 ⊢;omega
theorem zlB:Sz Xn:=fun ts n t1 h=>by
 have go:∀ {w:List UInt8} {a b:ByteArray} {c d:Int},isP w ts=true→((Zn ts.tail).bd fun k t1=>(.ok (⟨2,a,c,d,⟨[k],true⟩⟩,t1):PR Nd)) = .ok (n,t1)→z8 n+3 * t1.length≤3 * ts.length∧t1.length+1≤ts.length:=by
  intro w a b c d hp h
  obtain ⟨k,t,e,h⟩:=zb h
  cases h
  have h0:=ZN e;have:=zM hp
  simp only [zk,zi] at h0 ⊢;omega
 unfold Xn at h
 split at h
 ·rename_i hp;have:=zM hp;cases h;simp only [zk,zi];omega
 ·split at h
  ·rename_i hp;have:=zM hp;cases h;simp only [zk,zi];omega
  ·split at h
   ·rename_i hp;exact go (b:=lit []) hp h
   ·split at h
    ·rename_i hp;exact go (b:=lit []) hp h
    ·split at h
     ·rename_i hp;exact go (b:=lit []) hp h
     ·cases h
theorem znl (a:Int):Sz (Vx a):=fun ts n t1 h=>by
 obtain ⟨m,t,e,h⟩:=zb h
 obtain ⟨s,t2,e2,h⟩:=zb h
 obtain ⟨ks,t3,e3,h⟩:=zb h
 obtain ⟨ks2,t4,e4,h⟩:=zb h
 obtain ⟨u,t5,e5,h⟩:=zb h
 cases h
 have h0:=ZN e;have h1:=zlB _ _ _ e2;have h5:=Zv e5
 have h3:zi ks+3 * t3.length≤z8 s+3 * t2.length:=by
  split at e3
  ·rename_i hp
   obtain ⟨l,t6,e6,e7⟩:=zb e3
   obtain ⟨u,t7,e7,e8⟩:=zb e7
   cases e8
   have:=zM hp;have h6:=Vz zkf _ _ _ e6;have:=Zv e7
   simp only [List.cons_append,List.nil_append,zi];omega
  ·cases e3;simp only [zi];omega
 have h4:zi ks2+3 * t4.length≤zi ks+3 * t3.length:=by
  split at e4
  ·rename_i hp
   obtain ⟨l,t6,e6,e7⟩:=zb e4
   cases e7
   have:=zM hp;have h6:=Vz zfN _ _ _ e6
   rw [Zy];omega
  ·cases e4;omega
 simp only [zk] at h1 h3 ⊢;omega
theorem zfO:Sz YB:=fun ts n t1 h=>by
 have go:∀ {t0:List Tk} {a:ByteArray} {c d:Int},t0.length+1≤ts.length→((Zn t0).bd fun k t1=>(.ok (⟨8,a,c,d,⟨[k],true⟩⟩,t1):PR Nd)) = .ok (n,t1)→z8 n+3 * t1.length≤3 * ts.length∧t1.length+1≤ts.length:=by
  intro t0 a c d hp h
  obtain ⟨k,t,e,h⟩:=zb h
  cases h
  have h0:=ZN e
  simp only [zk,zi] at h0 ⊢;omega
 unfold YB at h
 split at h
 ·rename_i hp;have:=zM hp;cases h;simp only [zk,zi];omega
 ·split at h
  ·rename_i hp;exact go (by have:=zM hp;omega) h
  ·obtain ⟨u,t,e,h⟩:=zb h
   have:=Zv e
   split at h
   ·rename_i hp;exact go (by have:=zM hp;omega) h
   ·exact go (by omega) h
theorem zkg:Sz YC:=fun ts n t1 h=>by
 obtain ⟨m,t,e,h⟩:=zb h
 obtain ⟨s,t2,e2,h⟩:=zb h
 obtain ⟨k,t3,e3,h⟩:=zb h
 cases h
 have h0:=ZN e;have h1:=Zv e2;have h2:=zfO _ _ _ e3
 simp only [zk,zi] at h2 ⊢;omega
theorem zkh {k:Int}{ts t1:List Tk}{n:Nd}(h:atP k ts = .ok (n,t1)):z8 n=1∧t1.length+1≤ts.length:=by
 obtain ⟨m,t,e,h⟩:=zb h
 obtain ⟨s,t2,e2,h⟩:=zb h
 obtain ⟨v,t3,e3,h⟩:=zb h
 obtain ⟨u,t4,e4,h⟩:=zb h
 cases h
 have h0:=ZN e;have h1:=Zv e2;have h2:=xi e3;have h3:=Zv e4
 exact ⟨by simp [zk,zi],by omega⟩
theorem zlC:Sz yZ:=fun ts n t1 h=>by
 unfold yZ at h
 split at h
 ·rename_i hp
  obtain ⟨a,t,e,h⟩:=zb h
  cases h
  have:=zM hp;have:=xi e
  simp only [zk,zi];omega
 split at h
 ·rename_i hp
  obtain ⟨a,t,e,h⟩:=zb h
  cases h
  have:=zM hp;have:=ZN e
  simp only [zk,zi];omega
 split at h
 ·rename_i hp
  have:=zM hp
  split at h
  ·rename_i hq
   obtain ⟨a,t,e,h⟩:=zb h
   cases h
   have:=zM hq;have:=ZN e
   simp only [zk,zi];omega
  ·obtain ⟨a,t,e,h⟩:=zb h
   cases h
   have:=ZN e
   simp only [zk,zi];omega
 split at h
 ·exact zfM _ _ _ h
 obtain ⟨m,t,e,h⟩:=zb h
 have h0:=ZN e
 split at h
 ·obtain ⟨ks,t2,e2,h⟩:=zb h
  cases h
  have:=zb5 e2
  simp only [zk];omega
 split at h
 ·rename_i hp
  obtain ⟨a,t2,e2,h⟩:=zb h
  obtain ⟨u,t3,e3,h⟩:=zb h
  cases h
  have:=zM hp;have h1:=Xt e2;have:=Zv e3
  simp only [zk,zi] at h1 ⊢;omega
 split at h
 ·rename_i hp
  obtain ⟨a,t2,e2,h⟩:=zb h
  cases h
  have:=zM hp.1;have h1:=ZN e2
  simp only [zk,zi] at h0 h1 ⊢;omega
 split at h
 ·rename_i hp
  obtain ⟨a,t2,e2,h⟩:=zb h
  cases h
  have:=zM hp.1;have h1:=ZN e2
  simp only [zk,zi] at h0 h1 ⊢;omega
 ·have:=zfL h;omega
theorem zki {m n:Nd}{ts t1:List Tk}(h:xc m ts = .ok (n,t1)):z8 n+3 * t1.length≤3 * ts.length+2∧t1.length+1≤ts.length:=by
 unfold xc at h
 split at h
 ·obtain ⟨ks,t2,e2,h⟩:=zb h
  cases h
  have:=zb5 e2
  simp only [zk,zi];omega
 split at h
 ·rename_i hp
  obtain ⟨a,t2,e2,h⟩:=zb h
  obtain ⟨u,t3,e3,h⟩:=zb h
  obtain ⟨u,t4,e4,h⟩:=zb h
  obtain ⟨b,t5,e5,h⟩:=zb h
  cases h
  have:=zM hp;have h1:=Xt e2;have:=Zv e3;have:=Zv e4;have h2:=Xt e5
  simp only [zk,zi] at h1 h2 ⊢;omega
 ·obtain ⟨u,t4,e4,h⟩:=zb h
  obtain ⟨b,t5,e5,h⟩:=zb h
  cases h
  have:=Zv e4;have h2:=zlC _ _ _ e5
  simp only [zk,zi] at h2 ⊢;omega
theorem XH {m n:Nd}{ts t1:List Tk}(h:Xs m ts = .ok (n,t1)):n=m∧t1.length+1=ts.length:=by
 obtain ⟨u,t,e,h⟩:=zb h
 cases h;exact ⟨rfl,Zv e⟩
theorem zcY {blk:List Tk→PR Nd}(hb:Sz blk) (k a:Int):Sz (xL blk k a):=fun ts n t1 h=>by
 obtain ⟨m,t,e,h⟩:=zb h
 obtain ⟨b,t2,e2,h⟩:=zb h
 cases h
 have h0:=zfN _ _ _ e;have h1:=hb _ _ _ e2
 simp only [zk] at h0 h1 ⊢
 simp only [Zy,zi,zk];omega
theorem zlD {blk:List Tk→PR Nd}(hb:Sz blk):Sz (ZQ blk):=fun ts n t1 h=>by
 unfold ZQ at h
 split at h
 ·rename_i hp
  obtain ⟨a,t,e,h⟩:=zb h
  have:=zM hp;have:=ZN e;obtain ⟨rfl,h2⟩:=XH h
  simp only [zk,zi];omega
 split at h
 ·rename_i hp
  obtain ⟨a,t,e,h⟩:=zb h
  have:=zM hp;have:=zkh e;obtain ⟨rfl,h2⟩:=XH h
  simp only [zk,zi];omega
 split at h
 ·rename_i hp
  obtain ⟨a,t,e,h⟩:=zb h
  have:=zM hp;have:=zkh e;obtain ⟨rfl,h2⟩:=XH h
  simp only [zk,zi];omega
 split at h
 ·rename_i hp
  obtain ⟨a,t,e,h⟩:=zb h
  have:=zM hp;have h1:=zcY hb _ _ _ _ _ e
  split at h
  ·rename_i hq
   obtain ⟨b,t2,e2,h⟩:=zb h
   cases h
   have:=zM hq;have h2:=hb _ _ _ e2
   simp only [zk] at h1 h2 ⊢
   simp only [Zy,zi,zk];omega
  ·cases h
   simp only [zk] at h1 ⊢
   simp only [Zy,zi,zk];omega
 split at h
 ·rename_i hp
  have:=zM hp;have h1:=zcY hb _ _ _ _ _ h;omega
 split at h
 ·rename_i hp
  have:=zM hp
  split at h
  ·obtain ⟨rfl,h2⟩:=XH h
   simp only [zk,zi];omega
  ·obtain ⟨a,t,e,h⟩:=zb h
   have h1:=Xt e;obtain ⟨rfl,h2⟩:=XH h
   simp only [zk,zi] at h1 ⊢;omega
 split at h
 ·rename_i hp
  have:=zM hp;obtain ⟨rfl,h2⟩:=XH h
  simp only [zk,zi];omega
 split at h
 ·rename_i hp
  obtain ⟨a,t,e,h⟩:=zb h
  obtain ⟨ks,t2,e2,h⟩:=zb h
  have:=zM hp;have:=ZN e;have:=zb5 e2;obtain ⟨rfl,h2⟩:=XH h
  simp only [zk];omega
 ·obtain ⟨a,t,e,h⟩:=zb h
  obtain ⟨m,t2,e2,h⟩:=zb h
  have:=ZN e;have:=zki e2;obtain ⟨rfl,h2⟩:=XH h
  omega
theorem zeq {one:List Tk→PR Nd}(ho:Sz one):∀ (k:Nat) (acc:List Nd) (ts:List Tk) (l:List Nd) (t1:List Tk),Yk one k acc ts = .ok (l,t1)→zi l+3 * t1.length+3≤zi acc+3 * ts.length∧t1.length+1≤ts.length
 |0,acc,ts,l,t1,h=>by cases h
 |k+1,acc,ts,l,t1,h=>by
  unfold Yk at h
  split at h
  ·rename_i hp;have:=zM hp;cases h;omega
  ·obtain ⟨a,t,e,h⟩:=zb h
   have h1:=ho _ _ _ e
   have h2:=zeq ho k _ _ _ _ h
   rw [Zy] at h2
   simp only [zi] at h2
   omega
theorem zer:∀ r,Sz (yE r)
 |0=>fun ts n t1 h=>by unfold yE at h;split at h <;> cases h
 |r+1=>fun ts n t1 h=>by
  obtain ⟨u,t,e,h⟩:=zb (show ((Zc [123] ts).bd _)=_ from h)
  obtain ⟨l,t2,e2,h⟩:=zb h
  cases h
  have:=Zv e;have:=zeq (zlD (zer r)) _ _ _ _ _ e2
  simp only [zk,mkS,zi] at this ⊢;omega
theorem zoG (a:Int):Sz (fnP a):=fun ts n t1 h=>by
 obtain ⟨m,t,e,h⟩:=zb h
 obtain ⟨u,t2,e2,h⟩:=zb h
 obtain ⟨ps,t3,e3,h⟩:=zb h
 obtain ⟨u,t4,e4,h⟩:=zb h
 obtain ⟨ret,t5,e5,h⟩:=zb h
 obtain ⟨b,t6,e6,h⟩:=zb h
 cases h
 have:=ZN e;have:=Zv e2;have:=Zv e4;have h6:=zer _ _ _ _ e6
 have h3:zi ps+3 * t3.length≤3 * t2.length:=by
  split at e3
  ·cases e3;simp only [zi];omega
  ·have:=Vz zkg _ _ _ e3;omega
 have h5:z8 ret+3 * t5.length≤3 * t4.length+1:=by
  split at e5
  ·rename_i hp
   have:=zM hp
   split at e5
   ·cases e5
   ·have:=zfO _ _ _ e5;omega
  ·cases e5;simp only [zk,zi];omega
 simp only [zk] at h5 h6 ⊢
 simp only [Zy,zi,zk];omega
theorem zaJ:∀ (k:Nat) (acc:List Nd) (ts:List Tk) (l:List Nd) (t1:List Tk),yF k acc ts = .ok (l,t1)→zi l+3 * t1.length≤zi acc+3 * ts.length
 |0,acc,ts,l,t1,h=>by cases h
 |k+1,acc,ts,l,t1,h=>by
  unfold yF at h
  split at h
  ·cases h;omega
  split at h
  ·rename_i hp
   obtain ⟨a,t,e,h⟩:=zb h
   have:=zM hp;have h1:=zoG _ _ _ _ e;have h2:=zaJ k _ _ _ _ h
   rw [Zy] at h2
   simp only [zi] at h2;omega
  ·obtain ⟨u,t,e,h⟩:=zb h
   obtain ⟨a,t2,e2,h⟩:=zb h
   have:=Zv e;have h1:=znl _ _ _ _ e2;have h2:=zaJ k _ _ _ _ h
   rw [Zy] at h2
   simp only [zi] at h2;omega
end Go.Px
namespace Go.Px
set_option linter.unusedVariables false
set_option linter.unusedSimpArgs false
theorem zes (n:Nd):1≤z8 n:=by rw [zk];omega
theorem zgJ {xs:List Nd}{i:Nat}(h:i < xs.length):zi (xs.take (i+1))=zi (xs.take i)+z8 xs[i]:=by
 rw [List.take_succ_eq_append_getElem h,Zy];simp [zi]
theorem zdI (xs:List Nd) (i:Nat):zi (xs.take i)≤zi xs:=by
 have:=Zy (xs.take i) (xs.drop i)
 rw [List.take_append_drop] at this;omega
theorem zhi:∀ (k:Nat) (n:Nd),z8 n≤k→z8 n≤1000000000→q1u k n=some (z8 n:Int)
 |0,n,h,_=>by have:=zes n;omega
 |k+1,n,h,hb=>by
  obtain ⟨a,b,c,d,⟨xs,nn⟩⟩:=n
  show ((lpO (q4w (q1u k)) (1,(⟨xs,nn⟩:Sl Nd),Sl.len (⟨xs,nn⟩:Sl Nd),0)).bind fun y3=>some y3)=_
  have hs:z8 ⟨a,b,c,d,⟨xs,nn⟩⟩=zi xs+1:=by rw [zk]
  have loop:∀ (m i:Nat),i+m=xs.length→lpO (q4w (q1u k)) (((1+zi (xs.take i):Nat):Int),(⟨xs,nn⟩:Sl Nd),Sl.len (⟨xs,nn⟩:Sl Nd),(i:Int))=some ((1+zi xs:Nat):Int):=by
   intro m
   induction m with
   |zero=>
    intro i hi
    rw [zQ]
    have hf:q4w (q1u k) (((1+zi (xs.take i):Nat):Int),(⟨xs,nn⟩:Sl Nd),Sl.len (⟨xs,nn⟩:Sl Nd),(i:Int))=some (.done ((1+zi (xs.take i):Nat):Int)):=by
     show (if decide ((i:Int) < (xs.length:Int))=true then _ else _)=_
     rw [if_neg (by simp;omega)]
    rw [hf,List.take_of_length_le (by omega)]
    rfl
   |succ m ih=>
    intro i hi
    have hlt:i < xs.length:=by omega
    rw [zQ]
    have hg:zt (⟨xs,nn⟩:Sl Nd) (i:Int)=some xs[i]:=by
     unfold zt
     rw [if_pos (by omega)]
     simp [hlt]
    have h1:=zgJ hlt
    have h2:=zdI xs (i+1)
    have hr:q1u k xs[i]=some (z8 xs[i]:Int):=zhi k xs[i] (by omega) (by omega)
    have hlen:xs.length≤zi xs:=by
     clear hr h1 h2 hg ih hs hb h hlt hi
     induction xs with
     |nil=>simp
     |cons x r ih=>have:=zes x;simp only [zi,List.length_cons];omega
    have hf:q4w (q1u k) (((1+zi (xs.take i):Nat):Int),(⟨xs,nn⟩:Sl Nd),Sl.len (⟨xs,nn⟩:Sl Nd),(i:Int))=some (.next (((1+zi (xs.take (i+1)):Nat):Int),(⟨xs,nn⟩:Sl Nd),Sl.len (⟨xs,nn⟩:Sl Nd),((i+1:Nat):Int))):=by
     show (if decide ((i:Int) < (xs.length:Int))=true then (zt (⟨xs,nn⟩:Sl Nd) (i:Int)).bind _ else _)=_
     rw [if_pos (by simp;omega),hg]
     simp only [Option.bind_some,zW,hr]
     rw [yL (by omega) (by omega),yL (by omega) (by omega),h1]
     have e1:((1+zi (xs.take i):Nat):Int)+(z8 xs[i]:Int)=((1+(zi (xs.take i)+z8 xs[i]):Nat):Int):=by omega
     have e2:(i:Int)+1=((i+1:Nat):Int):=by omega
     rw [e1,e2]
    rw [hf]
    exact ih (i+1) (by omega)
  have:=loop xs.length 0 (by omega)
  simp only [List.take_zero,zi,Nat.add_zero] at this
  rw [show (1:Int)=((1:Nat):Int) from rfl,show (0:Int)=((0:Nat):Int) from rfl,this,hs,Nat.add_comm]
  rfl
theorem znm {l:List UInt8}{k:Int}{n:Nat}{v:Int}(h:nxt l = .tok k n v):(0≤v∧v≤1099511627776)∧k≠0:=by
 cases l with
 |nil=>cases h
 |cons c r=>
  unfold nxt at h
  simp only at h
  split at h
  ·cases h
  split at h
  ·cases h
  split at h
  ·unfold wx at h
   split at h
   ·cases h
   ·rename_i hb
    cases h
    unfold Xg at hb
    simp only [Bool.or_eq_true,decide_eq_true_eq,not_or] at hb
    omega
  split at h
  ·unfold Xh at h
   split at h
   ·cases h
   ·cases h
    refine ⟨by omega,?_⟩
    split <;> omega
  ·unfold xz at h
   split at h
   ·cases h
   ·cases h;omega
theorem znn {l:List UInt8}{e:Int}(h:nxt l = .err e):e≠0:=by
 cases l with
 |nil=>cases h;omega
 |cons c r=>
  unfold nxt at h
  simp only at h
  split at h
  ·cases h
  split at h
  ·cases h
  split at h
  ·unfold wx at h;split at h <;> cases h;omega
  split at h
  ·unfold Xh at h
   split at h
   ·cases h;omega
   ·cases h
  ·unfold xz at h
   split at h
   ·cases h;omega
   ·cases h
theorem VA:∀ (f at_:Nat) (l:List UInt8) (ts:List Tk),xX f at_ l = .inr ts→∀ t∈ts,(0≤t.Num_∧t.Num_≤1099511627776)∧t.Kind_≠0
 |0,at_,l,ts,h=>by cases h;simp
 |f+1,at_,l,ts,h=>by
  unfold xX at h
  split at h
  ·cases h;simp
  split at h
  ·exact VA f _ _ ts h
  ·cases h
  ·rename_i k n v hn
   split at h
   ·cases h
   ·rename_i ts' hts
    cases h
    intro t ht
    rcases List.mem_cons.1 ht with rfl | ht
    ·exact znm hn
    ·exact VA f _ _ ts' hts t ht
theorem zkj {s:ByteArray}(h:(yQ s).2.1=0):TGood (yQ s).2.2.xs∧(yQ s).2.2.nn=true:=by
 unfold yQ at h ⊢
 by_cases hs:16384 < s.size
 ·rw [if_pos hs] at h;simp at h
 ·rw [if_neg hs] at h ⊢
  cases e:YI 0 (bs s) with
  |inl x=>
   rw [e] at h
   exfalso
   have:∀ (f a:Nat) (l:List UInt8) (x:Nat×Int),xX f a l = .inl x→x.2≠0:=by
    intro f
    induction f with
    |zero=>intro a l x h;cases h
    |succ f ih=>
     intro a l x h
     unfold xX at h
     split at h
     ·cases h
     split at h
     ·exact ih _ _ _ h
     ·rename_i e he
      cases h
      exact znn he
     ·split at h
      ·rename_i y hy;cases h;exact ih _ _ _ hy
      ·cases h
   exact this _ _ _ _ e h
  |inr ts=>
   have hl:=Vw (bs s).length (bs s) 0 ts (Nat.le_refl _) e
   rw [Zu] at hl
   refine ⟨⟨by simp,fun _=>by simp,by simp;omega,fun t ht=>?_⟩,rfl⟩
   simp only [List.mem_append,List.mem_singleton] at ht
   rcases ht with ht | rfl
   ·exact (VA _ _ _ _ e t ht).1
   ·simp
def VB:Nd:=⟨0,lit [],0,0,zq⟩
def yH (s:ByteArray):Nd×Int×Int:=if (yQ s).2.1≠0 then (VB,(yQ s).1,(yQ s).2.1) else
 match yF (yQ s).2.2.xs.length [] (yQ s).2.2.xs with
 | .error e=>(VB,e.1,e.2)
 | .ok (ks,_)=>if 4096 < zi ks+1 then (VB,0,22) else (⟨0,lit [],0,0,mkS ks⟩,0,0)
noncomputable abbrev Zw:=q21 q4u qc qb q4h qd q4d q56 q6g q4l
theorem zfP {acc:List Nd}{z a:Nd}(h:acc.length≤30000):∃ y8:Sl Nd,ZM 64 (mkS acc) [z]=some y8∧zt y8 (Sl.len (mkS acc))=some z∧y8.set (Sl.len (mkS acc)) a=mkS (acc++[a]):=by
 refine ⟨_,zmC h,?_,?_⟩
 ·unfold zt mkS Sl.len
  rw [if_pos (by simp)]
  simp
 ·unfold mkS Sl.len Sl.set
  cases acc <;> simp
theorem VC {a0 e0:Int}:∀ (k:Nat) (ts:List Tk) (acc:List Nd),TGood ts→ts.length≤k→acc.length+ts.length≤30000→
    match yF k acc ts with
    | .error e=>∃ st u v w,lpO Zw ((0,lit [],0,0),a0,e0,(⟨ts,true⟩,0),mkS acc)=some (.inl (e,u,v,w,st))
    | .ok (l,_)=>lpO Zw ((0,lit [],0,0),a0,e0,(⟨ts,true⟩,0),mkS acc)=some (.inr ((0,lit [],0,0),a0,e0,mkS l))
  |0,ts,acc,g,hk,ha=>absurd (List.eq_nil_of_length_eq_zero (by omega)) g.ne
  |k+1,ts,acc,g,hk,ha=>by
    have ht:=g.tail_len
    have key:∀ z,Zw ((0,lit [],0,0),a0,e0,(⟨ts,true⟩,0),mkS acc)=some z→lpO Zw ((0,lit [],0,0),a0,e0,(⟨ts,true⟩,0),mkS acc)=(match z with | .next x'=>lpO Zw x' | .done y=>some y):=fun z hz=>by rw [zQ,hz];cases z <;> rfl
    unfold yF
    by_cases h0:(hd ts).Kind_=0
    · rw [if_pos h0]
      have hz:Zw ((0,lit [],0,0),a0,e0,(⟨ts,true⟩,0),mkS acc)=some (.done (.inr ((0,lit [],0,0),a0,e0,mkS acc))):=by
        unfold Zw q21
        simp only [ZL g,Option.bind_some,decide_eq_true_eq]
        rw [if_neg (by simpa using h0)]
      exact key _ hz
    · rw [if_neg h0]
      cases e:isP [102,110] ts with
      |true=>
        simp only [if_true]
        have s:=zpH (g.is e) (hd ts).At_
        cases es:fnP (hd ts).At_ ts.tail with
        |error er=>
          obtain ⟨st,s⟩:=s.err es
          have hz:Zw ((0,lit [],0,0),a0,e0,(⟨ts,true⟩,0),mkS acc)=some (.done (.inl (er,(0,lit [],0,0),a0,e0,mkS acc))):=by
            unfold Zw q21
            simp only [ZL g,Option.bind_some,decide_eq_true_eq]
            rw [if_pos h0]
            simp only [zZ g,Option.bind_some,e,if_true,s,Sum.elim_inl]
          exact ⟨_,_,_,_,key _ hz⟩
        |ok p=>
          obtain ⟨a,t1⟩:=p
          obtain ⟨s,g1,l1⟩:=s.out es
          obtain ⟨y8,q1,q2,q3⟩:=zfP (acc:=acc) (z:=⟨0,lit [],0,0,Sl.mk [] false⟩) (a:=a) (by omega)
          have hz:Zw ((0,lit [],0,0),a0,e0,(⟨ts,true⟩,0),mkS acc)=some (.next ((0,lit [],0,0),a0,e0,(⟨t1,true⟩,0),mkS (acc++[a]))):=by
            unfold Zw q21
            simp only [ZL g,Option.bind_some,decide_eq_true_eq]
            rw [if_pos h0]
            simp only [zZ g,Option.bind_some,e,if_true,s,Sum.elim_inr,q1,q2,Zb,ndK,ndT,zW,q3]
          have ih:=VC (a0:=a0) (e0:=e0) k t1 (acc++[a]) g1 (by omega) (by simp;omega)
          rw [key _ hz]
          exact ih
      |false=>
        simp only [Bool.false_eq_true,if_false]
        have s0:=ZB (d:=0) g [116,121,112,101]
        cases em:Zc [116,121,112,101] ts with
        |error er=>
          obtain ⟨st,s⟩:=s0.err em
          have hz:Zw ((0,lit [],0,0),a0,e0,(⟨ts,true⟩,0),mkS acc)=some (.done (.inl (er,(0,lit [],0,0),a0,e0,mkS acc))):=by
            unfold Zw q21
            simp only [ZL g,Option.bind_some,decide_eq_true_eq]
            rw [if_pos h0]
            simp only [zZ g,Option.bind_some,e,Bool.false_eq_true,if_false,s,Sum.elim_inl]
          exact ⟨_,_,_,_,key _ hz⟩
        |ok p=>
          obtain ⟨u,t0⟩:=p
          obtain ⟨s,g0,l0⟩:=s0.out em
          have s1:=zoF (d:=0) g0 (hd ts).At_
          simp only [PR.bd]
          cases es:Vx (hd ts).At_ t0 with
          |error er=>
            obtain ⟨st,s2⟩:=s1.err es
            have hz:Zw ((0,lit [],0,0),a0,e0,(⟨ts,true⟩,0),mkS acc)=some (.done (.inl (er,(0,lit [],0,0),a0,e0,mkS acc))):=by
              unfold Zw q21
              simp only [ZL g,Option.bind_some,decide_eq_true_eq]
              rw [if_pos h0]
              simp only [zZ g,Option.bind_some,e,Bool.false_eq_true,if_false,s,s2,Sum.elim_inr,Sum.elim_inl]
            exact ⟨_,_,_,_,key _ hz⟩
          |ok p=>
            obtain ⟨a,t1⟩:=p
            obtain ⟨s2,g1,l1⟩:=s1.out es
            obtain ⟨y8,q1,q2,q3⟩:=zfP (acc:=acc) (z:=⟨0,lit [],0,0,Sl.mk [] false⟩) (a:=a) (by omega)
            have hz:Zw ((0,lit [],0,0),a0,e0,(⟨ts,true⟩,0),mkS acc)=some (.next ((0,lit [],0,0),a0,e0,(⟨t1,true⟩,0),mkS (acc++[a]))):=by
              unfold Zw q21
              simp only [ZL g,Option.bind_some,decide_eq_true_eq]
              rw [if_pos h0]
              simp only [zZ g,Option.bind_some,e,Bool.false_eq_true,if_false,s,s2,Sum.elim_inr,q1,q2,Zb,ndK,ndT,zW,q3]
            have ih:=VC (a0:=a0) (e0:=e0) k t1 (acc++[a]) g1 (by omega) (by simp;omega)
            rw [key _ hz]
            exact ih
theorem wh (s:ByteArray):q1v s=some (yH s):=by
 show ((q4u s).bind _)=_
 rw [zkc,Option.bind_some]
 unfold yH
 simp only [decide_eq_true_eq]
 by_cases h:(yQ s).2.1=0
 case neg=>rw [if_pos h,if_pos h];rfl
 case pos=>
 rw [if_neg (by simpa using h),if_neg (by simpa using h)]
 obtain ⟨g,hn⟩:=zkj h
 generalize hx:(yQ s).2.2=X at g hn
 obtain ⟨ts,nn⟩:=X
 simp only at g hn
 subst hn
 have lp:=VC (a0:=(yQ s).1) (e0:=(yQ s).2.1) ts.length ts [] g (Nat.le_refl _) (by have:=g.len;simp;omega)
 have hlen:=g.len
 show ((lpO Zw ((0,lit [],0,0),(yQ s).1,(yQ s).2.1,((⟨ts,true⟩:Sl Tk),0),mkS [])).bind _)=_
 cases e:yF ts.length [] ts with
 |error er=>
  rw [e] at lp
  obtain ⟨st,u,v,w,lp⟩:=lp
  rw [lp];rfl
 |ok p=>
  obtain ⟨l,t1⟩:=p
  rw [e] at lp
  simp only at lp
  rw [lp]
  have hsz:=zaJ _ _ _ _ _ e
  simp only [zi] at hsz
  have hsize:q6g ⟨0,lit [],0,0,mkS l⟩=some ((zi l+1:Nat):Int):=by
   have:=zhi 100000 ⟨0,lit [],0,0,mkS l⟩ (by rw [zk];simp only [mkS];omega) (by rw [zk];simp only [mkS];omega)
   rw [zk] at this
   exact this
  simp only [Option.bind_some,Sum.elim_inr,hsize,decide_eq_true_eq]
  by_cases hb:4096 < zi l+1
  ·rw [if_pos (by omega),if_pos hb];rfl
  ·rw [if_neg (by omega),if_neg hb];rfl
end Go.Px
