/- Part La: Px01A Px01B Px01C Px01D Px02A Px02B Px02C Px0 -/
import Derived.Test.YtghhopjjddppbaaGreatDoorSh
import Derived.Test.YtghhopjjddppbaaGreatDoorA9
import Derived.Test.YtghhopjjddppbaaGreatDoorB2
namespace Go.Px
set_option linter.unusedVariables false
set_option linter.unusedSimpArgs false
abbrev bs (s:ByteArray):List UInt8:=s.data.toList
theorem ZP (s:ByteArray):(bs s).length=s.size:=by cases s;simp [bs,ByteArray.size]
theorem zax {s t:ByteArray}(h:bs s=bs t):s=t:=by
 cases s;cases t
 congr 1
 exact Array.toList_inj.1 h
theorem yc (l:List UInt8):bs (lit l)=l:=rfl
theorem zjZ (s t:ByteArray):bs (s++t)=bs s++bs t:=by
 show (s++t).data.toList=_
 rw [ByteArray.data_append,Array.toList_append]
theorem zQ {s β:Type}(f:s→Option (Step s β)) (x:s):lpO f x=(f x).bind fun | .next x'=>lpO f x' | .done y=>some y:=zkI f x
theorem Yz {s:ByteArray}{i:Nat}{c:UInt8}(h:(bs s)[i]?=some c):ZA s (i:Int)=some (c.toNat:Int):=by
 unfold ZA
 rw [if_pos (Int.natCast_nonneg i)]
 simp only [Int.toNat_natCast]
 have h:s.data.toList[i]?=some c:=h
 rw [h];rfl
theorem zef {l:List UInt8}{i:Nat}(h:i < l.length):∃ c,l[i]?=some c∧l.drop i=c::l.drop (i+1):=
 ⟨l[i],List.getElem?_eq_getElem h,List.drop_eq_getElem_cons h⟩
theorem Vj (s:ByteArray) (i j:Nat):bs (s.extract i j)=((bs s).take j).drop i:=by
 show (s.extract i j).data.toList=_
 rw [ByteArray.data_extract]
 simp [Array.toList_extract,List.extract,List.take_drop]
 by_cases h:i≤j
 ·rw [Nat.add_sub_cancel' h]
 ·have h1:j - i=0:=by omega
  rw [h1]
  simp
  omega
theorem W7 {s:ByteArray}{i j:Nat}(h1:i≤j) (h2:j≤s.size):Zt s (i:Int) (j:Int)=some (s.extract i j):=by
 unfold Zt
 rw [if_pos ⟨Int.natCast_nonneg i,Int.ofNat_le.2 h1,Int.ofNat_le.2 h2⟩]
 rfl
theorem zll {n:Nat}(h:n < 9223372036854775808):IntKind.i64.wrap (n:Int)=n:=yK (by omega) (by omega)
theorem zlm {n k:Nat}(h:n+k < 9223372036854775808):IntKind.i64.wrap ((n:Int)+(k:Int))=((n+k:Nat):Int):=by
 rw [yK (by omega) (by omega)];simp
theorem yi {n:Nat}(h:n+1 < 9223372036854775808):IntKind.i64.wrap ((n:Int)+1)=((n+1:Nat):Int):=by
 rw [yK (by omega) (by omega)];simp
def ZS (p:UInt8→Bool) (l:List UInt8):Nat:=(l.takeWhile p).length
theorem zln (p:UInt8→Bool):ZS p []=0:=rfl
theorem Yc (p:UInt8→Bool) (c:UInt8) (l:List UInt8):ZS p (c::l)=if p c then ZS p l+1 else 0:=by
 unfold ZS;rw [List.takeWhile_cons];split <;> simp
theorem w6 (p:UInt8→Bool):∀ l:List UInt8,ZS p l≤l.length
 |[]=>Nat.le_refl _
 |c::l=>by rw [Yc];split <;> simp;exact w6 p l
def isL (b:UInt8):Bool:=(decide (97≤b.toNat) && decide (b.toNat≤122)) || decide (b.toNat=95)
def isD (b:UInt8):Bool:=decide (48≤b.toNat) && decide (b.toNat≤57)
def isW (b:UInt8):Bool:=isL b || isD b
def WM (b:UInt8):Bool:=decide (b.toNat≠10)
theorem zbS (b:UInt8):q3y (b.toNat:Int)=some (isD b):=by
 simp only [q3y,q8o,isD,decide_eq_true_eq]
 split
 ·rename_i h
  have:48≤b.toNat:=by omega
  simp [this];omega
 ·rename_i h
  have:¬ 48≤b.toNat:=by omega
  simp [this]
theorem zay (b:UInt8):q36 (b.toNat:Int)=some (isL b):=by
 simp only [q36,q81,isL,decide_eq_true_eq]
 have e1:(97≤(b.toNat:Int))↔97≤b.toNat:=by omega
 have e2:((b.toNat:Int)≤122)↔b.toNat≤122:=by omega
 have e3:((b.toNat:Int)=95)↔b.toNat=95:=by omega
 simp only [e1,e2,e3]
 by_cases h1:97≤b.toNat <;> by_cases h2:b.toNat≤122 <;> simp [h1,h2]
theorem zj0 (b:UInt8):q5i (b.toNat:Int)=some (isW b):=by
 simp only [q5i,q82,zay,zbS,isW,Option.bind_some]
 cases isL b <;> simp
theorem zlo (b:UInt8):q4p (b.toNat:Int)=some (WM b):=by
 simp only [q4p,q72,WM]
 congr 1
 exact decide_eq_decide.2 (by omega)
theorem Vk {f:Int→Option Bool}{p:UInt8→Bool}(hf:∀ c:UInt8,f (c.toNat:Int)=some (p c)) {s:ByteArray}(hs:s.size < 4611686018427387904) :
    ∀ (n i:Nat),s.size - i=n→i≤s.size→lpO (q25 f) (s,(i:Int))=some ((i+ZS p ((bs s).drop i):Nat):Int)
  |0,i,hn,hi=>by
    have:i=s.size:=by omega
    subst this
    rw [zQ]
    simp [q25,List.drop_eq_nil_of_le,ZP,zln]
  |n+1,i,hn,hi=>by
    have hlt:i < s.size:=by omega
    obtain ⟨c,hc,hd⟩:=zef (l:=bs s) (i:=i) (by rw [ZP];exact hlt)
    rw [zQ]
    simp only [q25,decide_eq_true_eq]
    rw [if_pos (Int.ofNat_lt.2 hlt),Yz hc]
    simp only [Option.bind_some,hf]
    rw [hd,Yc]
    cases hp:p c with
    |true=>
      simp only [if_true,Option.bind_some]
      rw [yi (by omega),Vk hf hs n (i+1) (by omega) (by omega)]
      congr 2
      omega
    |false=>simp
theorem zj1 {s:ByteArray}{i:Nat}(hs:s.size < 4611686018427387904) (hi:i≤s.size):q5e (s,(i:Int))=some ((i+ZS isD ((bs s).drop i):Nat):Int):=by
 show (lpO (q25 q3y) (s,(i:Int))).bind some=_
 rw [Vk zbS hs _ i rfl hi];rfl
theorem ziF {s:ByteArray}{i:Nat}(hs:s.size < 4611686018427387904) (hi:i≤s.size):q51 (s,(i:Int))=some ((i+ZS isW ((bs s).drop i):Nat):Int):=by
 show (lpO (q25 q5i) (s,(i:Int))).bind some=_
 rw [Vk zj0 hs _ i rfl hi];rfl
theorem zj2 {s:ByteArray}{i:Nat}(hs:s.size < 4611686018427387904) (hi:i≤s.size):q4o (s,(i:Int))=some ((i+ZS WM ((bs s).drop i):Nat):Int):=by
 show (lpO (q25 q4p) (s,(i:Int))).bind some=_
 rw [Vk zlo hs _ i rfl hi];rfl
end Go.Px
namespace Go.Px
set_option linter.unusedVariables false
set_option linter.unusedSimpArgs false
def xm (l:List UInt8):Bool:=decide (l=[116,121,112,101]) || (decide (l=[102,110]) || (decide (l=[111,119,110]) || (decide (l=[99,101,108,108]) || (decide (l=[99,111,117,110,116,101,100]) || (decide (l=[108,111,99,107]) || (decide (l=[103,117,97,114,100]) || (decide (l=[119,104,101,114,101]) || (decide (l=[105,110,116]) || (decide (l=[109,117,116]) || (decide (l=[102,114,101,101]) || (decide (l=[117,110,108,111,99,107]) || (decide (l=[105,102]) || (decide (l=[101,108,115,101]) || (decide (l=[119,104,105,108,101]) || (decide (l=[114,101,116,117,114,110]) || (decide (l=[97,98,111,114,116]) || (decide (l=[102,111,114,107]) || (decide (l=[110,101,119]) || (decide (l=[97,114,114,97,121]))))))))))))))))))))
theorem zlp {p:Prop}[Decidable p] {X:Option Bool}{b:Bool}(h:X=some b):(if decide p=true then some (decide p) else X)=some (decide p || b):=by
 subst h
 by_cases hp:p <;> simp [hp]
theorem zlq {X:Option Bool}{b:Bool}(h:X=some b):(X.bind fun y=>some y)=some b:=by subst h;rfl
theorem zm6 {X:Option Bool}{b:Bool}(h:X=some b):(X.bind fun y=>if y=true then some true else some false)=some b:=by subst h;cases b <;> rfl
theorem zg4 (s:ByteArray) (l:List UInt8):decide (s=lit l)=decide (bs s=l):=by
 refine decide_eq_decide.2 ⟨fun h=>by rw [h];rfl,fun h=>zax h⟩
theorem zow (s:ByteArray):q62 s=some (xm (bs s)):=by
 simp only [q62,q8p,xm,← zg4]
 refine zm6 ?_
 repeat (first | exact rfl | apply zlp | apply zlq)
theorem zm7 (l:List UInt8):q62 (lit l)=some (xm l):=zow (lit l)
def W8 (a:Nat):List UInt8→Nat
 |[]=>a
 |c::r=>W8 (a * 10+(c.toNat - 48)) r
def yU (l:List UInt8):Nat:=W8 0 l
theorem zg5:∀ (l:List UInt8) (a:Nat),a≤W8 a l
 |[],a=>Nat.le_refl _
 |c::r,a=>Nat.le_trans (by omega) (zg5 r _)
def sgn (c:UInt8):Bool:=[123,125,40,41,91,93,44,58,59,61,43,45,38,60].contains c
def two (l:List UInt8):Bool:=decide (l.take 2=[45,62]) || (decide (l.take 2=[60,61]) || decide (l.take 2=[61,61]))
def Yt (l:List UInt8):Nat:=if two l then 2 else match l with
 |[]=>0
 |c::_=>if sgn c then 1 else 0
inductive Nx where
 |skip (n:Nat)
 |tok (k:Int) (n:Nat) (v:Int)
 |err (e:Int)
def Vl:Option UInt8→Bool
 |some c=>isL c
 |none=>false
def Xc (l:List UInt8):Bool:=decide (1099511627776 < yU (l.take (ZS isD l))) || ((decide (1 < ZS isD l) && decide (l.head?=some 48)) || Vl l[ZS isD l]?)
def wl (l:List UInt8):Nx:=if Xc l then .err 12 else .tok 3 (ZS isD l) (yU (l.take (ZS isD l)))
def Xd (l:List UInt8):Nx:=if 16 < ZS isW l then .err 13 else .tok (if xm (l.take (ZS isW l)) then 2 else 1) (ZS isW l) 0
def xx (l:List UInt8):Nx:=if Yt l=0 then .err 11 else .tok 4 (Yt l) 0
def nxt (l:List UInt8):Nx:=match l with
 |[] =>.err 11
 |c::r=>if c.toNat=32∨c.toNat=10 then .skip 1 else if c.toNat=35 then .skip (ZS WM (c::r)) else if isD c then wl (c::r) else if isL c then Xd (c::r) else xx (c::r)
def xW:Nat→Nat→List UInt8→(Nat×Int)⊕List q8
 |0,_,_ =>.inr []
 |f+1,at_,l=>if l.isEmpty then .inr [] else match nxt l with
  | .skip n=>xW f (at_+n) (l.drop n)
  | .err e =>.inl (at_,e)
  | .tok k n v=>match xW f (at_+n) (l.drop n) with
   | .inl x =>.inl x
   | .inr ts =>.inr (⟨k,lit (l.take n),v,at_⟩::ts)
def YI (at_:Nat) (l:List UInt8):(Nat×Int)⊕List q8:=xW l.length at_ l
theorem zcH (l:List UInt8):Yt l≤l.length:=by
 unfold Yt
 split
 ·rename_i h
  unfold two at h
  match l with
  |[]=>simp at h
  |[a]=>simp at h
  |a::b::r=>simp
 ·match l with
  |[]=>simp
  |a::r=>simp only;split <;> simp
def Xn (m:Nat):Nx→Prop
 | .skip n=>1≤n∧n≤m
 | .tok _ n _=>1≤n∧n≤m
 | .err _=>True
theorem w7 {l:List UInt8}(h:l≠[]):Xn l.length (nxt l):=by
 match l,h with
 |c::r,_=>
  show Xn (c::r).length (if c.toNat=32∨c.toNat=10 then .skip 1 else if c.toNat=35 then .skip (ZS WM (c::r)) else if isD c then wl (c::r) else if isL c then Xd (c::r) else xx (c::r))
  split
  ·exact ⟨by omega,by simp⟩
  ·rename_i h1
   split
   ·rename_i h2
    refine ⟨?_,w6 _ _⟩
    rw [Yc]
    have:WM c=true:=by unfold WM;simp;omega
    simp [this]
   ·split
    ·rename_i hd
     unfold wl
     cases Xc (c::r) with
     |true=>trivial
     |false=>
      refine ⟨?_,w6 _ _⟩
      rw [Yc];simp [hd]
    ·split
     ·rename_i hl
      unfold Xd
      split
      ·trivial
      ·refine ⟨?_,w6 _ _⟩
       rw [Yc];simp [isW,hl]
     ·unfold xx
      split
      ·trivial
      ·exact ⟨by omega,zcH _⟩
theorem WN:∀ (f:Nat) (l:List UInt8) (at_:Nat) (g:Nat),l.length≤f→l.length≤g→xW f at_ l=xW g at_ l
 |0,l,at_,g,h,hg=>by
  have:l=[]:=List.eq_nil_of_length_eq_zero (by omega)
  subst this
  cases g <;> rfl
 |f+1,l,at_,g,h,hg=>by
  match l with
  |[]=>cases g <;> rfl
  |c::r=>
   match g,hg with
   |g+1,hg=>
    have hp:=w7 (l:=c::r) (by simp)
    unfold xW
    simp only [List.isEmpty_cons,Bool.false_eq_true,if_false]
    cases hn:nxt (c::r) with
    |err e=>rfl
    |skip n=>
     rw [hn] at hp
     simp only [Xn] at hp ⊢
     exact WN f _ _ g (by rw [List.length_drop];simp only [List.length_cons] at *;omega) (by rw [List.length_drop];simp only [List.length_cons] at *;omega)
    |tok k n v=>
     rw [hn] at hp
     simp only [Xn] at hp ⊢
     rw [WN f ((c::r).drop n) _ g (by rw [List.length_drop];simp only [List.length_cons] at *;omega) (by rw [List.length_drop];simp only [List.length_cons] at *;omega)]
theorem zbT (at_:Nat):YI at_ [] = .inr []:=rfl
theorem wA (at_:Nat) {l:List UInt8}(h:l≠[]):YI at_ l=match nxt l with
    | .skip n=>YI (at_+n) (l.drop n)
    | .err e =>.inl (at_,e)
    | .tok k n v=>match YI (at_+n) (l.drop n) with
      | .inl x =>.inl x
      | .inr ts =>.inr (⟨k,lit (l.take n),v,at_⟩::ts):=by
  match l,h with
  |c::r,_=>
    have hp:=w7 (l:=c::r) (by simp)
    unfold YI
    show xW (r.length+1) at_ (c::r)=_
    rw [xW]
    simp only [List.isEmpty_cons,Bool.false_eq_true,if_false]
    cases hn:nxt (c::r) with
    |err e=>rfl
    |skip n=>
      rw [hn] at hp
      simp only [Xn] at hp ⊢
      exact WN _ _ _ _ (by rw [List.length_drop];simp only [List.length_cons] at *;omega) (Nat.le_refl _)
    |tok k n v=>
      rw [hn] at hp
      simp only [Xn] at hp ⊢
      rw [WN r.length ((c::r).drop n) _ ((c::r).drop n).length (by rw [List.length_drop];simp only [List.length_cons] at *;omega) (Nat.le_refl _)]
end Go.Px
namespace Go.Px
set_option linter.unusedVariables false
set_option linter.unusedSimpArgs false
theorem zeg (p:UInt8→Bool):∀ l:List UInt8,l.take (ZS p l)=l.takeWhile p
 |[]=>rfl
 |c::l=>by
  rw [Yc,List.takeWhile_cons]
  cases p c with
  |true=>simp [zeg p l]
  |false=>simp
theorem zg6 (p:UInt8→Bool) (l:List UInt8):∀ c∈l.take (ZS p l),p c=true:=by
 rw [zeg]
 induction l with
 |nil=>simp
 |cons a l ih=>
  rw [List.takeWhile_cons]
  cases h:p a with
  |true=>simpa [h] using ih
  |false=>simp
theorem zbU {s:ByteArray}{i:Nat}{l:List UInt8}(h:(bs s).drop i=l) (hl:l≠[]):i < s.size∧l.length=s.size - i:=by
 subst h
 rw [List.length_drop,ZP]
 refine ⟨?_,rfl⟩
 rcases Nat.lt_or_ge i s.size with h | h
 ·exact h
 ·exact absurd (List.drop_eq_nil_of_le (by rw [ZP];exact h)) hl
theorem zaz {s:ByteArray}{i n:Nat}{l:List UInt8}(h:(bs s).drop i=l) (hl:l≠[]) (hn:n≤l.length):Zt s (i:Int) ((i+n:Nat):Int)=some (lit (l.take n)):=by
 obtain ⟨h1,h2⟩:=zbU h hl
 rw [W7 (by omega) (by omega)]
 congr 1
 apply zax
 rw [Vj,yc,← h,List.take_drop]
theorem zg7 {s:ByteArray}{i n:Nat}{l:List UInt8}(h:(bs s).drop i=l) {c:UInt8}(hc:l[n]?=some c):ZA s ((i+n:Nat):Int)=some (c.toNat:Int):=by
 apply Yz
 rw [← h,List.getElem?_drop] at hc
 exact hc
theorem Wr (l:List UInt8):(lit l).size=l.length:=by rw [← ZP,yc]
theorem zaA {M:Nat}(hM:M=18446744073709551615):∀ (l:List UInt8) (a:Nat),(∀ c∈l,isD c=true)→a≤M→Lib.parseUintM M a l=if W8 a l≤M then .ok (W8 a l) else .range
 |[],a,_,ha=>by rw [if_pos (show W8 a []≤M from ha)];rfl
 |c::r,a,h,ha=>by
  have hc:=h c (by simp)
  simp only [isD,Bool.and_eq_true,decide_eq_true_eq] at hc
  have hge:=zg5 r (a * 10+(c.toNat - 48))
  have e:W8 a (c::r)=W8 (a * 10+(c.toNat - 48)) r:=rfl
  rw [e]
  unfold Lib.parseUintM
  rw [if_pos hc]
  split
  ·rw [if_neg (by omega)]
  ·split
   ·rw [if_neg (by omega)]
   ·exact zaA hM r _ (fun x hx=>h x (by simp [hx])) (by omega)
theorem zj3 {l:List UInt8}(hl:l≠[]) (h:∀ c∈l,isD c=true):Lib.parseIntB 64 l=if yU l < 9223372036854775808 then .ok (yU l:Int) else .range:=by
 match l,hl with
 |c::r,_=>
  have hc:=h c (by simp)
  simp only [isD,Bool.and_eq_true,decide_eq_true_eq] at hc
  have e43:¬ (c.toNat=43∨c.toNat=45):=by omega
  have e45:¬ c.toNat=45:=by omega
  unfold Lib.parseIntB Lib.parseUintB
  simp only
  rw [if_neg e43,if_neg (by simp)]
  generalize hM:(2 ^ 64 - 1:Nat)=M
  generalize hB:(2 ^ (64 - 1):Nat)=B
  have hM:M=18446744073709551615:=by rw [← hM]
  have hB:B=9223372036854775808:=by rw [← hB]
  rw [zaA hM _ _ h (by omega)]
  simp only [e45,false_and,not_false_eq_true,true_and,if_false]
  show (match (if yU (c::r)≤M then Lib.NumEnd.ok (yU (c::r)) else .range) with
   | .syntax=>Lib.NumEnd.syntax
   | .range =>.range
   | .ok u=>if B≤u then .range else .ok (u:Int))=_
  by_cases h1:yU (c::r)≤M
  ·rw [if_pos h1]
   simp only
   by_cases h2:yU (c::r) < 9223372036854775808
   ·rw [if_pos h2,if_neg (by omega)]
   ·rw [if_neg h2,if_pos (by omega)]
  ·rw [if_neg h1,if_neg (by omega)]
abbrev tk0:q8:=⟨0,lit [],0,0⟩
theorem zj4 {s:ByteArray}{i:Nat}{c:UInt8}{r:List UInt8}(hs:s.size≤16384) (hl:(bs s).drop i=c::r) (hd:isD c=true) :
    q5j (s,(i:Int),((i+ZS isD (c::r):Nat):Int))=some (if Xc (c::r) then (tk0,12) else (⟨3,lit ((c::r).take (ZS isD (c::r))),(yU ((c::r).take (ZS isD (c::r))):Nat),i⟩,0)):=by
  obtain ⟨h1,h2⟩:=zbU hl (by simp)
  have hn:=w6 isD (c::r)
  have hn1:1≤ZS isD (c::r):=by rw [Yc];simp [hd]
  generalize hN:ZS isD (c::r)=n at *
  have hall:=zg6 isD (c::r)
  rw [hN] at hall
  have hne:(c::r).take n≠[]:=by
    match n,hn1 with
    |n+1,_=>simp
  have hlen:((c::r).take n).length=n:=by rw [List.length_take];omega
  have hhead:((c::r).take n)[0]?=some c:=by
    match n,hn1 with
    |n+1,_=>simp
  have hlast:∀ (X Y:Option (q8×Int)),(if decide (((i+n:Nat):Int) < (s.size:Int))=true then (ZA s ((i+n:Nat):Int)).bind fun y=>(q36 y).bind fun z=>if z=true then X else Y else Y)=if Vl (c::r)[n]?=true then X else Y:=by
    intro X Y
    by_cases hb:i+n < s.size
    · have:n < (c::r).length:=by omega
      have hg:=List.getElem?_eq_getElem this
      generalize (c::r)[n]=b at hg
      rw [zg7 hl hg,hg]
      simp only [decide_eq_true_eq,Option.bind_some,zay]
      rw [if_pos (Int.ofNat_lt.2 hb)]
      rfl
    · have:(c::r)[n]?=none:=List.getElem?_eq_none (by omega)
      rw [this]
      simp only [decide_eq_true_eq]
      rw [if_neg (fun h=>hb (Int.ofNat_lt.1 h))]
      rfl
  unfold q5j q83
  rw [show ((s,(i:Int),((i+n:Nat):Int)):ByteArray×Int×Int).fst=s from rfl]
  simp only
  rw [zaz hl (by simp) (by omega)]
  simp only [Option.bind_some,q5k,Xb,true_and]
  rw [if_pos (by rw [Wr,hlen];omega),show (lit ((c::r).take n)).data.toList=(c::r).take n from rfl,zj3 hne hall]
  by_cases hv:yU ((c::r).take n) < 9223372036854775808
  · rw [if_pos hv]
    simp only [Option.bind_some,Sum.elim_inl]
    unfold Xc
    rw [hN]
    by_cases h40:1099511627776 < yU ((c::r).take n)
    · simp only [decide_eq_true_eq]
      rw [if_pos (by omega)]
      simp [h40]
    · simp only [decide_eq_true_eq]
      rw [if_neg (by omega),Wr,hlen]
      have hl2:=hlast (some (q8.mk 0 (lit []) 0 0,12)) (some (q8.mk 3 (lit ((c::r).take n)) (yU ((c::r).take n):Nat) i,0))
      simp only [decide_eq_true_eq] at hl2
      have e0:ZA (lit ((c::r).take n)) 0=some (c.toNat:Int):=Yz (i:=0) hhead
      by_cases h1n:1 < n
      · rw [if_pos (by omega),e0]
        simp only [Option.bind_some]
        by_cases h48:c.toNat=48
        · rw [if_pos (by omega)]
          have:c=48:=UInt8.toNat_inj.1 (by simpa using h48)
          simp [h40,h1n,this]
        · rw [if_neg (by omega),hl2]
          have:¬ c=48:=fun h=>h48 (by rw [h];rfl)
          simp only [h40,h1n,this,decide_true,decide_false,List.head?_cons,Option.some.injEq,Bool.and_false,Bool.false_or]
          cases Vl (c::r)[n]? <;> rfl
      · rw [if_neg (by omega),hl2]
        simp only [h40,h1n,decide_false,Bool.false_and,Bool.false_or]
        cases Vl (c::r)[n]? <;> rfl
  · rw [if_neg hv]
    simp only [Option.bind_some,Sum.elim_inr]
    unfold Xc
    rw [hN]
    have h40:1099511627776 < yU ((c::r).take n):=by omega
    simp [h40]
theorem zm8 {s:ByteArray}{i:Nat}{l:List UInt8}{n:Nat}(hs:s.size≤16384) (hl:(bs s).drop i=l) (hne:l≠[]) (hn:n≤l.length) :
    q73 (s,(i:Int),((i+n:Nat):Int))=some (if 16 < n then (tk0,13) else (⟨if xm (l.take n) then 2 else 1,lit (l.take n),0,i⟩,0)):=by
  unfold q73 q9n
  simp only
  rw [zaz hl hne hn]
  have hlen:(l.take n).length=n:=by rw [List.length_take];omega
  simp only [Option.bind_some,Wr,hlen,decide_eq_true_eq,zm7]
  by_cases h:16 < n
  · rw [if_pos (by omega),if_pos h]
  · rw [if_neg (by omega),if_neg h]
    by_cases hk:xm (l.take n)=true
    · rw [if_pos hk,if_pos hk];rfl
    · rw [if_neg hk,if_neg hk];rfl
end Go.Px
namespace Go.Px
set_option linter.unusedVariables false
set_option linter.unusedSimpArgs false
theorem zaB (l:List UInt8) (a b:UInt8):q2q (lit l,lit [a,b])=some (decide (l.take 2=[a,b])):=by
 show ((q1b (lit l,lit [a,b])).bind fun y=>some y)=_
 unfold q1b
 simp only [Wr,List.length_cons,List.length_nil,decide_eq_true_eq]
 by_cases h:2≤l.length
 ·rw [if_pos (by omega)]
  have:Zt (lit l) 0 ((2:Nat):Int)=some (lit (l.take 2)):=by
   have:=zaz (s:=lit l) (i:=0) (n:=2) (l:=l) rfl (by intro e;subst e;simp at h) h
   simpa using this
  rw [show ((0+1+1:Nat):Int)=((2:Nat):Int) from rfl,this]
  simp only [Option.bind_some]
  congr 1
  refine decide_eq_decide.2 ⟨fun h=>?_,fun h=>by rw [h]⟩
  have:=congrArg bs h
  simpa [yc] using this
 ·rw [if_neg (by omega)]
  have:l.take 2≠[a,b]:=by
   intro e
   have:=congrArg List.length e
   rw [List.length_take] at this
   simp at this;omega
  simp [this]
theorem Ws:∀ (l:List UInt8) (c:UInt8),(0≤Lib.indexByte l c)↔l.contains c=true
 |[],c=>by simp [Lib.indexByte]
 |b::l,c=>by
  have ih:=Ws l c
  have hg:=Lib.indexByte_ge l c
  unfold Lib.indexByte
  by_cases h:b=c
  ·subst h;simp
  ·have h':(b == c)=false:=by simpa using h
   have h2:(c == b)=false:=by simpa using fun e=>h e.symm
   simp only [h',Bool.false_eq_true,if_false,List.contains_cons,h2,Bool.false_or]
   rw [← ih]
   by_cases e:Lib.indexByte l c = -1
   ·rw [if_pos (by simpa using e)];omega
   ·rw [if_neg (by simpa using e)];omega
theorem zm9 {l:List UInt8}(hne:l≠[]):q8j (lit l)=some (lit (l.take (Yt l))):=by
 show (lpO (q4g q2q q2r) (lit l,(lit [45,62],lit [60,61],lit [61,61]),0)).bind _=_
 have w1:IntKind.i64.wrap (0+1)=1:=by decide
 have w2:IntKind.i64.wrap (1+1)=2:=by decide
 have w3:IntKind.i64.wrap (2+1)=3:=by decide
 have g0:∀ A B C:ByteArray,wG [A,B,C] 0=some A:=fun _ _ _=>rfl
 have g1:∀ A B C:ByteArray,wG [A,B,C] 1=some B:=fun _ _ _=>rfl
 have g2:∀ A B C:ByteArray,wG [A,B,C] 2=some C:=fun _ _ _=>rfl
 have two_take:two l=true→l.take 2=[45,62]∨l.take 2=[60,61]∨l.take 2=[61,61]:=by
  intro h;simpa [two] using h
 have loop:lpO (q4g q2q q2r) (lit l,(lit [45,62],lit [60,61],lit [61,61]),0)=some (if two l then .inl (lit (l.take 2)) else .inr (lit l)):=by
  rw [zQ]
  simp only [q4g,zaB,Option.bind_some,g0,w1]
  by_cases h1:l.take 2=[45,62]
  ·simp [h1,two]
  ·simp only [h1,decide_false,Bool.false_eq_true,if_false,Option.bind_some]
   rw [show decide ((0:Int) < 3)=true from rfl]
   simp only [if_true,Option.bind_some]
   rw [zQ]
   simp only [q4g,zaB,Option.bind_some,g1,w2]
   rw [show decide ((1:Int) < 3)=true from rfl]
   by_cases h2:l.take 2=[60,61]
   ·simp [h2,two]
   ·simp only [h2,decide_false,Bool.false_eq_true,if_false,Option.bind_some,if_true]
    rw [zQ]
    simp only [q4g,zaB,Option.bind_some,g2,w3]
    rw [show decide ((2:Int) < 3)=true from rfl]
    by_cases h3:l.take 2=[61,61]
    ·simp [h3,two]
    ·simp only [h3,decide_false,Bool.false_eq_true,if_false,Option.bind_some,if_true]
     rw [zQ]
     simp only [q4g]
     rw [show decide ((3:Int) < 3)=false from rfl]
     simp [two,h1,h2,h3]
 rw [loop]
 unfold Yt
 by_cases ht:two l=true
 ·rw [if_pos ht,if_pos ht];rfl
 ·rw [if_neg ht,if_neg ht]
  match l,hne with
  |c::r,_=>
   have e0:ZA (lit (c::r)) 0=some (c.toNat:Int):=Yz (i:=0) rfl
   have e1:Zt (lit (c::r)) 0 1=some (lit [c]):=by
    have:=zaz (s:=lit (c::r)) (i:=0) (n:=1) (l:=c::r) rfl (by simp) (by simp)
    simpa using this
   simp only [Option.bind_some,Sum.elim_inr]
   rw [e0,e1]
   simp only [Option.bind_some,q2r,XT,Int.toNat_natCast]
   have hb:(0≤Lib.indexByte (lit [123,125,40,41,91,93,44,58,59,61,43,45,38,60]).data.toList c.toNat.toUInt8)↔sgn c=true:=by
    have:c.toNat.toUInt8=c:=by simp [Nat.toUInt8]
    rw [this]
    exact Ws _ c
   by_cases hs:sgn c=true
   ·rw [if_pos (decide_eq_true (hb.2 hs)),if_pos hs];rfl
   ·rw [if_neg (fun h=>hs (hb.1 (of_decide_eq_true h))),if_neg hs];rfl
noncomputable abbrev Vm:=q6e q4o q3y q5e q5j q36 q51 q73 q8j
theorem ziG {s:ByteArray}{i:Nat}{l:List UInt8}(hs:s.size≤16384) (hl:(bs s).drop i=l) (hne:l≠[]) (out:Sl q8) :
    Vm (s,(i:Int),out)=match nxt l with
      | .skip n=>some (.next (s,((i+n:Nat):Int),out))
      | .err e=>some (.done (.inl ((i:Int),e)))
      | .tok k n v=>(ZL 40 out [⟨k,lit (l.take n),v,i⟩]).bind fun o=>some (.next (s,((i+n:Nat):Int),o)):=by
  obtain ⟨h1,h2⟩:=zbU hl hne
  match l,hne with
  |c::r,_=>
    have hc:ZA s (i:Int)=some (c.toNat:Int):=zg7 (n:=0) hl rfl
    have hpos:=w7 (l:=c::r) (by simp)
    simp only [Vm,q6e]
    rw [if_pos (decide_eq_true (Int.ofNat_lt.2 h1)),hc]
    simp only [Option.bind_some]
    have e32:((c.toNat:Int)=32)↔c.toNat=32:=by omega
    have e10:((c.toNat:Int)=10)↔c.toNat=10:=by omega
    have e35:((c.toNat:Int)=35)↔c.toNat=35:=by omega
    have rest:∀ (k:Int) (n:Nat) (v:Int),n≤(c::r).length→(ZL 40 out [⟨k,lit ((c::r).take n),v,i⟩]).bind (fun o=>some (Step.next (β:=Int×Int⊕ByteArray×Sl q8) (s,IntKind.i64.wrap ((i:Int)+((lit ((c::r).take n)).size:Int)),o)))=(ZL 40 out [⟨k,lit ((c::r).take n),v,i⟩]).bind fun o=>some (.next (s,((i+n:Nat):Int),o)):=by
      intro k n v hn
      have hz:(lit ((c::r).take n)).size=n:=by rw [Wr,List.length_take];omega
      rw [hz,zlm (by omega)]
    unfold nxt at hpos ⊢
    simp only at hpos ⊢
    by_cases hb:c.toNat=32∨c.toNat=10
    · rw [if_pos hb]
      simp only
      rcases hb with hb | hb
      · rw [if_pos (decide_eq_true (e32.2 hb))]
        simp [yi (n:=i) (by omega)]
      · have:¬ c.toNat=32:=by omega
        rw [if_neg (fun h=>this (e32.1 (of_decide_eq_true h)))]
        simp only [Option.bind_some,decide_eq_true_eq]
        rw [if_pos (e10.2 hb)]
        simp [yi (n:=i) (by omega)]
    · rw [if_neg hb] at hpos ⊢
      have n32:¬ c.toNat=32:=fun h=>hb (.inl h)
      have n10:¬ c.toNat=10:=fun h=>hb (.inr h)
      rw [if_neg (fun h=>n32 (e32.1 (of_decide_eq_true h)))]
      simp only [Option.bind_some,decide_eq_true_eq]
      rw [if_neg (fun h=>n10 (e10.1 h))]
      by_cases h35:c.toNat=35
      · rw [if_pos (e35.2 h35),if_pos h35,zj2 (by omega) (by omega),hl]
        simp
      · rw [if_neg (fun h=>h35 (e35.1 h))]
        rw [if_neg h35] at hpos ⊢
        simp only [zbS,zay,Option.bind_some]
        by_cases hd:isD c=true
        · rw [if_pos hd] at hpos
          rw [if_pos hd,if_pos hd,zj1 (by omega) (by omega),hl]
          simp only [Option.bind_some]
          rw [zj4 hs hl hd]
          unfold wl at hpos ⊢
          by_cases hbad:Xc (c::r)=true
          · rw [if_pos hbad,if_pos hbad]
            simp
          · rw [if_neg hbad] at hpos
            rw [if_neg hbad,if_neg hbad]
            simp only [Xn] at hpos
            simp only [Option.bind_some,Sum.elim_inr,ne_eq,not_true_eq_false,if_false,Option.bind_assoc,Sum.elim_inl]
            exact rest _ _ _ hpos.2
        · rw [if_neg hd] at hpos
          rw [if_neg hd,if_neg hd]
          by_cases hL:isL c=true
          · rw [if_pos hL] at hpos
            rw [if_pos hL,if_pos hL,ziF (by omega) (by omega),hl]
            simp only [Option.bind_some]
            rw [zm8 hs hl (by simp) (w6 _ _)]
            unfold Xd at hpos ⊢
            by_cases h16:16 < ZS isW (c::r)
            · rw [if_pos h16,if_pos h16]
              simp
            · rw [if_neg h16] at hpos
              rw [if_neg h16,if_neg h16]
              simp only [Xn] at hpos
              simp only [Option.bind_some,Sum.elim_inr,ne_eq,not_true_eq_false,if_false,Option.bind_assoc,Sum.elim_inl]
              exact rest _ _ _ hpos.2
          · rw [if_neg hL] at hpos
            rw [if_neg hL,if_neg hL]
            have hcut:Zt s (i:Int) (s.size:Int)=some (lit (c::r)):=by
              have:=zaz (n:=(c::r).length) hl (by simp) (Nat.le_refl _)
              rw [List.take_length] at this
              rw [← this];congr 1;omega
            rw [hcut]
            simp only [Option.bind_some]
            rw [zm9 (by simp)]
            simp only [Option.bind_some,decide_eq_true_eq]
            unfold xx at hpos ⊢
            by_cases h0:Yt (c::r)=0
            · rw [if_pos h0,if_pos (by rw [h0];rfl)]
              simp
            · rw [if_neg h0] at hpos
              have hx:¬ lit ((c::r).take (Yt (c::r)))=lit []:=by
                intro e
                have:=congrArg (fun x=>(bs x).length) e
                simp only [yc] at this
                rw [List.length_take] at this
                have:=zcH (c::r)
                simp only [List.length_nil] at *;omega
              rw [if_neg h0,if_neg hx]
              simp only [Xn] at hpos
              simp only [Option.bind_some,Sum.elim_inr,ne_eq,not_true_eq_false,if_false,Option.bind_assoc,Sum.elim_inl]
              exact rest _ _ _ hpos.2
theorem zlr {s:ByteArray}(hs:s.size≤16384):∀ (n i:Nat) (acc:List q8) (nn:Bool),s.size - i≤n→i≤s.size→acc.length≤i→
    lpO Vm (s,(i:Int),⟨acc,nn⟩)=some (match YI i ((bs s).drop i) with
      | .inl x =>.inl ((x.1:Int),x.2)
      | .inr ts =>.inr (s,⟨acc++ts,nn || !ts.isEmpty⟩)):=by
  intro n
  induction n with
  |zero=>
    intro i acc nn hn hi ha
    have:i=s.size:=by omega
    subst this
    rw [zQ]
    have hd:(bs s).drop s.size=[]:=List.drop_eq_nil_of_le (by rw [ZP];exact Nat.le_refl _)
    rw [hd,zbT]
    simp [Vm,q6e]
  |succ n ih=>
    intro i acc nn hn hi ha
    rcases Nat.lt_or_ge i s.size with hlt | hge
    · have hne:(bs s).drop i≠[]:=by
        intro e
        have:=congrArg List.length e
        rw [List.length_drop,ZP] at this
        simp at this;omega
      have hp:=w7 hne
      have hlen:((bs s).drop i).length=s.size - i:=by rw [List.length_drop,ZP]
      rw [zQ,ziG hs rfl hne,wA _ hne]
      cases hx:nxt ((bs s).drop i) with
      |err e=>rfl
      |skip k=>
        rw [hx] at hp
        simp only [Xn] at hp
        simp only [Option.bind_some,List.drop_drop]
        rw [ih (i+k) acc nn (by omega) (by omega) (by omega)]
      |tok k m v=>
        rw [hx] at hp
        simp only [Xn] at hp
        simp only [List.drop_drop]
        rw [XA (by simp only [List.length_cons,List.length_nil];omega) (by simp only [List.length_cons,List.length_nil];omega)]
        simp only [Option.bind_some]
        rw [ih (i+m) _ _ (by omega) (by omega) (by simp only [List.length_append,List.length_cons,List.length_nil];omega)]
        cases YI (i+m) ((bs s).drop (i+m)) with
        |inl x=>rfl
        |inr ts=>simp
    · have:i=s.size:=by omega
      exact ih i acc nn (by omega) hi ha
def yP (s:ByteArray):Int×Int×Sl q8:=if 16384 < s.size then (0,10,⟨[],false⟩) else match YI 0 (bs s) with
 | .inl x=>((x.1:Int),x.2,⟨[],false⟩)
 | .inr ts=>(0,0,⟨ts++[⟨0,lit [],0,s.size⟩],true⟩)
theorem Vn:∀ (m:Nat) (l:List UInt8) (i:Nat) (ts:List q8),l.length≤m→YI i l = .inr ts→ts.length≤l.length
 |0,l,i,ts,hm,h=>by
  have:l=[]:=List.eq_nil_of_length_eq_zero (by omega)
  subst this
  rw [zbT] at h;cases h;simp
 |m+1,l,i,ts,hm,h=>by
  by_cases hne:l=[]
  ·subst hne
   rw [zbT] at h;cases h;simp
  ·have hp:=w7 hne
   rw [wA _ hne] at h
   cases hx:nxt l with
   |err e=>rw [hx] at h;cases h
   |skip k=>
    rw [hx] at h hp
    simp only [Xn] at hp
    have:=Vn m _ _ _ (by rw [List.length_drop];omega) h
    rw [List.length_drop] at this;omega
   |tok k n v=>
    rw [hx] at h hp
    simp only [Xn] at hp
    simp only at h
    cases hr:YI (i+n) (l.drop n) with
    |inl x=>rw [hr] at h;cases h
    |inr us=>
     rw [hr] at h
     cases h
     have:=Vn m _ _ _ (by rw [List.length_drop];omega) hr
     rw [List.length_drop] at this
     simp only [List.length_cons];omega
theorem zj5 (s:ByteArray):q4q s=some (yP s):=by
 unfold q4q q84 yP
 simp only [decide_eq_true_eq]
 by_cases h:16384 < s.size
 ·rw [if_pos (by omega),if_pos h];rfl
 ·rw [if_neg (by omega),if_neg h]
  have:=zlr (s:=s) (by omega) s.size 0 [] false (by omega) (by omega) (by simp)
  rw [List.drop_zero] at this
  rw [show ((s,0,Sl.mk [] false):ByteArray×Int×Sl q8)=(s,((0:Nat):Int),⟨[],false⟩) from rfl,this]
  cases hx:YI 0 (bs s) with
  |inl x=>rfl
  |inr ts=>
   have hl:=Vn _ _ _ _ (Nat.le_refl _) hx
   rw [ZP] at hl
   simp only [Option.bind_some,Sum.elim_inr,List.nil_append,Bool.false_or]
   rw [XA (by simp only [List.length_cons,List.length_nil];omega) (by simp only [List.length_cons,List.length_nil];omega)]
   simp
end Go.Px
namespace Go.Px
set_option linter.unusedVariables false
set_option linter.unusedSimpArgs false
abbrev Tk:=q8
abbrev Nd:=q9
abbrev zq {α:Type}:Sl α:=⟨[],false⟩
def hd:List Tk→Tk
 |[]=>⟨0,lit [],0,0⟩
 |t::_=>t
abbrev PR (α:Type):=Except (Int×Int) (α×List Tk)
def PR.bd {α β:Type}(r:PR α) (f:α→List Tk→PR β):PR β:=match r with
 | .error e =>.error e
 | .ok (a,ts)=>f a ts
def isP (s:List UInt8) (ts:List Tk):Bool:=(decide ((hd ts).Kind_=2) || decide ((hd ts).Kind_=4)) && decide ((hd ts).Text_=lit s)
def XU {α:Type}(e:Int) (ts:List Tk):PR α :=.error ((hd ts).At_,e)
def Zb (s:List UInt8) (ts:List Tk):PR Unit:=if isP s ts=true then .ok ((),ts.tail) else XU 20 ts
def xn (k:Int) (ts:List Tk):PR Tk:=if (hd ts).Kind_=k then .ok (hd ts,ts.tail) else XU 20 ts
def Zm (ts:List Tk):PR Nd:=(xn 1 ts).bd fun t ts =>.ok (⟨5,t.Text_,0,t.At_,zq⟩,ts)
def Yu (sg:Int) (ts:List Tk):PR Int:=(xn 3 ts).bd fun t ts =>.ok (sg * t.Num_,ts)
def Nd.num (n:Nd) (v:Int):Nd:=⟨n.Kind_,n.Text_,v,n.At_,n.Kids_⟩
def Y2 (n:Nd) (ts:List Tk):PR Nd:=
 if isP [43] ts=true then (Yu 1 ts.tail).bd fun v ts =>.ok (Nd.num n v,ts)
 else if isP [45] ts=true then (Yu (-1) ts.tail).bd fun v ts =>.ok (Nd.num n v,ts)
 else .ok (n,ts)
def Z2 (ts:List Tk):PR Nd:=
 if (hd ts).Kind_=3 then (Yu 1 ts).bd fun v t1 =>.ok (⟨5,lit [],v,(hd ts).At_,zq⟩,t1)
 else if isP [45] ts=true then (Yu (-1) ts.tail).bd fun v t1 =>.ok (⟨5,lit [],v,(hd ts).At_,zq⟩,t1)
 else (Zm ts).bd Y2
def Wt (ts:List Tk):PR ByteArray:=
 if isP [60] ts=true then .ok (lit [60],ts.tail) else if isP [60,61] ts=true then .ok (lit [60,61],ts.tail) else if isP [61,61] ts=true then .ok (lit [61,61],ts.tail) else XU 20 ts
def yj (one:List Tk→PR Nd):Nat→List Nd→List Tk→PR (List Nd)
 |0,acc,ts =>.ok (acc,ts)
 |k+1,acc,ts=>if isP [44] ts=true then (one ts.tail).bd fun a ts=>yj one k (acc++[a]) ts else .ok (acc,ts)
def yp (one:List Tk→PR Nd) (ts:List Tk):PR (List Nd):=(one ts).bd fun a t1=>yj one ts.length [a] t1
def wm (ts:List Tk):PR (Sl Nd):=(Zb [40] ts).bd fun _ t1=>
 if isP [41] t1=true then .ok (zq,t1.tail) else (yp Z2 t1).bd fun l t2=>(Zb [41] t2).bd fun _ t3 =>.ok (⟨l,true⟩,t3)
def Xj (ts:List Tk):PR Nd:=
 if isP [111,119,110] ts=true then .ok (⟨2,(hd ts).Text_,0,(hd ts).At_,zq⟩,ts.tail)
 else if isP [99,101,108,108] ts=true then .ok (⟨2,(hd ts).Text_,0,(hd ts).At_,zq⟩,ts.tail)
 else if isP [99,111,117,110,116,101,100] ts=true then (Zm ts.tail).bd fun k t1 =>.ok (⟨2,(hd ts).Text_,0,(hd ts).At_,⟨[k],true⟩⟩,t1)
 else if isP [108,111,99,107] ts=true then (Zm ts.tail).bd fun k t1 =>.ok (⟨2,(hd ts).Text_,0,(hd ts).At_,⟨[k],true⟩⟩,t1)
 else if isP [103,117,97,114,100] ts=true then (Zm ts.tail).bd fun k t1 =>.ok (⟨2,(hd ts).Text_,0,(hd ts).At_,⟨[k],true⟩⟩,t1)
 else XU 20 ts
def Yi (ts:List Tk):PR Nd:=(Zm ts).bd fun n t1=>
 if isP [91] t1=true then (Zm t1.tail).bd fun k t2=>(Zb [93] t2).bd fun _ t3 =>.ok (⟨3,n.Text_,n.Num_,n.At_,⟨[k],true⟩⟩,t3)
 else .ok (⟨3,n.Text_,n.Num_,n.At_,zq⟩,t1)
def YA (ts:List Tk):PR Nd:=(Z2 ts).bd fun a t1=>(Wt t1).bd fun op t2=>(Z2 t2).bd fun b t3 =>.ok (⟨4,op,0,a.At_,⟨[a,b],true⟩⟩,t3)
def Vo (at_:Int) (ts:List Tk):PR Nd:=(Zm ts).bd fun n t1=>(Xj t1).bd fun s t2=>
 (if isP [123] t2=true then (yp Yi t2.tail).bd fun l t3=>(Zb [125] t3).bd fun _ t4 =>.ok ([s]++l,t4) else .ok ([s],t2):PR (List Nd)).bd fun ks t5=>
 (if isP [119,104,101,114,101] t5=true then (yp YA t5.tail).bd fun l t6 =>.ok (ks++l,t6) else .ok (ks,t5):PR (List Nd)).bd fun ks t7=>
 (Zb [59] t7).bd fun _ t8 =>.ok (⟨1,n.Text_,n.Num_,at_,⟨ks,true⟩⟩,t8)
def YB (ts:List Tk):PR Nd:=
 if isP [105,110,116] ts=true then .ok (⟨8,(hd ts).Text_,0,(hd ts).At_,zq⟩,ts.tail)
 else if isP [111,119,110] ts=true then (Zm ts.tail).bd fun k t1 =>.ok (⟨8,(hd ts).Text_,0,(hd ts).At_,⟨[k],true⟩⟩,t1)
 else (Zb [38] ts).bd fun _ t1=>
  if isP [109,117,116] t1=true then (Zm t1.tail).bd fun k t2 =>.ok (⟨8,lit [38,109,117,116],0,(hd ts).At_,⟨[k],true⟩⟩,t2)
  else (Zm t1).bd fun k t2 =>.ok (⟨8,(hd ts).Text_,0,(hd ts).At_,⟨[k],true⟩⟩,t2)
def YC (ts:List Tk):PR Nd:=(Zm ts).bd fun n t1=>(Zb [58] t1).bd fun _ t2=>(YB t2).bd fun m t3 =>.ok (⟨7,n.Text_,n.Num_,n.At_,⟨[m],true⟩⟩,t3)
def atP (k:Int) (ts:List Tk):PR Nd:=(Zm ts).bd fun n t1=>(Zb [91] t1).bd fun _ t2=>(Yu 1 t2).bd fun v t3=>(Zb [93] t3).bd fun _ t4 =>.ok (⟨k,n.Text_,v,n.At_,zq⟩,t4)
def yX (ts:List Tk):PR Nd:=
 if isP [110,101,119] ts=true then (Yu 1 ts.tail).bd fun v t1 =>.ok (⟨23,lit [],v,(hd ts).At_,zq⟩,t1)
 else if isP [97,114,114,97,121] ts=true then (Zm ts.tail).bd fun k t1 =>.ok (⟨24,k.Text_,0,(hd ts).At_,zq⟩,t1)
 else if isP [38] ts=true then
  (if isP [109,117,116] ts.tail=true then (Zm ts.tail.tail).bd fun k t1 =>.ok (⟨27,k.Text_,0,(hd ts).At_,zq⟩,t1) else (Zm ts.tail).bd fun k t1 =>.ok (⟨26,k.Text_,0,(hd ts).At_,zq⟩,t1))
 else if (hd ts).Kind_≠1 then Z2 ts
 else (Zm ts).bd fun n t1=>
  if isP [40] t1=true then (wm t1).bd fun ks t2 =>.ok (⟨28,n.Text_,n.Num_,n.At_,ks⟩,t2)
  else if isP [91] t1=true then (Z2 t1.tail).bd fun a t2=>(Zb [93] t2).bd fun _ t3 =>.ok (⟨25,n.Text_,n.Num_,n.At_,⟨[a],true⟩⟩,t3)
  else if isP [43] t1=true∧(hd t1.tail).Kind_=1 then (Zm t1.tail).bd fun b t2 =>.ok (⟨21,lit [],0,n.At_,⟨[n,b],true⟩⟩,t2)
  else if isP [45] t1=true∧(hd t1.tail).Kind_=1 then (Zm t1.tail).bd fun b t2 =>.ok (⟨22,lit [],0,n.At_,⟨[n,b],true⟩⟩,t2)
  else Y2 n t1
def xa (n:Nd) (ts:List Tk):PR Nd:=
 if isP [40] ts=true then (wm ts).bd fun ks t1 =>.ok (⟨20,lit [],0,n.At_,⟨[⟨28,n.Text_,n.Num_,n.At_,ks⟩],true⟩⟩,t1)
 else if isP [91] ts=true then (Z2 ts.tail).bd fun a t1=>(Zb [93] t1).bd fun _ t2=>(Zb [61] t2).bd fun _ t3=>(Z2 t3).bd fun b t4 =>.ok (⟨11,n.Text_,n.Num_,n.At_,⟨[a,b],true⟩⟩,t4)
 else (Zb [61] ts).bd fun _ t1=>(yX t1).bd fun e t2 =>.ok (⟨10,n.Text_,n.Num_,n.At_,⟨[e],true⟩⟩,t2)
def Xo (n:Nd) (ts:List Tk):PR Nd:=(Zb [59] ts).bd fun _ t1 =>.ok (n,t1)
def xJ (blk:List Tk→PR Nd) (k at_:Int) (ts:List Tk):PR Nd:=(YA ts).bd fun n t1=>(blk t1).bd fun b t2 =>.ok (⟨k,n.Text_,n.Num_,at_,⟨n.Kids_.xs++[b],true⟩⟩,t2)
def ZQ (blk:List Tk→PR Nd) (ts:List Tk):PR Nd:=
 if isP [102,114,101,101] ts=true then (Zm ts.tail).bd fun n t1=>Xo ⟨12,n.Text_,n.Num_,(hd ts).At_,zq⟩ t1
 else if isP [108,111,99,107] ts=true then (atP 13 ts.tail).bd fun n t1=>Xo ⟨n.Kind_,n.Text_,n.Num_,(hd ts).At_,zq⟩ t1
 else if isP [117,110,108,111,99,107] ts=true then (atP 14 ts.tail).bd fun n t1=>Xo ⟨n.Kind_,n.Text_,n.Num_,(hd ts).At_,zq⟩ t1
 else if isP [105,102] ts=true then (xJ blk 15 (hd ts).At_ ts.tail).bd fun n t1=>
  if isP [101,108,115,101] t1=true then (blk t1.tail).bd fun b t2 =>.ok (⟨n.Kind_,n.Text_,n.Num_,n.At_,⟨n.Kids_.xs++[b],true⟩⟩,t2)
  else .ok (⟨n.Kind_,n.Text_,n.Num_,n.At_,⟨n.Kids_.xs++[⟨9,lit [],0,(hd ts).At_,zq⟩],true⟩⟩,t1)
 else if isP [119,104,105,108,101] ts=true then xJ blk 16 (hd ts).At_ ts.tail
 else if isP [114,101,116,117,114,110] ts=true then
  (if isP [59] ts.tail=true then Xo ⟨17,lit [],0,(hd ts).At_,zq⟩ ts.tail else (Z2 ts.tail).bd fun a t1=>Xo ⟨17,lit [],0,(hd ts).At_,⟨[a],true⟩⟩ t1)
 else if isP [97,98,111,114,116] ts=true then Xo ⟨18,lit [],0,(hd ts).At_,zq⟩ ts.tail
 else if isP [102,111,114,107] ts=true then (Zm ts.tail).bd fun n t1=>(wm t1).bd fun ks t2=>Xo ⟨19,n.Text_,n.Num_,(hd ts).At_,ks⟩ t2
 else (Zm ts).bd fun n t1=>(xa n t1).bd Xo
def Yj (one:List Tk→PR Nd):Nat→List Nd→List Tk→PR (List Nd)
 |0,acc,ts=>XU 20 ts
 |k+1,acc,ts=>if isP [125] ts=true then .ok (acc,ts.tail) else (one ts).bd fun a t1=>Yj one k (acc++[a]) t1
def mkS {α:Type}(l:List α):Sl α:=⟨l, !l.isEmpty⟩
def yE:Nat→List Tk→PR Nd
 |0,ts=>if isP [123] ts=true then XU 21 ts else XU 20 ts
 |r+1,ts=>(Zb [123] ts).bd fun _ t1=>(Yj (ZQ (yE r)) t1.length [] t1).bd fun l t2 =>.ok (⟨9,lit [],0,(hd ts).At_,mkS l⟩,t2)
def fnP (at_:Int) (ts:List Tk):PR Nd:=(Zm ts).bd fun n t1=>(Zb [40] t1).bd fun _ t2=>
 (if isP [41] t2=true then .ok ([],t2) else yp YC t2:PR (List Nd)).bd fun ps t3=>(Zb [41] t3).bd fun _ t4=>
 (if isP [45,62] t4=true then (if isP [38] t4.tail=true then XU 20 t4.tail else YB t4.tail) else .ok (⟨8,lit [],0,(hd t4).At_,zq⟩,t4):PR Nd).bd fun ret t5=>
 (yE 8 t5).bd fun b t6 =>.ok (⟨6,n.Text_,n.Num_,at_,⟨ps++[ret,b],true⟩⟩,t6)
def yF:Nat→List Nd→List Tk→PR (List Nd)
 |0,acc,ts=>XU 20 ts
 |k+1,acc,ts=>if (hd ts).Kind_=0 then .ok (acc,ts)
  else if isP [102,110] ts=true then (fnP (hd ts).At_ ts.tail).bd fun a t1=>yF k (acc++[a]) t1
  else (Zb [116,121,112,101] ts).bd fun _ t1=>(Vo (hd ts).At_ t1).bd fun a t2=>yF k (acc++[a]) t2
structure TGood (ts:List Tk):Prop where
 ne:ts≠[]
 last:∀ h:ts≠[],(ts.getLast h).Kind_=0
 len:ts.length≤20000
 num:∀ t∈ts,0≤t.Num_∧t.Num_≤1099511627776
theorem TGood.tail {ts:List Tk}(g:TGood ts) (h:(hd ts).Kind_≠0):TGood ts.tail:=by
 match ts,g,h with
 |[],g,_=>exact absurd rfl g.ne
 |[t],g,h=>exact absurd (g.last (by simp)) h
 |t::u::r,g,h=>
  refine ⟨by simp,fun _=>?_,?_,fun x hx=>g.num x (List.mem_cons_of_mem _ hx)⟩
  ·have:=g.last (by simp)
   rw [List.getLast_cons (by simp)] at this
   exact this
  ·have:=g.len;simp only [List.tail_cons,List.length_cons] at this ⊢;omega
theorem TGood.hd_idx {ts:List Tk}(g:TGood ts) (b:Bool):zt (⟨ts,b⟩:Sl Tk) 0=some (hd ts):=by
 match ts,g with
 |[],g=>exact absurd rfl g.ne
 |t::r,_=>rfl
theorem TGood.tl {ts:List Tk}(g:TGood ts) (b:Bool):zV (⟨ts,b⟩:Sl Tk) 1 (Sl.len (⟨ts,b⟩:Sl Tk))=some ⟨ts.tail,b⟩:=by
 match ts,g with
 |[],g=>exact absurd rfl g.ne
 |t::r,_=>
  unfold zV
  rw [if_pos ⟨by omega,by simp [Sl.len];omega,by simp [Sl.len]⟩]
  simp [Sl.len]
theorem zfw {s:List UInt8}{ts:List Tk}(h:isP s ts=true):(hd ts).Kind_≠0:=by
 unfold isP at h
 simp only [Bool.and_eq_true,Bool.or_eq_true,decide_eq_true_eq] at h
 omega
theorem TGood.is {s:List UInt8}{ts:List Tk}(g:TGood ts) (h:isP s ts=true):TGood ts.tail:=g.tail (zfw h)
theorem TGood.tail_len {ts:List Tk}(g:TGood ts):ts.tail.length+1=ts.length:=by
 match ts,g with
 |[],g=>exact absurd rfl g.ne
 |t::r,_=>simp
abbrev PSt:=Sl q8×Int
def Sm {α β:Type}(d:Int) (n:Nat) (r:PR α) (m:Option β) (er:(Int×Int)×PSt→β) (ok:α→PSt→β):Prop:=match r with
 | .error e=>∃ st,m=some (er (e,st))
 | .ok (a,ts)=>m=some (ok a (⟨ts,true⟩,d))∧TGood ts∧ts.length≤n
theorem Sm.bd {α β γ δ:Type}{d:Int}{n n':Nat}{r:PR α}{f:α→List Tk→PR γ}{m:Option β}{K:β→Option δ}{er:(Int×Int)×PSt→β}{ok:α→PSt→β}{er':(Int×Int)×PSt→δ}{ok':γ→PSt→δ}
    (h:Sm d n r m er ok) (he:∀ e,K (er e)=some (er' e)) (hk:∀ a ts,r = .ok (a,ts)→TGood ts→ts.length≤n→Sm d n' (f a ts) (K (ok a (⟨ts,true⟩,d))) er' ok'):Sm d n' (r.bd f) (m.bind K) er' ok':=by
  cases r with
  |error e=>
    obtain ⟨st,rfl⟩:=h
    exact ⟨st,he _⟩
  |ok p=>
    obtain ⟨a,ts⟩:=p
    obtain ⟨rfl,g,l⟩:=h
    exact hk a ts rfl g l
theorem Sm.ok {α β:Type}{d:Int}{n:Nat}{a:α}{ts:List Tk}{m:Option β}{er:(Int×Int)×PSt→β}{ok:α→PSt→β}(g:TGood ts) (l:ts.length≤n) (h:m=some (ok a (⟨ts,true⟩,d))):Sm d n (.ok (a,ts)) m er ok:=⟨h,g,l⟩
theorem Sm.mono {α β:Type}{d:Int}{n n':Nat}{r:PR α}{m:Option β}{er:(Int×Int)×PSt→β}{ok:α→PSt→β}(h:Sm d n r m er ok) (l:n≤n'):Sm d n' r m er ok:=by
 cases r with
 |error e=>exact h
 |ok p=>exact ⟨h.1,h.2.1,Nat.le_trans h.2.2 l⟩
variable {d:Int}{n:Nat}{ts:List Tk}
theorem ZK (g:TGood ts):qc (⟨ts,true⟩,d)=some (hd ts,⟨ts,true⟩,d):=by
 show ((zt (⟨ts,true⟩:Sl Tk) 0).bind fun y0=>some (y0,((⟨ts,true⟩:Sl Tk),d)))=_
 rw [g.hd_idx];rfl
theorem YL (g:TGood ts) (s:List UInt8):qk (lit s,⟨ts,true⟩,d)=some (isP s ts,⟨ts,true⟩,d):=by
 show ((qc (⟨ts,true⟩,d)).bind _)=_
 rw [ZK g,Option.bind_some]
 simp only [decide_eq_true_eq]
 unfold isP
 by_cases h2:(hd ts).Kind_=2
 ·rw [if_pos h2];simp [h2]
 ·rw [if_neg h2]
  by_cases h4:(hd ts).Kind_=4
  ·rw [if_pos h4];simp [h4]
  ·rw [if_neg h4];simp [h2,h4]
theorem zY (g:TGood ts) (s:List UInt8):qb (lit s,⟨ts,true⟩,d)=some (isP s ts,if isP s ts=true then (⟨ts.tail,true⟩,d) else (⟨ts,true⟩,d)):=by
 show ((qk (lit s,⟨ts,true⟩,d)).bind _)=_
 rw [YL g,Option.bind_some]
 cases h:isP s ts with
 |false=>rfl
 |true=>
  simp only [Bool.not_true,Bool.false_eq_true,if_false,if_true]
  rw [g.tl];rfl
theorem w8 (g:TGood ts) (e:Int):qh (e,⟨ts,true⟩,d)=some (((hd ts).At_,e),⟨ts,true⟩,d):=by
 show ((qc (⟨ts,true⟩,d)).bind _)=_
 rw [ZK g];rfl
theorem vz {α β:Type}(g:TGood ts) {s:List UInt8}{K:Bool×PSt→Option β}{p q:PR α}{er:(Int×Int)×PSt→β}{ok:α→PSt→β}(h1:isP s ts=true→TGood ts.tail→ts.tail.length+1=ts.length→Sm d n p (K (true,⟨ts.tail,true⟩,d)) er ok)
    (h0:isP s ts=false→Sm d n q (K (false,⟨ts,true⟩,d)) er ok):Sm d n (if isP s ts=true then p else q) ((qb (lit s,⟨ts,true⟩,d)).bind K) er ok:=by
  rw [zY g,Option.bind_some]
  cases h:isP s ts with
  |true=>simp only [if_true];exact h1 h (g.is h) g.tail_len
  |false=>simp only [Bool.false_eq_true,if_false];exact h0 h
theorem Zz (g:TGood ts) (s:List UInt8):Sm d (ts.length - 1) (Zb s ts) (qd (lit s,⟨ts,true⟩,d)) Sum.inl (fun _ st=>Sum.inr st):=by
 show Sm d _ _ ((qb (lit s,⟨ts,true⟩,d)).bind _) _ _
 unfold Zb
 refine vz g (fun h g1 l=>?_) fun h=>?_
 ·exact .ok g1 (by omega) rfl
 ·refine ⟨(⟨ts,true⟩,d),?_⟩
  show ((qh (20,⟨ts,true⟩,d)).bind _)=_
  rw [w8 g];rfl
theorem zg8 (g:TGood ts) (k:Int) (hk:k≠0):Sm d (ts.length - 1) (xn k ts) (q1r (k,⟨ts,true⟩,d)) Sum.inl (fun t st=>Sum.inr (t,st)):=by
 show Sm d _ _ ((qc (⟨ts,true⟩,d)).bind _) _ _
 rw [ZK g,Option.bind_some]
 unfold xn
 simp only [decide_eq_true_eq]
 by_cases h:(hd ts).Kind_=k
 ·rw [if_pos h,if_neg (by simpa using h),g.tl]
  exact .ok (g.tail (by omega)) (by have:=g.tail_len;omega) rfl
 ·rw [if_neg h,if_pos h,w8 g]
  exact ⟨_,rfl⟩
theorem zj6 {ts t1:List Tk}{t:Tk}{k:Int}(g:TGood ts) (h:xn k ts = .ok (t,t1)):0≤t.Num_∧t.Num_≤1099511627776:=by
 unfold xn at h
 split at h
 ·cases h
  match ts,g with
  |[],g=>exact absurd rfl g.ne
  |t::r,g=>exact g.num t (by simp [hd])
 ·cases h
def ndT (n:Nd):Int×ByteArray×Int×Int:=(n.Kind_,n.Text_,n.Num_,n.At_)
theorem ZX (g:TGood ts):Sm d (ts.length - 1) (Zm ts) (qe (⟨ts,true⟩,d)) Sum.inl (fun n st=>Sum.inr (ndT n,st)):=by
 show Sm d _ _ ((q1r (1,⟨ts,true⟩,d)).bind _) _ _
 exact (zg8 g 1 (by omega)).bd (fun e=>rfl) fun t t1 _ g1 l =>.ok g1 l rfl
theorem xK (g:TGood ts) (sg:Int) (hs:sg=1∨sg = -1):Sm d (ts.length - 1) (Yu sg ts) (q1e (sg,⟨ts,true⟩,d)) Sum.inl (fun v st=>Sum.inr (v,st)):=by
 show Sm d _ _ ((q1r (3,⟨ts,true⟩,d)).bind _) _ _
 refine (zg8 g 3 (by omega)).bd (fun e=>rfl) fun t t1 ht g1 l =>.ok g1 l ?_
 have:=zj6 g ht
 show some (Sum.inr (IntKind.i64.wrap (sg * t.Num_),_))=_
 rw [yK (by rcases hs with rfl | rfl <;> omega) (by rcases hs with rfl | rfl <;> omega)]
end Go.Px
namespace Go.Px
set_option linter.unusedVariables false
set_option linter.unusedSimpArgs false
variable {d:Int}{n:Nat}{ts:List Tk}
theorem Sm.out {α β:Type}{r:PR α}{m:Option β}{er:(Int×Int)×PSt→β}{ok:α→PSt→β}(h:Sm d n r m er ok) {a:α}{t1:List Tk}(e:r = .ok (a,t1)):m=some (ok a (⟨t1,true⟩,d))∧TGood t1∧t1.length≤n:=by
 rw [e] at h;exact h
theorem Sm.err {α β:Type}{r:PR α}{m:Option β}{er:(Int×Int)×PSt→β}{ok:α→PSt→β}(h:Sm d n r m er ok) {e:Int×Int}(he:r = .error e):∃ st,m=some (er (e,st)):=by
 rw [he] at h;exact h
theorem zb {α β:Type}{r:PR α}{f:α→List Tk→PR β}{b:β}{t:List Tk}(h:r.bd f = .ok (b,t)):∃ a t1,r = .ok (a,t1)∧f a t1 = .ok (b,t):=by
 cases r with
 |error e=>cases h
 |ok p=>exact ⟨p.1,p.2,rfl,h⟩
theorem Sm.map {α β γ:Type}{r:PR α}{m:Option β}{K:β→Option γ}{er:(Int×Int)×PSt→β}{ok:α→PSt→β}{er':(Int×Int)×PSt→γ}{ok':α→PSt→γ}(h:Sm d n r m er ok) (he:∀ e,K (er e)=some (er' e)) (hk:∀ a t1,r = .ok (a,t1)→TGood t1→K (ok a (⟨t1,true⟩,d))=some (ok' a (⟨t1,true⟩,d))):Sm d n r (m.bind K) er' ok':=by
 cases r with
 |error e=>obtain ⟨st,rfl⟩:=h;exact ⟨st,he _⟩
 |ok p=>obtain ⟨rfl,g,l⟩:=h;exact ⟨hk _ _ rfl g,g,l⟩
theorem yC {ts t1:List Tk}{n:Nd}(h:Zm ts = .ok (n,t1)):n.Kids_=zq:=by
 obtain ⟨a,t,_,h⟩:=zb h
 cases h;rfl
theorem zg9 {n0:Nd}(g:TGood ts):Sm d ts.length (Y2 n0 ts) (q1s (ndT n0,⟨ts,true⟩,d)) Sum.inl (fun n st=>Sum.inr (ndT n,st)):=by
 show Sm d _ _ ((qb (lit [43],⟨ts,true⟩,d)).bind _) _ _
 unfold Y2
 refine vz g (fun h g1 l=>?_) fun h=>?_
 ·simp only [if_true,Option.bind_assoc]
  exact (xK g1 1 (.inl rfl)).bd (fun e=>rfl) fun v t1 _ g2 l2 =>.ok g2 (by omega) rfl
 ·simp only [Bool.false_eq_true,if_false,Option.bind_assoc]
  refine vz g (fun h g1 l=>?_) fun h=>?_
  ·simp only [if_true,Option.bind_assoc]
   exact (xK g1 (-1) (.inr rfl)).bd (fun e=>rfl) fun v t1 _ g2 l2 =>.ok g2 (by omega) rfl
  ·exact .ok g (by omega) rfl
theorem zcI {ts t1:List Tk}{n n0:Nd}(h0:n0.Kids_=zq) (h:Y2 n0 ts = .ok (n,t1)):n.Kids_=zq:=by
 unfold Y2 at h
 split at h
 ·obtain ⟨a,t,_,h⟩:=zb h;cases h;exact h0
 ·split at h
  ·obtain ⟨a,t,_,h⟩:=zb h;cases h;exact h0
  ·cases h;exact h0
theorem yY {ts t1:List Tk}{n:Nd}(h:Z2 ts = .ok (n,t1)):n.Kids_=zq:=by
 unfold Z2 at h
 split at h
 ·obtain ⟨a,t,_,h⟩:=zb h;cases h;rfl
 ·split at h
  ·obtain ⟨a,t,_,h⟩:=zb h;cases h;rfl
  ·obtain ⟨a,t,h1,h⟩:=zb h;exact zcI (yC h1) h
theorem xL (g:TGood ts):Sm d (ts.length - 1) (Z2 ts) (qm (⟨ts,true⟩,d)) Sum.inl (fun n st=>Sum.inr (ndT n,st)):=by
 show Sm d _ _ ((qc (⟨ts,true⟩,d)).bind _) _ _
 rw [ZK g,Option.bind_some,ZK g,Option.bind_some]
 unfold Z2
 simp only [decide_eq_true_eq]
 by_cases h3:(hd ts).Kind_=3
 ·rw [if_pos h3,if_pos h3]
  simp only [Option.bind_assoc]
  exact (xK g 1 (.inl rfl)).bd (fun e=>rfl) fun v t1 _ g2 l2 =>.ok g2 (by omega) rfl
 ·rw [if_neg h3,if_neg h3]
  simp only [Option.bind_assoc]
  refine vz g (fun h g1 l=>?_) fun h=>?_
  ·simp only [if_true,Option.bind_assoc]
   exact (xK g1 (-1) (.inr rfl)).bd (fun e=>rfl) fun v t1 _ g2 l2 =>.ok g2 (by omega) rfl
  ·show Sm d _ _ ((qe (⟨ts,true⟩,d)).bind _) _ _
   refine (ZX g).bd (fun e=>rfl) fun n t1 _ g1 l1=>?_
   show Sm d _ _ (((q1s (ndT n,⟨t1,true⟩,d)).bind _).bind _) _ _
   rw [Option.bind_assoc]
   refine Sm.mono ?_ l1
   exact Sm.map (zg9 g1) (fun e=>rfl) fun a t2 _ _=>rfl
theorem zox (g:TGood ts):Sm d (ts.length - 1) (Wt ts) (q5b (⟨ts,true⟩,d)) Sum.inr (fun s st=>Sum.inl (s,st)):=by
  have body:∀ (i:Int) (s:List UInt8),0≤i→i < 3→wG [lit [60],lit [60,61],lit [61,61]] i=some (lit s)→
      q2d qb qh ((lit [60],lit [60,61],lit [61,61]),i,⟨ts,true⟩,d)=if isP s ts=true then some (.done (.inl (lit s,⟨ts.tail,true⟩,d))) else some (.next ((lit [60],lit [60,61],lit [61,61]),i+1,⟨ts,true⟩,d)):=by
    intro i s h0 h3 hn
    unfold q2d
    simp only [decide_eq_true_eq,if_pos h3,hn,Option.bind_some,zY g]
    cases h:isP s ts with
    |true=>simp only [if_true]
    |false=>simp only [Bool.false_eq_true,if_false];rw [yK (by omega) (by omega)]
  have e0:=body 0 [60] (by omega) (by omega) rfl
  have e1:=body 1 [60,61] (by omega) (by omega) rfl
  have e2:=body 2 [61,61] (by omega) (by omega) rfl
  show Sm d _ _ ((lpO (q2d qb qh) ((lit [60],lit [60,61],lit [61,61]),0,⟨ts,true⟩,d)).bind _) _ _
  unfold Wt
  rw [zQ,e0]
  cases h0:isP [60] ts with
  |true=>exact .ok (g.is h0) (by have:=g.tail_len;omega) rfl
  |false=>
    simp only [Bool.false_eq_true,if_false,Option.bind_some]
    rw [zQ,show (0:Int)+1=1 from rfl,e1]
    cases h1:isP [60,61] ts with
    |true=>exact .ok (g.is h1) (by have:=g.tail_len;omega) rfl
    |false=>
      simp only [Bool.false_eq_true,if_false,Option.bind_some]
      rw [zQ,show (1:Int)+1=2 from rfl,e2]
      cases h2:isP [61,61] ts with
      |true=>exact .ok (g.is h2) (by have:=g.tail_len;omega) rfl
      |false=>
        simp only [Bool.false_eq_true,if_false,Option.bind_some]
        rw [zQ,show (2:Int)+1=3 from rfl]
        have e3:q2d qb qh ((lit [60],lit [60,61],lit [61,61]),3,⟨ts,true⟩,d)=some (.done (.inr (⟨ts,true⟩,d))):=rfl
        rw [e3]
        simp only [Option.bind_some,Sum.elim_inr,w8 g]
        exact ⟨_,rfl⟩
theorem Wu {acc:List Nd}{a:Nd}(h:acc.length≤30000) (b:Bool):ZL 64 (⟨acc,b⟩:Sl Nd) [a]=some ⟨acc++[a],true⟩:=by
 rw [XA (by simp;omega) (by simp;omega)]
 simp
abbrev ziH:=Step (PSt×Sl Nd) (((Int×Int)×PSt)⊕(PSt×Sl Nd))
def zbd (d:Int) (one:List Tk→PR Nd) (f:PSt×Sl Nd→Option ziH):Prop:=∀ (ts:List Tk) (acc:List Nd),TGood ts→acc.length≤30000→
 (isP [44] ts=false→f ((⟨ts,true⟩,d),⟨acc,true⟩)=some (.done (.inr ((⟨ts,true⟩,d),⟨acc,true⟩))))∧
 (isP [44] ts=true→match one ts.tail with
  | .error e=>∃ st,f ((⟨ts,true⟩,d),⟨acc,true⟩)=some (.done (.inl (e,st)))
  | .ok (a,t1)=>TGood t1∧t1.length+1≤ts.length∧f ((⟨ts,true⟩,d),⟨acc,true⟩)=some (.next ((⟨t1,true⟩,d),⟨acc++[a],true⟩)))
theorem zaC {one:List Tk→PR Nd}{f:PSt×Sl Nd→Option ziH}(hf:zbd d one f):∀ (k:Nat) (ts:List Tk) (acc:List Nd),TGood ts→ts.length≤k→acc.length+ts.length≤30000→
    Sm d ts.length (yj one k acc ts) (lpO f ((⟨ts,true⟩,d),⟨acc,true⟩)) Sum.inl (fun l st=>Sum.inr (st,⟨l,true⟩))∧∀ l t1,yj one k acc ts = .ok (l,t1)→l.length+t1.length≤acc.length+ts.length
  |0,ts,acc,g,hk,ha=>absurd (List.eq_nil_of_length_eq_zero (by omega)) g.ne
  |k+1,ts,acc,g,hk,ha=>by
    obtain ⟨h0,h1⟩:=hf ts acc g (by omega)
    rw [zQ]
    show Sm d _ (if isP [44] ts=true then _ else _) _ _ _∧∀ l t1,(if isP [44] ts=true then _ else _)=_→_
    cases h:isP [44] ts with
    |false=>
      rw [h0 h]
      simp only [Bool.false_eq_true,if_false,Option.bind_some]
      exact ⟨.ok g (Nat.le_refl _) rfl,fun l t1 e=>by cases e;exact Nat.le_refl _⟩
    |true=>
      have h1:=h1 h
      simp only [if_true]
      cases e:one ts.tail with
      |error er=>
        rw [e] at h1
        obtain ⟨st,h1⟩:=h1
        rw [h1]
        exact ⟨⟨st,rfl⟩,fun l t1 e=>by cases e⟩
      |ok p=>
        obtain ⟨a,t1⟩:=p
        rw [e] at h1
        obtain ⟨g1,l1,h1⟩:=h1
        rw [h1]
        have ih:=zaC hf k t1 (acc++[a]) g1 (by omega) (by simp;omega)
        exact ⟨ih.1.mono (by omega),fun l t2 e2=>by have:=ih.2 l t2 e2;simp at this;omega⟩
theorem zdv:zbd d Z2 (q3n qm qb):=by
 intro ts acc g ha
 unfold q3n
 simp only [zY g,Option.bind_some]
 refine ⟨fun h=>by rw [h];rfl,fun h=>?_⟩
 rw [h]
 simp only [if_true]
 have s:=xL (d:=d) (g.is h)
 cases e:Z2 ts.tail with
 |error er=>obtain ⟨st,s⟩:=s.err e;exact ⟨st,by rw [s];rfl⟩
 |ok p=>
  obtain ⟨a,t1⟩:=p
  obtain ⟨s,g1,l1⟩:=s.out e
  have:=g.tail_len
  refine ⟨g1,by omega,?_⟩
  have hk:=yY e
  rw [s]
  simp only [Option.bind_some,Sum.elim_inr,ndT]
  rw [Wu ha,show q9.mk a.Kind_ a.Text_ a.Num_ a.At_ (Sl.mk [] false)=a by cases a;simp at hk;rw [hk]]
  rfl
end Go.Px
namespace Go.Px
set_option linter.unusedVariables false
set_option linter.unusedSimpArgs false
variable {d:Int}{n:Nat}{ts:List Tk}
theorem yG {a:Nd}(h:a.Kids_=zq):q9.mk a.Kind_ a.Text_ a.Num_ a.At_ (Sl.mk [] false)=a:=by
 cases a;simp only at h;rw [h]
theorem zZ (a:Nd):q9.mk a.Kind_ a.Text_ a.Num_ a.At_ a.Kids_=a:=by cases a;rfl
theorem Vp {one:List Tk→PR Nd}{f:PSt×Sl Nd→Option ziH}(hf:zbd d one f) {β:Type}{m:Option β}{er:(Int×Int)×PSt→β}{ok:Nd→PSt→β}{K:β→Option (((Int×Int)×PSt)⊕(PSt×Sl Nd))}(g:TGood ts) (h:Sm d (ts.length - 1) (one ts) m er ok)
    (he:∀ e,K (er e)=some (Sum.inl e)) (hk:∀ a t1,one ts = .ok (a,t1)→K (ok a (⟨t1,true⟩,d))=(lpO f ((⟨t1,true⟩,d),⟨[a],true⟩)).bind fun y9=>Sum.elim (fun y10=>some (Sum.inl y10)) (fun y11=>some (Sum.inr y11)) y9) :
    Sm d (ts.length - 1) (yp one ts) (m.bind K) Sum.inl (fun l st=>Sum.inr (st,⟨l,true⟩))∧∀ l t1,yp one ts = .ok (l,t1)→l.length+t1.length≤ts.length:=by
  have hlen:=g.len
  have h0:=g.tail_len
  constructor
  · refine h.bd he fun a t1 e g1 l1=>?_
    rw [hk a t1 e]
    have:=(zaC hf ts.length t1 [a] g1 (by omega) (by simp;omega)).1
    refine Sm.mono ?_ l1
    exact Sm.map this (fun e=>rfl) fun l t2 _ _=>rfl
  · intro l t2 e
    obtain ⟨a,t1,e1,e2⟩:=zb e
    obtain ⟨_,g1,l1⟩:=h.out e1
    have:=(zaC hf ts.length t1 [a] g1 (by omega) (by simp;omega)).2 l t2 e2
    simp at this;omega
theorem zfx (g:TGood ts):Sm d (ts.length - 1) (yp Z2 ts) (q3u (⟨ts,true⟩,d)) Sum.inl (fun l st=>Sum.inr (st,⟨l,true⟩))∧∀ l t1,yp Z2 ts = .ok (l,t1)→l.length+t1.length≤ts.length:=by
 refine Vp zdv g (xL g) (fun e=>rfl) fun a t1 e=>?_
 show (lpO _ (((⟨t1,true⟩:Sl Tk),d),Sl.mk [q9.mk a.Kind_ a.Text_ a.Num_ a.At_ (Sl.mk [] false)] true)).bind _=_
 rw [yG (yY e)]
theorem zdw (g:TGood ts):Sm d (ts.length - 1) (wm ts) (q1t (⟨ts,true⟩,d)) Sum.inl (fun l st=>Sum.inr (st,l)):=by
 show Sm d _ _ ((qd (lit [40],⟨ts,true⟩,d)).bind _) _ _
 refine (Zz g [40]).bd (fun e=>rfl) fun _ t1 _ g1 l1=>?_
 refine vz g1 (fun h g2 l=>?_) fun h=>?_
 ·exact .ok g2 (by omega) rfl
 ·refine (zfx g1).1.bd (fun e=>rfl) fun l t2 _ g2 l2=>?_
  refine (Zz g2 [41]).bd (fun e=>rfl) fun _ t3 _ g3 l3 =>.ok g3 (by omega) rfl
def ndK (n:Nd) (st:PSt):(Int×ByteArray×Int×Int)×PSt×Sl Nd:=(ndT n,st,n.Kids_)
theorem zna (g:TGood ts):Sm d (ts.length - 1) (Xj ts) (q52 (⟨ts,true⟩,d)) Sum.inr (fun n st=>Sum.inl (ndK n st)):=by
  show Sm d _ _ ((qc (⟨ts,true⟩,d)).bind _) _ _
  rw [ZK g,Option.bind_some,ZK g,Option.bind_some,zY g,Option.bind_some]
  have ht:=g.tail_len
  unfold Xj
  have nm:∀ {K:((Int×Int)×PSt⊕(Int×ByteArray×Int×Int)×PSt)→Option ((Int×ByteArray×Int×Int)×PSt×Sl Nd⊕(Int×Int)×PSt)},TGood ts.tail→
      (∀ e,K (Sum.inl e)=some (Sum.inr e))→(∀ k t1,Zm ts.tail = .ok (k,t1)→K (Sum.inr (ndT k,⟨t1,true⟩,d))=some (Sum.inl (ndK ⟨2,(hd ts).Text_,0,(hd ts).At_,⟨[k],true⟩⟩ (⟨t1,true⟩,d))))→
      Sm d (ts.length - 1) ((Zm ts.tail).bd fun k t1 =>.ok (⟨2,(hd ts).Text_,0,(hd ts).At_,⟨[k],true⟩⟩,t1)) ((qe (⟨ts.tail,true⟩,d)).bind K) Sum.inr (fun n st=>Sum.inl (ndK n st)):=
    fun {K} g1 h1 h2=>(ZX g1).bd h1 fun k t1 e g2 l2 =>.ok g2 (by omega) (h2 k t1 e)
  have kk:∀ k t1,Zm ts.tail = .ok (k,t1)→q9.mk (ndT k).1 (ndT k).2.1 (ndT k).2.2.1 (ndT k).2.2.2 (Sl.mk [] false)=k:=fun k t1 e=>yG (yC e)
  cases h1:isP [111,119,110] ts with
  |true=>exact .ok (g.is h1) (by omega) rfl
  |false=>
    simp only [Bool.false_eq_true,if_false,zY g,Option.bind_some]
    cases h2:isP [99,101,108,108] ts with
    |true=>exact .ok (g.is h2) (by omega) rfl
    |false=>
      simp only [Bool.false_eq_true,if_false,zY g,Option.bind_some]
      cases h3:isP [99,111,117,110,116,101,100] ts with
      |true=>
        simp only [if_true,Option.bind_some,Option.bind_assoc]
        exact nm (g.is h3) (fun e=>rfl) fun k t1 e=>by
          simp only [Sum.elim_inr,Option.bind_some,kk k t1 e];rfl
      |false=>
        simp only [Bool.false_eq_true,if_false,zY g,Option.bind_some]
        cases h4:isP [108,111,99,107] ts with
        |true=>
          simp only [if_true,Option.bind_some,Option.bind_assoc]
          exact nm (g.is h4) (fun e=>rfl) fun k t1 e=>by
            simp only [Sum.elim_inr,Option.bind_some,kk k t1 e];rfl
        |false=>
          simp only [Bool.false_eq_true,if_false,zY g,Option.bind_some]
          cases h5:isP [103,117,97,114,100] ts with
          |true=>
            simp only [if_true,Option.bind_some,Option.bind_assoc]
            exact nm (g.is h5) (fun e=>rfl) fun k t1 e=>by
              simp only [Sum.elim_inr,Option.bind_some,kk k t1 e];rfl
          |false=>
            simp only [Bool.false_eq_true,if_false,Option.bind_some,w8 g]
            exact ⟨_,rfl⟩
theorem zfy (g:TGood ts):Sm d (ts.length - 1) (Yi ts) (q3d (⟨ts,true⟩,d)) Sum.inl (fun n st=>Sum.inr (ndK n st)):=by
 show Sm d _ _ ((qe (⟨ts,true⟩,d)).bind _) _ _
 refine (ZX g).bd (fun e=>rfl) fun n t1 _ g1 l1=>?_
 refine vz g1 (fun h g2 l=>?_) fun h=>?_
 ·simp only [if_true,Option.bind_assoc]
  refine (ZX g2).bd (fun e=>rfl) fun k t2 e g3 l3=>?_
  show Sm d _ _ (((qd (lit [93],⟨t2,true⟩,d)).bind _).bind _) _ _
  rw [Option.bind_assoc]
  refine (Zz g3 [93]).bd (fun e=>rfl) fun _ t4 _ g4 l4 =>.ok g4 (by omega) ?_
  have:=yG (yC e)
  simp only [Sum.elim_inr,Option.bind_some,ndT,this];rfl
 ·exact .ok g1 (by omega) rfl
theorem zdx (g:TGood ts):Sm d (ts.length - 1) (YA ts) (q1c (⟨ts,true⟩,d)) Sum.inl (fun n st=>Sum.inr (ndK n st)):=by
 show Sm d _ _ ((qm (⟨ts,true⟩,d)).bind _) _ _
 refine (xL g).bd (fun e=>rfl) fun a t1 ea g1 l1=>?_
 refine (zox g1).bd (fun e=>rfl) fun op t2 _ g2 l2=>?_
 refine (xL g2).bd (fun e=>rfl) fun b t3 eb g3 l3 =>.ok g3 (by omega) ?_
 have h1:=yG (yY ea)
 have h2:=yG (yY eb)
 simp only [Sum.elim_inr,ndT,h1,h2];rfl
theorem zcJ:zbd d Yi (q37 q3d qb):=by
 intro ts acc g ha
 unfold q37
 simp only [zY g,Option.bind_some]
 refine ⟨fun h=>by rw [h];rfl,fun h=>?_⟩
 rw [h]
 simp only [if_true]
 have s:=zfy (d:=d) (g.is h)
 cases e:Yi ts.tail with
 |error er=>obtain ⟨st,s⟩:=s.err e;exact ⟨st,by rw [s];rfl⟩
 |ok p=>
  obtain ⟨a,t1⟩:=p
  obtain ⟨s,g1,l1⟩:=s.out e
  have:=g.tail_len
  refine ⟨g1,by omega,?_⟩
  rw [s]
  simp only [Option.bind_some,Sum.elim_inr,ndK,ndT,zZ,Wu ha]
theorem zdy:zbd d YA (q3o q1c qb):=by
 intro ts acc g ha
 unfold q3o
 simp only [zY g,Option.bind_some]
 refine ⟨fun h=>by rw [h];rfl,fun h=>?_⟩
 rw [h]
 simp only [if_true]
 have s:=zdx (d:=d) (g.is h)
 cases e:YA ts.tail with
 |error er=>obtain ⟨st,s⟩:=s.err e;exact ⟨st,by rw [s];rfl⟩
 |ok p=>
  obtain ⟨a,t1⟩:=p
  obtain ⟨s,g1,l1⟩:=s.out e
  have:=g.tail_len
  refine ⟨g1,by omega,?_⟩
  rw [s]
  simp only [Option.bind_some,Sum.elim_inr,ndK,ndT,zZ,Wu ha]
theorem VQ (g:TGood ts):Sm d (ts.length - 1) (yp Yi ts) (q3p (⟨ts,true⟩,d)) Sum.inl (fun l st=>Sum.inr (st,⟨l,true⟩))∧∀ l t1,yp Yi ts = .ok (l,t1)→l.length+t1.length≤ts.length:=by
 refine Vp zcJ g (zfy g) (fun e=>rfl) fun a t1 e=>?_
 show (lpO _ (((⟨t1,true⟩:Sl Tk),d),Sl.mk [q9.mk a.Kind_ a.Text_ a.Num_ a.At_ a.Kids_] true)).bind _=_
 rw [zZ]
theorem zfz (g:TGood ts):Sm d (ts.length - 1) (yp YA ts) (q3v (⟨ts,true⟩,d)) Sum.inl (fun l st=>Sum.inr (st,⟨l,true⟩))∧∀ l t1,yp YA ts = .ok (l,t1)→l.length+t1.length≤ts.length:=by
 refine Vp zdy g (zdx g) (fun e=>rfl) fun a t1 e=>?_
 show (lpO _ (((⟨t1,true⟩:Sl Tk),d),Sl.mk [q9.mk a.Kind_ a.Text_ a.Num_ a.At_ a.Kids_] true)).bind _=_
 rw [zZ]
theorem zha {xs l:List Nd}(h:xs.length+l.length≤60000):ZL 64 (⟨xs,true⟩:Sl Nd) l=some ⟨xs++l,true⟩:=by
 rw [XA (by simp;omega) (by simp;omega)]
 simp
theorem zoy (g:TGood ts) (at_:Int):Sm d (ts.length - 1) (Vo at_ ts) (q4a (at_,⟨ts,true⟩,d)) Sum.inl (fun n st=>Sum.inr (ndK n st)):=by
 have hlen:=g.len
 show Sm d _ _ ((qe (⟨ts,true⟩,d)).bind _) _ _
 refine (ZX g).bd (fun e=>rfl) fun n t1 _ g1 l1=>?_
 refine (zna g1).bd (fun e=>rfl) fun s t2 _ g2 l2=>?_
 show Sm d _ _ ((qb (lit [123],⟨t2,true⟩,d)).bind _) _ _
 rw [zY g2,Option.bind_some]
 have hs:q9.mk (ndK s (⟨t2,true⟩,d)).1.1 (ndK s (⟨t2,true⟩,d)).1.2.1 (ndK s (⟨t2,true⟩,d)).1.2.2.1 (ndK s (⟨t2,true⟩,d)).1.2.2.2 (ndK s (⟨t2,true⟩,d)).2.2=s:=zZ s
 simp only [hs]
 have hlen2:=g2.len
 refine Sm.bd (er:=Sum.inl) (ok:=fun (l:List Nd) (st:PSt)=>Sum.inr (st,(0,lit [],0,0),(1,n.Text_,n.Num_,at_),(⟨l,true⟩:Sl Nd))) (n:=t2.length) ?_ (fun e=>rfl) fun ks t5 e5 g5 l5=>?_
 ·cases h:isP [123] t2 with
  |false=>exact .ok g2 (Nat.le_refl _) rfl
  |true=>
   simp only [if_true]
   have g3:=g2.is h
   have hl3:=g2.tail_len
   obtain ⟨k1,k2⟩:=VQ (d:=d) g3
   refine k1.bd (fun e=>rfl) fun l t3 e g4 l4=>?_
   have:=k2 l t3 e
   simp only [Sum.elim_inr]
   rw [zha (by simp;omega),Option.bind_some]
   exact (Zz g4 [125]).bd (fun e=>rfl) fun _ t4 _ g5 l5 =>.ok g5 (by omega) rfl
 have hks:ks.length≤20001:=by
  split at e5
  ·rename_i h
   have hl3:=g2.tail_len
   obtain ⟨l,t3,e1,e2⟩:=zb e5
   obtain ⟨_,t4,_,e3⟩:=zb e2
   cases e3
   have:=(VQ (d:=d) (g2.is h)).2 l t3 e1
   simp;omega
  ·cases e5;simp
 show Sm d _ _ ((qb (lit [119,104,101,114,101],⟨t5,true⟩,d)).bind _) _ _
 rw [zY g5,Option.bind_some]
 have hlen5:=g5.len
 refine Sm.bd (er:=Sum.inl) (ok:=fun (l:List Nd) (st:PSt)=>Sum.inr (st,(0,lit [],0,0),(1,n.Text_,n.Num_,at_),(⟨l,true⟩:Sl Nd))) (n:=t5.length) ?_ (fun e=>rfl) fun ks2 t7 e7 g7 l7=>?_
 ·cases h:isP [119,104,101,114,101] t5 with
  |false=>exact .ok g5 (Nat.le_refl _) rfl
  |true=>
   simp only [if_true]
   have g3:=g5.is h
   have hl3:=g5.tail_len
   obtain ⟨k1,k2⟩:=zfz (d:=d) g3
   refine k1.bd (fun e=>rfl) fun l t3 e g4 l4=>?_
   have:=k2 l t3 e
   simp only [Sum.elim_inr]
   rw [zha (by omega),Option.bind_some]
   exact .ok g4 (by omega) rfl
 exact (Zz g7 [59]).bd (fun e=>rfl) fun _ t8 _ g8 l8 =>.ok g8 (by omega) rfl
end Go.Px
namespace Go.Px
set_option linter.unusedVariables false
set_option linter.unusedSimpArgs false
variable {d:Int}{n:Nat}{ts:List Tk}
theorem zhb (g:TGood ts):Sm d (ts.length - 1) (YB ts) (q3w (⟨ts,true⟩,d)) Sum.inr (fun n st=>Sum.inl (n,st)):=by
 show Sm d _ _ ((qc (⟨ts,true⟩,d)).bind _) _ _
 rw [ZK g,Option.bind_some,ZK g,Option.bind_some,zY g,Option.bind_some]
 have ht:=g.tail_len
 unfold YB
 cases h1:isP [105,110,116] ts with
 |true=>exact .ok (g.is h1) (by omega) rfl
 |false=>
  simp only [Bool.false_eq_true,if_false,zY g,Option.bind_some]
  cases h2:isP [111,119,110] ts with
  |true=>
   simp only [if_true,Option.bind_some,Sum.elim_inl]
   refine (ZX (g.is h2)).bd (fun e=>rfl) fun k t1 e g1 l1 =>.ok g1 (by omega) ?_
   have:=yG (yC e)
   simp only [Sum.elim_inr,ndT,this]
  |false=>
   simp only [Bool.false_eq_true,if_false,Option.bind_assoc]
   refine (Zz g [38]).bd (fun e=>rfl) fun _ t1 _ g1 l1=>?_
   simp only [Sum.elim_inr,zY g1,Option.bind_some,Option.bind_assoc]
   cases h3:isP [109,117,116] t1 with
   |true=>
    simp only [if_true,Option.bind_some,Sum.elim_inl]
    have:=g1.tail_len
    refine (ZX (g1.is h3)).bd (fun e=>rfl) fun k t2 e g2 l2 =>.ok g2 (by omega) ?_
    have:=yG (yC e)
    simp only [Sum.elim_inr,ndT,this]
   |false=>
    simp only [Bool.false_eq_true,if_false,Option.bind_some,Sum.elim_inl]
    refine (ZX g1).bd (fun e=>rfl) fun k t2 e g2 l2 =>.ok g2 (by omega) ?_
    have:=yG (yC e)
    simp only [Sum.elim_inr,ndT,this]
theorem zfA (g:TGood ts):Sm d (ts.length - 1) (YC ts) (q3e (⟨ts,true⟩,d)) Sum.inl (fun n st=>Sum.inr (ndK n st)):=by
 show Sm d _ _ ((qe (⟨ts,true⟩,d)).bind _) _ _
 refine (ZX g).bd (fun e=>rfl) fun n t1 _ g1 l1=>?_
 refine (Zz g1 [58]).bd (fun e=>rfl) fun _ t2 _ g2 l2=>?_
 exact (zhb g2).bd (fun e=>rfl) fun m t3 _ g3 l3 =>.ok g3 (by omega) (by simp only [Sum.elim_inl,zZ];rfl)
theorem zcK:zbd d YC (q38 q3e qb):=by
 intro ts acc g ha
 unfold q38
 simp only [zY g,Option.bind_some]
 refine ⟨fun h=>by rw [h];rfl,fun h=>?_⟩
 rw [h]
 simp only [if_true]
 have s:=zfA (d:=d) (g.is h)
 cases e:YC ts.tail with
 |error er=>obtain ⟨st,s⟩:=s.err e;exact ⟨st,by rw [s];rfl⟩
 |ok p=>
  obtain ⟨a,t1⟩:=p
  obtain ⟨s,g1,l1⟩:=s.out e
  have:=g.tail_len
  refine ⟨g1,by omega,?_⟩
  rw [s]
  simp only [Option.bind_some,Sum.elim_inr,ndK,ndT,zZ,Wu ha]
theorem VS (g:TGood ts):Sm d (ts.length - 1) (yp YC ts) (q3q (⟨ts,true⟩,d)) Sum.inl (fun l st=>Sum.inr (st,⟨l,true⟩))∧∀ l t1,yp YC ts = .ok (l,t1)→l.length+t1.length≤ts.length:=by
 refine Vp zcK g (zfA g) (fun e=>rfl) fun a t1 e=>?_
 show (lpO _ (((⟨t1,true⟩:Sl Tk),d),Sl.mk [q9.mk a.Kind_ a.Text_ a.Num_ a.At_ a.Kids_] true)).bind _=_
 rw [zZ]
theorem zmu (g:TGood ts) (k:Int):Sm d (ts.length - 1) (atP k ts) (q4c (k,⟨ts,true⟩,d)) Sum.inl (fun n st=>Sum.inr (ndT n,st)):=by
 show Sm d _ _ ((qe (⟨ts,true⟩,d)).bind _) _ _
 refine (ZX g).bd (fun e=>rfl) fun n t1 _ g1 l1=>?_
 refine (Zz g1 [91]).bd (fun e=>rfl) fun _ t2 _ g2 l2=>?_
 refine (xK g2 1 (.inl rfl)).bd (fun e=>rfl) fun v t3 _ g3 l3=>?_
 exact (Zz g3 [93]).bd (fun e=>rfl) fun _ t4 _ g4 l4 =>.ok g4 (by omega) rfl
theorem zcL (g:TGood ts) (n:Nd):Sm d (ts.length - 1) (Xo n ts) (q3f (ndT n,⟨ts,true⟩,d)) Sum.inl (fun n st=>Sum.inr (ndT n,st)):=by
 show Sm d _ _ ((qd (lit [59],⟨ts,true⟩,d)).bind _) _ _
 exact (Zz g [59]).bd (fun e=>rfl) fun _ t1 _ g1 l1 =>.ok g1 (by omega) rfl
theorem zbe (g:TGood ts) (n:Nd):Sm d (ts.length - 1) (Xo n ts) (q1y (n,⟨ts,true⟩,d)) Sum.inl (fun n st=>Sum.inr (n,st)):=by
 show Sm d _ _ ((qd (lit [59],⟨ts,true⟩,d)).bind _) _ _
 exact (Zz g [59]).bd (fun e=>rfl) fun _ t1 _ g1 l1 =>.ok g1 (by omega) (by simp only [Sum.elim_inr,zZ])
theorem TGood.idx1 {ts:List Tk}(g:TGood ts.tail):zt (⟨ts,true⟩:Sl Tk) 1=some (hd ts.tail):=by
 match ts,g with
 |[],g=>exact absurd rfl g.ne
 |[t],g=>exact absurd rfl g.ne
 |t::u::r,_=>rfl
theorem zdz {ts:List Tk}(h:isP [43] ts=true):isP [45] ts=false:=by
 unfold isP at h ⊢
 simp only [Bool.and_eq_true,decide_eq_true_eq] at h
 have:¬ (hd ts).Text_=lit [45]:=by
  rw [h.2];intro e
  have:=congrArg bs e
  simp [yc] at this
 simp [this]
theorem znb (g:TGood ts):Sm d (ts.length - 1) (yX ts) (q53 (⟨ts,true⟩,d)) Sum.inl (fun n st=>Sum.inr (n,st)):=by
 show Sm d _ _ ((qc (⟨ts,true⟩,d)).bind _) _ _
 rw [ZK g,Option.bind_some,zY g,Option.bind_some]
 have ht:=g.tail_len
 unfold yX
 cases h1:isP [110,101,119] ts with
 |true=>
  simp only [if_true,Option.bind_assoc]
  exact (xK (g.is h1) 1 (.inl rfl)).bd (fun e=>rfl) fun v t1 _ g1 l1 =>.ok g1 (by omega) rfl
 |false=>
 simp only [Bool.false_eq_true,if_false,zY g,Option.bind_some]
 cases h2:isP [97,114,114,97,121] ts with
 |true=>
  simp only [if_true,Option.bind_assoc]
  exact (ZX (g.is h2)).bd (fun e=>rfl) fun v t1 _ g1 l1 =>.ok g1 (by omega) rfl
 |false=>
 simp only [Bool.false_eq_true,if_false,zY g,Option.bind_some]
 cases h3:isP [38] ts with
 |true=>
  have g1:=g.is h3
  simp only [if_true,zY g1,Option.bind_some]
  cases h4:isP [109,117,116] ts.tail with
  |true=>
   have:=g1.tail_len
   simp only [if_true,Option.bind_some,Option.bind_assoc]
   exact (ZX (g1.is h4)).bd (fun e=>rfl) fun v t1 _ g2 l2 =>.ok g2 (by omega) rfl
  |false=>
   simp only [Bool.false_eq_true,if_false,Option.bind_some,Option.bind_assoc]
   exact (ZX g1).bd (fun e=>rfl) fun v t1 _ g2 l2 =>.ok g2 (by omega) rfl
 |false=>
 simp only [Bool.false_eq_true,if_false,ZK g,Option.bind_some,decide_eq_true_eq]
 by_cases hk:(hd ts).Kind_=1
 case neg=>
  simp only [ne_eq,hk,not_false_eq_true,if_true,Option.bind_assoc]
  refine Sm.map (xL g) (fun e=>rfl) fun v t1 e g2=>?_
  have:=yG (yY e)
  simp only [Sum.elim_inr,Sum.elim_inl,Option.bind_some,ndT,this]
 case pos=>
 simp only [ne_eq,hk,not_true_eq_false,if_false,Option.bind_some,Sum.elim_inr]
 refine (ZX g).bd (fun e=>rfl) fun n t1 en g1 l1=>?_
 have hn:=yG (yC en)
 have ht1:=g1.tail_len
 simp only [Sum.elim_inr,YL g1,Option.bind_some]
 cases h4:isP [40] t1 with
 |true=>
  simp only [if_true,Option.bind_assoc]
  exact (zdw g1).bd (fun e=>rfl) fun v t2 _ g2 l2 =>.ok g2 (by omega) rfl
 |false=>
 simp only [Bool.false_eq_true,if_false,zY g1,Option.bind_some]
 cases h5:isP [91] t1 with
 |true=>
  simp only [if_true,Option.bind_assoc]
  refine (xL (g1.is h5)).bd (fun e=>rfl) fun a t2 ea g2 l2=>?_
  have ha:=yG (yY ea)
  show Sm d _ _ (((qd (lit [93],⟨t2,true⟩,d)).bind _).bind _) _ _
  rw [Option.bind_assoc]
  exact (Zz g2 [93]).bd (fun e=>rfl) fun _ t3 _ g3 l3 =>.ok g3 (by omega) (by simp only [Sum.elim_inr,Sum.elim_inl,Option.bind_some,ndT,ha])
 |false=>
 simp only [Bool.false_eq_true,if_false,Option.bind_some,Sum.elim_inr,YL g1]
 by_cases hp:isP [43] t1=true∧(hd t1.tail).Kind_=1
 ·obtain ⟨hp1,hp2⟩:=hp
  have hm:=zdz hp1
  have gt:=g1.is hp1
  have mo:=(Zz (d:=d) g1 [43]).out (show Zb [43] t1 = .ok ((),t1.tail) by unfold Zb;rw [if_pos hp1])
  rw [if_pos ⟨hp1,hp2⟩]
  simp only [hp1,hm,if_true,Bool.false_eq_true,if_false,Option.bind_some,gt.idx1,hp2,decide_true,mo.1,Sum.elim_inr]
  have nm:=ZX (d:=d) gt
  cases e:Zm t1.tail with
  |error er=>
   obtain ⟨st,h⟩:=nm.err e
   simp only [h,YL g1,hp1,hm,if_true,Bool.false_eq_true,if_false,gt.idx1,hp2,decide_true,mo.1,Option.bind_some,Sum.elim_inr,Sum.elim_inl,Zh]
   exact ⟨st,rfl⟩
  |ok q=>
   obtain ⟨k,t2⟩:=q
   obtain ⟨h,g2,l2⟩:=nm.out e
   have hk2:=yG (yC e)
   simp only [h,YL g1,hp1,hm,if_true,Bool.false_eq_true,if_false,gt.idx1,hp2,decide_true,mo.1,Option.bind_some,Sum.elim_inr,Sum.elim_inl,Zh]
   simp only [ndT,hk2,hn]
   exact .ok g2 (by omega) rfl
 ·rw [if_neg hp]
  by_cases hq:isP [45] t1=true∧(hd t1.tail).Kind_=1
  ·obtain ⟨hp1,hp2⟩:=hq
   have hm:isP [43] t1=false:=by
    cases h:isP [43] t1 with
    |false=>rfl
    |true=>have:=zdz h;rw [hp1] at this;cases this
   have gt:=g1.is hp1
   have mo:=(Zz (d:=d) g1 [45]).out (show Zb [45] t1 = .ok ((),t1.tail) by unfold Zb;rw [if_pos hp1])
   rw [if_pos ⟨hp1,hp2⟩]
   simp only [hp1,hm,if_true,Bool.false_eq_true,if_false,Option.bind_some,gt.idx1,hp2,decide_true,mo.1,Sum.elim_inr]
   have nm:=ZX (d:=d) gt
   cases e:Zm t1.tail with
   |error er=>
    obtain ⟨st,h⟩:=nm.err e
    simp only [h,YL g1,hp1,hm,if_true,Bool.false_eq_true,if_false,gt.idx1,hp2,decide_true,mo.1,Option.bind_some,Sum.elim_inr,Sum.elim_inl,Zh]
    exact ⟨st,rfl⟩
   |ok q=>
    obtain ⟨k,t2⟩:=q
    obtain ⟨h,g2,l2⟩:=nm.out e
    have hk2:=yG (yC e)
    simp only [h,YL g1,hp1,hm,if_true,Bool.false_eq_true,if_false,gt.idx1,hp2,decide_true,mo.1,Option.bind_some,Sum.elim_inr,Sum.elim_inl,Zh]
    simp only [ndT,hk2,hn]
    exact .ok g2 (by omega) rfl
  ·rw [if_neg hq]
   have fin:Sm d (ts.length - 1) (Y2 n t1) ((q1s (ndT n,⟨t1,true⟩,d)).bind fun y=>Sum.elim (fun e=>some (Sum.inl e)) (fun z=>some (Sum.inr (q9.mk z.1.1 z.1.2.1 z.1.2.2.1 z.1.2.2.2 (Sl.mk [] false),z.2))) y) Sum.inl (fun n st=>Sum.inr (n,st)):=by
    refine Sm.mono ?_ l1
    refine Sm.map (zg9 g1) (fun e=>rfl) fun a t2 e _=>?_
    have:=yG (zcI (yC en) e)
    simp only [Sum.elim_inr,ndT,this]
   cases hp1:isP [43] t1 with
   |true=>
    have gt:=g1.is hp1
    have hm:=zdz hp1
    have hk1:¬ (hd t1.tail).Kind_=1:=fun e=>hp ⟨hp1,e⟩
    simp only [YL g1,hp1,hm,if_true,Bool.false_eq_true,if_false,Option.bind_some,gt.idx1,hk1,decide_false,Sum.elim_inr,Zh]
    exact fin
   |false=>
    cases hq1:isP [45] t1 with
    |true=>
     have gt:=g1.is hq1
     have hk1:¬ (hd t1.tail).Kind_=1:=fun e=>hq ⟨hq1,e⟩
     simp only [YL g1,hp1,hq1,if_true,Bool.false_eq_true,if_false,Option.bind_some,gt.idx1,hk1,decide_false,Sum.elim_inr,Zh]
     exact fin
    |false=>
     simp only [YL g1,hp1,hq1,Bool.false_eq_true,if_false,Option.bind_some,Sum.elim_inr,Zh]
     exact fin
end Go.Px
namespace Go.Px
set_option linter.unusedVariables false
set_option linter.unusedSimpArgs false
variable {d:Int}{n:Nat}{ts:List Tk}
theorem zls (g:TGood ts) (n:Nd):Sm d (ts.length - 1) (xa n ts) (q3g (ndT n,⟨ts,true⟩,d)) Sum.inl (fun n st=>Sum.inr (ndK n st)):=by
 show Sm d _ _ ((qk (lit [40],⟨ts,true⟩,d)).bind _) _ _
 rw [YL g,Option.bind_some]
 have ht:=g.tail_len
 unfold xa
 cases h1:isP [40] ts with
 |true=>
  simp only [if_true,Option.bind_assoc]
  exact (zdw g).bd (fun e=>rfl) fun v t1 _ g1 l1 =>.ok g1 (by omega) rfl
 |false=>
 simp only [Bool.false_eq_true,if_false,zY g,Option.bind_some]
 cases h2:isP [91] ts with
 |true=>
  simp only [if_true,Option.bind_assoc]
  refine (xL (g.is h2)).bd (fun e=>rfl) fun a t1 ea g1 l1=>?_
  have ha:=yG (yY ea)
  show Sm d _ _ (((qd (lit [93],⟨t1,true⟩,d)).bind _).bind _) _ _
  rw [Option.bind_assoc]
  refine (Zz g1 [93]).bd (fun e=>rfl) fun _ t2 _ g2 l2=>?_
  show Sm d _ _ (((qd (lit [61],⟨t2,true⟩,d)).bind _).bind _) _ _
  rw [Option.bind_assoc]
  refine (Zz g2 [61]).bd (fun e=>rfl) fun _ t3 _ g3 l3=>?_
  show Sm d _ _ (((qm (⟨t3,true⟩,d)).bind _).bind _) _ _
  rw [Option.bind_assoc]
  refine (xL g3).bd (fun e=>rfl) fun b t4 eb g4 l4 =>.ok g4 (by omega) ?_
  have hb:=yG (yY eb)
  simp only [Sum.elim_inr,Sum.elim_inl,Option.bind_some,ndT,ha,hb];rfl
 |false=>
 simp only [Bool.false_eq_true,if_false,Option.bind_some,Sum.elim_inr]
 refine (Zz g [61]).bd (fun e=>rfl) fun _ t1 _ g1 l1=>?_
 refine (znb g1).bd (fun e=>rfl) fun a t2 _ g2 l2 =>.ok g2 (by omega) ?_
 simp only [Sum.elim_inr,zZ];rfl
def zcM (d:Int) (h:PSt→Option ((Int×Int)×PSt⊕(Int×ByteArray×Int×Int)×PSt×Sl Nd)) (blk:List Tk→PR Nd):Prop:=∀ ts,TGood ts→Sm d (ts.length - 1) (blk ts) (h (⟨ts,true⟩,d)) Sum.inl (fun n st=>Sum.inr (ndK n st))
variable {h:PSt→Option ((Int×Int)×PSt⊕(Int×ByteArray×Int×Int)×PSt×Sl Nd)}{blk:List Tk→PR Nd}
theorem zcN {ts t1:List Tk}{n:Nd}(h:YA ts = .ok (n,t1)):∃ a b,n.Kids_=⟨[a,b],true⟩:=by
 obtain ⟨a,t,_,h⟩:=zb h
 obtain ⟨op,t2,_,h⟩:=zb h
 obtain ⟨b,t3,_,h⟩:=zb h
 cases h;exact ⟨a,b,rfl⟩
theorem zeh (hb:zcM d h blk) (g:TGood ts) (k a:Int):Sm d (ts.length - 1) (xJ blk k a ts) (q12 h (k,a,⟨ts,true⟩,d)) Sum.inl (fun n st=>Sum.inr (ndK n st)):=by
 show Sm d _ _ ((q1c (⟨ts,true⟩,d)).bind _) _ _
 refine (zdx g).bd (fun e=>rfl) fun n t1 e1 g1 l1=>?_
 refine (hb t1 g1).bd (fun e=>rfl) fun b t2 e2 g2 l2 =>.ok g2 (by omega) ?_
 obtain ⟨x,y,hk⟩:=zcN e1
 simp only [Sum.elim_inr,ndK,ndT,hk,zZ]
 rw [Wu (by simp)];rfl
theorem zfB {ts t1:List Tk}{n:Nd}{k a:Int}(h:xJ blk k a ts = .ok (n,t1)):∃ a b c,n.Kids_=⟨[a,b,c],true⟩:=by
 obtain ⟨m,t,e,h⟩:=zb h
 obtain ⟨b,t2,_,h⟩:=zb h
 obtain ⟨x,y,hk⟩:=zcN e
 cases h;exact ⟨x,y,b,by simp [hk]⟩
theorem zbV (x:(Int×ByteArray×Int×Int)×Int):q2w x=some ((x.1.1,x.1.2.1,x.1.2.2.1,x.2),x.2):=rfl
theorem zj7 (x:Nd×Int):q2e x=some (⟨x.1.Kind_,x.1.Text_,x.1.Num_,x.2,x.1.Kids_⟩,x.2):=rfl
set_option maxHeartbeats 1000000 in
theorem znc (hb:zcM d h blk) (g:TGood ts):Sm d (ts.length - 1) (ZQ blk ts) (q11 h (⟨ts,true⟩,d)) Sum.inl (fun n st=>Sum.inr (n,st)):=by
 show Sm d _ _ ((qc (⟨ts,true⟩,d)).bind _) _ _
 rw [ZK g,Option.bind_some,zY g,Option.bind_some]
 have ht:=g.tail_len
 unfold ZQ
 cases h1:isP [102,114,101,101] ts with
 |true=>
  simp only [if_true,Option.bind_assoc]
  refine (ZX (g.is h1)).bd (fun e=>rfl) fun n t1 _ g1 l1=>?_
  refine Sm.mono (n:=t1.length - 1) ?_ (by omega)
  simp only [Sum.elim_inr,zbV,Option.bind_some,Option.bind_assoc,ndT]
  exact Sm.map (zcL g1 ⟨12,n.Text_,n.Num_,(hd ts).At_,zq⟩) (fun e=>rfl) fun a t2 ea g2=>by
   obtain ⟨_,t3,_,e⟩:=zb ea
   cases e;rfl
 |false=>
 simp only [Bool.false_eq_true,if_false,zY g,Option.bind_some]
 cases h2:isP [108,111,99,107] ts with
 |true=>
  simp only [if_true,Option.bind_assoc]
  refine (zmu (g.is h2) 13).bd (fun e=>rfl) fun n t1 _ g1 l1=>?_
  refine Sm.mono (n:=t1.length - 1) ?_ (by omega)
  simp only [Sum.elim_inr,zbV,Option.bind_some,Option.bind_assoc,ndT]
  exact Sm.map (zcL g1 ⟨n.Kind_,n.Text_,n.Num_,(hd ts).At_,zq⟩) (fun e=>rfl) fun a t2 ea g2=>by
   obtain ⟨_,t3,_,e⟩:=zb ea
   cases e;rfl
 |false=>
 simp only [Bool.false_eq_true,if_false,zY g,Option.bind_some]
 cases h3:isP [117,110,108,111,99,107] ts with
 |true=>
  simp only [if_true,Option.bind_assoc]
  refine (zmu (g.is h3) 14).bd (fun e=>rfl) fun n t1 _ g1 l1=>?_
  refine Sm.mono (n:=t1.length - 1) ?_ (by omega)
  simp only [Sum.elim_inr,zbV,Option.bind_some,Option.bind_assoc,ndT]
  exact Sm.map (zcL g1 ⟨n.Kind_,n.Text_,n.Num_,(hd ts).At_,zq⟩) (fun e=>rfl) fun a t2 ea g2=>by
   obtain ⟨_,t3,_,e⟩:=zb ea
   cases e;rfl
 |false=>
 simp only [Bool.false_eq_true,if_false,zY g,Option.bind_some]
 cases h4:isP [105,102] ts with
 |true=>
  simp only [if_true,Option.bind_assoc]
  refine (zeh hb (g.is h4) 15 (hd ts).At_).bd (fun e=>rfl) fun n t1 en g1 l1=>?_
  obtain ⟨x,y,z,hk⟩:=zfB en
  simp only [Sum.elim_inr,ndK,ndT,hk,zY g1,Option.bind_some,Option.bind_assoc]
  cases h5:isP [101,108,115,101] t1 with
  |true=>
   have:=g1.tail_len
   simp only [if_true,Option.bind_assoc]
   refine (hb t1.tail (g1.is h5)).bd (fun e=>rfl) fun b t2 _ g2 l2 =>.ok g2 (by omega) ?_
   simp only [Sum.elim_inr,ndK,ndT,zZ]
   rw [Wu (by simp)];rfl
  |false=>
   simp only [Bool.false_eq_true,if_false]
   rw [Wu (by simp)]
   exact .ok g1 (by omega) rfl
 |false=>
 simp only [Bool.false_eq_true,if_false,zY g,Option.bind_some]
 cases h5:isP [119,104,105,108,101] ts with
 |true=>
  simp only [if_true,Option.bind_assoc]
  refine Sm.mono (n:=ts.tail.length - 1) ?_ (by omega)
  exact Sm.map (zeh hb (g.is h5) 16 (hd ts).At_) (fun e=>rfl) fun a t1 ea g1=>by
   simp only [Sum.elim_inr,Sum.elim_inl,Option.bind_some,ndK,ndT,zZ]
 |false=>
 simp only [Bool.false_eq_true,if_false,zY g,Option.bind_some]
 cases h6:isP [114,101,116,117,114,110] ts with
 |true=>
  have g1:=g.is h6
  simp only [if_true,YL g1,Option.bind_some,Option.bind_assoc]
  cases h7:isP [59] ts.tail with
  |true=>
   simp only [Bool.not_true,Bool.false_eq_true,if_false,if_true,Option.bind_some,Sum.elim_inr]
   refine Sm.mono (n:=ts.tail.length - 1) ?_ (by omega)
   show Sm d _ _ (((q1y (_,⟨ts.tail,true⟩,d)).bind _).bind _) _ _
   rw [Option.bind_assoc]
   exact Sm.map (zbe g1 ⟨17,lit [],0,(hd ts).At_,zq⟩) (fun e=>rfl) fun a t1 ea g1=>by
    simp only [Sum.elim_inr,Sum.elim_inl,Option.bind_some,zZ]
  |false=>
   simp only [Bool.not_false,Bool.false_eq_true,if_false,if_true,Option.bind_assoc]
   refine (xL g1).bd (fun e=>rfl) fun a t1 ea g2 l2=>?_
   have ha:=yG (yY ea)
   simp only [Sum.elim_inr,Option.bind_some,Option.bind_assoc,ndT,ha]
   refine Sm.mono (n:=t1.length - 1) ?_ (by omega)
   exact Sm.map (zbe g2 ⟨17,lit [],0,(hd ts).At_,⟨[a],true⟩⟩) (fun e=>rfl) fun b t2 eb g3=>by
    simp only [Sum.elim_inr,Sum.elim_inl,Option.bind_some,zZ]
 |false=>
 simp only [Bool.false_eq_true,if_false,zY g,Option.bind_some]
 cases h7:isP [97,98,111,114,116] ts with
 |true=>
  have g1:=g.is h7
  simp only [if_true,Option.bind_assoc]
  refine Sm.mono (n:=ts.tail.length - 1) ?_ (by omega)
  exact Sm.map (zcL g1 ⟨18,lit [],0,(hd ts).At_,zq⟩) (fun e=>rfl) fun a t2 ea g2=>by
   obtain ⟨_,t3,_,e⟩:=zb ea
   cases e;rfl
 |false=>
 simp only [Bool.false_eq_true,if_false,zY g,Option.bind_some]
 cases h8:isP [102,111,114,107] ts with
 |true=>
  simp only [if_true,Option.bind_assoc]
  refine (ZX (g.is h8)).bd (fun e=>rfl) fun n t1 _ g1 l1=>?_
  simp only [Sum.elim_inr,Option.bind_assoc]
  refine (zdw g1).bd (fun e=>rfl) fun ks t2 _ g2 l2=>?_
  simp only [Sum.elim_inr,zj7,Option.bind_some,Option.bind_assoc,ndT]
  refine Sm.mono (n:=t2.length - 1) ?_ (by omega)
  exact Sm.map (zbe g2 ⟨19,n.Text_,n.Num_,(hd ts).At_,ks⟩) (fun e=>rfl) fun b t2 eb g3=>by
   simp only [Sum.elim_inr,Sum.elim_inl,Option.bind_some,zZ]
 |false=>
 simp only [Bool.false_eq_true,if_false,Option.bind_some,Sum.elim_inr,Option.bind_assoc]
 refine (ZX g).bd (fun e=>rfl) fun n t1 _ g1 l1=>?_
 simp only [Sum.elim_inr,Option.bind_assoc]
 refine (zls g1 n).bd (fun e=>rfl) fun m t2 _ g2 l2=>?_
 simp only [Sum.elim_inr,Option.bind_assoc,ndK,ndT,zZ]
 refine Sm.mono (n:=t2.length - 1) ?_ (by omega)
 exact Sm.map (zbe g2 m) (fun e=>rfl) fun b t2 eb g3=>by
  simp only [Sum.elim_inr,Sum.elim_inl,Option.bind_some,zZ]
end Go.Px
namespace Go.Px
set_option linter.unusedVariables false
set_option linter.unusedSimpArgs false
variable {d:Int}{n:Nat}{ts:List Tk}
variable {h:PSt→Option ((Int×Int)×PSt⊕(Int×ByteArray×Int×Int)×PSt×Sl Nd)}{blk:List Tk→PR Nd}
theorem zmv {acc:List Nd}{a:Nd}(h:acc.length≤30000):ZL 64 (mkS acc) [a]=some (mkS (acc++[a])):=by
 rw [XA (by simp [mkS];omega) (by simp [mkS];omega)]
 simp [mkS]
noncomputable abbrev zdA (h:PSt→Option ((Int×Int)×PSt⊕(Int×ByteArray×Int×Int)×PSt×Sl Nd)):=q63 qc qk qh qd qb (q11 h)
theorem zcO (hb:zcM d h blk) {u v:Int×ByteArray×Int×Int}:∀ (k:Nat) (ts:List Tk) (acc:List Nd),TGood ts→ts.length≤k→acc.length+ts.length≤30000→
    Sm d (ts.length - 1) (Yj (ZQ blk) k acc ts) (lpO (zdA h) ((⟨ts,true⟩,d),u,v,mkS acc)) Sum.inl (fun l st=>Sum.inr (st,u,v,mkS l))∧∀ l t1,Yj (ZQ blk) k acc ts = .ok (l,t1)→l.length+t1.length≤acc.length+ts.length
  |0,ts,acc,g,hk,ha=>absurd (List.eq_nil_of_length_eq_zero (by omega)) g.ne
  |k+1,ts,acc,g,hk,ha=>by
    have ht:=g.tail_len
    rw [zQ]
    show Sm d _ (if isP [125] ts=true then _ else _) ((((qb (lit [125],⟨ts,true⟩,d)).bind _)).bind _) _ _∧∀ l t1,(if isP [125] ts=true then _ else _)=_→_
    rw [zY g,Option.bind_some]
    cases e:isP [125] ts with
    |true=>
      simp only [if_true,Bool.not_true,Bool.false_eq_true,if_false]
      exact ⟨.ok (g.is e) (by omega) rfl,fun l t1 e=>by cases e;omega⟩
    |false=>
      simp only [Bool.false_eq_true,if_false,Bool.not_false,if_true]
      have s:=znc hb g
      cases es:ZQ blk ts with
      |error er=>
        obtain ⟨st,s⟩:=s.err es
        rw [s]
        exact ⟨⟨st,rfl⟩,fun l t1 e=>by cases e⟩
      |ok p=>
        obtain ⟨a,t1⟩:=p
        obtain ⟨s,g1,l1⟩:=s.out es
        rw [s]
        simp only [Option.bind_some,Sum.elim_inr,zZ]
        rw [zmv (by omega)]
        simp only [Option.bind_some]
        have ih:=zcO hb (u:=u) (v:=v) k t1 (acc++[a]) g1 (by omega) (by simp;omega)
        exact ⟨ih.1.mono (by omega),fun l t2 e2=>by have:=ih.2 l t2 e2;simp at this;omega⟩
theorem zfC:∀ (r:Nat) (k:Nat) (d:Int),d=8 - (r:Int)→0≤d→r+1≤k→zcM d (qx k) (yE r)
  |r,0,d,_,_,hk=>by omega
  |0,k+1,d,hd',h0,hk=>by
    intro ts g
    show Sm d _ _ ((qc (⟨ts,true⟩,d)).bind _) _ _
    rw [ZK g,Option.bind_some,YL g,Option.bind_some]
    unfold yE
    cases e:isP [123] ts with
    |true=>
      have:decide (8≤d)=true:=decide_eq_true (by omega)
      simp only [if_true,Option.bind_some,this,w8 g]
      exact ⟨_,rfl⟩
    |false=>
      simp only [Bool.false_eq_true,if_false,Option.bind_some]
      have hm:Zb [123] ts = .error ((hd ts).At_,20):=by unfold Zb;rw [e];rfl
      obtain ⟨st,s⟩:=(Zz (d:=d) g [123]).err hm
      rw [s]
      exact ⟨st,rfl⟩
  |r+1,k+1,d,hd',h0,hk=>by
    intro ts g
    show Sm d _ _ ((qc (⟨ts,true⟩,d)).bind _) _ _
    rw [ZK g,Option.bind_some,YL g,Option.bind_some]
    unfold yE
    have h8:decide (8≤d)=false:=decide_eq_false (by omega)
    have hb:=zfC r k (d+1) (by omega) (by omega) (by omega)
    have hw:IntKind.i64.wrap (d+1)=d+1:=yK (by omega) (by omega)
    have hw2:IntKind.i64.wrap (d+1 - 1)=d:=by rw [yK (by omega) (by omega)];omega
    have hlen:=g.len
    have fin:Sm d (ts.length - 1) ((Zb [123] ts).bd fun _ t1=>(Yj (ZQ (yE r)) t1.length [] t1).bd fun l t2 =>.ok (⟨9,lit [],0,(hd ts).At_,mkS l⟩,t2))
        ((qd (lit [123],⟨ts,true⟩,d)).bind fun y4=>Sum.elim (fun y5=>some (Sum.inl y5)) (fun y6=>(lpO (zdA (qx k)) ((y6.1,IntKind.i64.wrap (y6.2+1)),(0,lit [],0,0),(9,lit [],0,(hd ts).At_),Sl.mk [] false)).bind fun y13=>
          Sum.elim (fun y14=>some (Sum.inl y14)) (fun y15=>some (Sum.inr (y15.2.2.1,(y15.1.1,IntKind.i64.wrap (y15.1.2 - 1)),y15.2.2.2))) y13) y4) Sum.inl (fun n st=>Sum.inr (ndK n st)):=by
      refine (Zz g [123]).bd (fun e=>rfl) fun _ t1 _ g1 l1=>?_
      have lp:=(zcO hb (u:=(0,lit [],0,0)) (v:=(9,lit [],0,(hd ts).At_)) t1.length t1 [] g1 (Nat.le_refl _) (by simp;omega)).1
      simp only [Sum.elim_inr,hw]
      show Sm d _ _ ((lpO (zdA (qx k)) ((⟨t1,true⟩,d+1),(0,lit [],0,0),(9,lit [],0,(hd ts).At_),mkS [])).bind _) _ _
      cases es:Yj (ZQ (yE r)) t1.length [] t1 with
      |error er=>obtain ⟨st,s⟩:=lp.err es;rw [s];exact ⟨st,rfl⟩
      |ok p=>
        obtain ⟨l,t2⟩:=p
        obtain ⟨s,g2,l2⟩:=lp.out es
        rw [s]
        simp only [Option.bind_some,Sum.elim_inr,hw2]
        exact .ok g2 (by omega) rfl
    cases e:isP [123] ts with
    |true=>
      simp only [if_true,Option.bind_some,h8,Bool.false_eq_true,if_false]
      exact fin
    |false=>
      simp only [Bool.false_eq_true,if_false,Option.bind_some]
      exact fin
theorem znd:zcM 0 q4r (yE 8):=zfC 8 100000 0 (by omega) (by omega) (by omega)
theorem zpz {xs l:List Nd}{b:Bool}(h:xs.length+l.length≤60000) (hl:l≠[]):ZL 64 (⟨xs,b⟩:Sl Nd) l=some ⟨xs++l,true⟩:=by
 rw [XA (by simp;omega) (by simp;omega)]
 cases l with
 |nil=>exact absurd rfl hl
 |cons=>simp
theorem zpA (g:TGood ts) (at_:Int):Sm 0 (ts.length - 1) (fnP at_ ts) (q4d (at_,⟨ts,true⟩,0)) Sum.inl (fun n st=>Sum.inr (ndK n st)):=by
 have hlen:=g.len
 show Sm 0 _ _ ((qe (⟨ts,true⟩,0)).bind _) _ _
 refine (ZX g).bd (fun e=>rfl) fun n t1 _ g1 l1=>?_
 refine (Zz g1 [40]).bd (fun e=>rfl) fun _ t2 _ g2 l2=>?_
 simp only [Sum.elim_inr,YL g2,Option.bind_some]
 have h2:=g2.tail_len
 refine Sm.bd (er:=Sum.inl) (ok:=fun (l:List Nd) (st:PSt)=>Sum.inr (st,(0,lit [],0,0),(6,n.Text_,n.Num_,at_),(mkS l:Sl Nd))) (n:=t2.length) ?_ (fun e=>rfl) fun ks t3 e3 g3 l3=>?_
 ·cases e:isP [41] t2 with
  |true=>exact .ok g2 (Nat.le_refl _) rfl
  |false=>
   simp only [Bool.false_eq_true,if_false,Bool.not_false,if_true]
   refine Sm.mono (n:=t2.length - 1) ?_ (by omega)
   obtain ⟨k1,k2⟩:=VS (d:=0) g2
   refine Sm.map k1 (fun e=>rfl) fun l t3 el g3=>?_
   have hne:l≠[]:=by
    obtain ⟨a,t,_,e2⟩:=zb el
    have:∀ (k:Nat) (acc:List Nd) (t:List Tk) (l:List Nd) (t3:List Tk),acc≠[]→yj YC k acc t = .ok (l,t3)→l≠[]:=by
     intro k
     induction k with
     |zero=>intro acc t l t3 ha e;cases e;exact ha
     |succ k ih=>
      intro acc t l t3 ha e
      unfold yj at e
      split at e
      ·obtain ⟨a,t',_,e⟩:=zb e
       exact ih _ _ _ _ (by simp) e
      ·cases e;exact ha
    exact this _ _ _ _ _ (by simp) e2
   cases l with
   |nil=>exact absurd rfl hne
   |cons a l=>rfl
 have hks:ks.length≤20001:=by
  have hlen2:=g2.len
  split at e3
  ·cases e3;simp
  ·have:=(VS (d:=0) g2).2 ks t3 e3;omega
 refine (Zz g3 [41]).bd (fun e=>rfl) fun _ t4 _ g4 l4=>?_
 simp only [Sum.elim_inr,zY g4,Option.bind_some]
 have h4:=g4.tail_len
 refine Sm.bd (er:=Sum.inl) (ok:=fun (m:Nd) (st:PSt)=>Sum.inr (st,(0,lit [],0,0),(6,n.Text_,n.Num_,at_),(m.Kind_,m.Text_,m.Num_,m.At_,m.Kids_),(mkS ks:Sl Nd))) (n:=t4.length) ?_ (fun e=>rfl) fun ret t5 e5 g5 l5=>?_
 ·cases e:isP [45,62] t4 with
  |true=>
   have g5:=g4.is e
   simp only [if_true,YL g5,Option.bind_some]
   cases e2:isP [38] t4.tail with
   |true=>simp only [if_true,w8 g5,Option.bind_some];exact ⟨_,rfl⟩
   |false=>
    simp only [Bool.false_eq_true,if_false]
    refine Sm.mono (n:=t4.tail.length - 1) ?_ (by omega)
    exact Sm.map (zhb g5) (fun e=>rfl) fun a t _ _=>rfl
  |false=>
   simp only [Bool.false_eq_true,if_false,ZK g4,Option.bind_some]
   exact .ok g4 (Nat.le_refl _) rfl
 refine (znd t5 g5).bd (fun e=>rfl) fun b t6 _ g6 l6 =>.ok g6 (by omega) ?_
 simp only [Sum.elim_inr,ndK,ndT,zZ,mkS]
 rw [zpz (by simp;omega) (by simp)]
 rfl
end Go.Px
namespace Go.Px
set_option linter.unusedVariables false
set_option linter.unusedSimpArgs false
mutual
def z8:Nd→Nat
 |⟨_,_,_,_,ks⟩=>zmw ks+1
def zmw:Sl Nd→Nat
 |⟨xs,_⟩=>zi xs
def zi:List Nd→Nat
 |[]=>0
 |a::r=>z8 a+zi r
end
theorem zk (n:Nd):z8 n=zi n.Kids_.xs+1:=by
 obtain ⟨a,b,c,d,⟨xs,nn⟩⟩:=n
 simp [z8,zmw]
theorem Zw:∀ (a b:List Nd),zi (a++b)=zi a+zi b
 |[],b=>by simp [zi]
 |x::a,b=>by simp [zi,Zw a b];omega
theorem zK {s:List UInt8}{ts:List Tk}(h:isP s ts=true):ts.tail.length+1=ts.length:=by
 cases ts with
 |nil=>exact absurd rfl (zfw h)
 |cons=>simp
theorem Zu {s:List UInt8}{ts t1:List Tk}{u:Unit}(h:Zb s ts = .ok (u,t1)):t1.length+1=ts.length:=by
 unfold Zb at h
 split at h
 ·rename_i h1;cases h;exact zK h1
 ·cases h
theorem zei {k:Int}(hk:k≠0) {ts t1:List Tk}{t:Tk}(h:xn k ts = .ok (t,t1)):t1.length+1=ts.length:=by
 unfold xn at h
 split at h
 ·rename_i h1
  cases h
  cases ts with
  |nil=>exact absurd h1.symm hk
  |cons=>simp
 ·cases h
theorem xg {sg:Int}{ts t1:List Tk}{v:Int}(h:Yu sg ts = .ok (v,t1)):t1.length+1=ts.length:=by
 obtain ⟨a,t,e,h⟩:=zb h
 cases h;exact zei (by omega) e
def Sz (p:List Tk→PR Nd):Prop:=∀ ts n t1,p ts = .ok (n,t1)→z8 n+3 * t1.length≤3 * ts.length∧t1.length+1≤ts.length
def SzL (p:List Tk→PR (List Nd)):Prop:=∀ ts n t1,p ts = .ok (n,t1)→zi n+3 * t1.length≤3 * ts.length∧t1.length+1≤ts.length
theorem ZM {ts t1:List Tk}{n:Nd}(h:Zm ts = .ok (n,t1)):z8 n=1∧t1.length+1=ts.length:=by
 obtain ⟨a,t,e,h⟩:=zb h
 cases h
 exact ⟨by simp [zk,zi],zei (by omega) e⟩
theorem zfD {ts t1:List Tk}{n m:Nd}(h:Y2 n ts = .ok (m,t1)):z8 m=z8 n∧t1.length≤ts.length:=by
 unfold Y2 at h
 split at h
 ·rename_i hp
  obtain ⟨a,t,e,h⟩:=zb h
  cases h
  have:=xg e;have:=zK hp
  exact ⟨by simp [zk,Nd.num],by omega⟩
 ·split at h
  ·rename_i hp
   obtain ⟨a,t,e,h⟩:=zb h
   cases h
   have:=xg e;have:=zK hp
   exact ⟨by simp [zk,Nd.num],by omega⟩
  ·cases h;exact ⟨rfl,Nat.le_refl _⟩
theorem Xp {ts t1:List Tk}{n:Nd}(h:Z2 ts = .ok (n,t1)):z8 n=1∧t1.length+1≤ts.length:=by
 unfold Z2 at h
 split at h
 ·obtain ⟨a,t,e,h⟩:=zb h
  cases h
  have:=xg e
  exact ⟨by simp [zk,zi],by omega⟩
 ·split at h
  ·rename_i hp
   obtain ⟨a,t,e,h⟩:=zb h
   cases h
   have:=xg e;have:=zK hp
   exact ⟨by simp [zk,zi],by omega⟩
  ·obtain ⟨a,t,e,h⟩:=zb h
   have h1:=ZM e;have h2:=zfD h
   exact ⟨by omega,by omega⟩
theorem zbz {one:List Tk→PR Nd}(ho:Sz one):∀ (k:Nat) (acc:List Nd) (ts:List Tk) (l:List Nd) (t1:List Tk),yj one k acc ts = .ok (l,t1)→zi l+3 * t1.length≤zi acc+3 * ts.length∧t1.length≤ts.length
 |0,acc,ts,l,t1,h=>by cases h;exact ⟨Nat.le_refl _,Nat.le_refl _⟩
 |k+1,acc,ts,l,t1,h=>by
  unfold yj at h
  split at h
  ·rename_i hp
   obtain ⟨a,t,e,h⟩:=zb h
   have h1:=ho _ _ _ e
   have h2:=zbz ho k _ _ _ _ h
   have h3:=zK hp
   rw [Zw] at h2
   simp only [zi] at h2
   omega
  ·cases h;exact ⟨Nat.le_refl _,Nat.le_refl _⟩
theorem Vq {one:List Tk→PR Nd}(ho:Sz one):SzL (yp one):=by
 intro ts l t1 h
 obtain ⟨a,t,e,h⟩:=zb h
 have h1:=ho _ _ _ e
 have h2:=zbz ho _ _ _ _ _ h
 simp only [zi] at h2
 omega
theorem zfE:Sz Z2:=fun ts n t1 h=>by have:=Xp h;omega
theorem zbW {ts t1:List Tk}{ks:Sl Nd}(h:wm ts = .ok (ks,t1)):zi ks.xs+3 * t1.length+3≤3 * ts.length∧t1.length+1≤ts.length:=by
 obtain ⟨u,t,e,h⟩:=zb h
 have h0:=Zu e
 split at h
 ·rename_i hp
  have:=zK hp
  cases h
  simp [zi];omega
 ·obtain ⟨l,t2,e2,h⟩:=zb h
  obtain ⟨u,t3,e3,h⟩:=zb h
  cases h
  have h1:=Vq zfE _ _ _ e2
  have h2:=Zu e3
  simp only;omega
theorem zj8:Sz Yi:=fun ts n t1 h=>by
 obtain ⟨a,t,e,h⟩:=zb h
 have h0:=ZM e
 split at h
 ·rename_i hp
  have:=zK hp
  obtain ⟨k,t2,e2,h⟩:=zb h
  obtain ⟨u,t3,e3,h⟩:=zb h
  cases h
  have h1:=ZM e2;have h2:=Zu e3
  simp only [zk,zi] at h1 ⊢;omega
 ·cases h
  simp only [zk,zi];omega
theorem zlt {ts t1:List Tk}{s:ByteArray}(h:Wt ts = .ok (s,t1)):t1.length+1=ts.length:=by
 unfold Wt at h
 split at h
 ·rename_i hp;cases h;exact zK hp
 ·split at h
  ·rename_i hp;cases h;exact zK hp
  ·split at h
   ·rename_i hp;cases h;exact zK hp
   ·cases h
theorem zfF:Sz YA:=fun ts n t1 h=>by
 obtain ⟨a,t,e,h⟩:=zb h
 obtain ⟨op,t2,e2,h⟩:=zb h
 obtain ⟨b,t3,e3,h⟩:=zb h
 cases h
 have h0:=Xp e;have h1:=zlt e2;have h2:=Xp e3
 simp only [zk,zi] at h0 h2 ⊢;omega
theorem zlu:Sz Xj:=fun ts n t1 h=>by
 have go:∀ {w:List UInt8} {a b:ByteArray} {c d:Int},isP w ts=true→((Zm ts.tail).bd fun k t1=>(.ok (⟨2,a,c,d,⟨[k],true⟩⟩,t1):PR Nd)) = .ok (n,t1)→z8 n+3 * t1.length≤3 * ts.length∧t1.length+1≤ts.length:=by
  intro w a b c d hp h
  obtain ⟨k,t,e,h⟩:=zb h
  cases h
  have h0:=ZM e;have:=zK hp
  simp only [zk,zi] at h0 ⊢;omega
 unfold Xj at h
 split at h
 ·rename_i hp;have:=zK hp;cases h;simp only [zk,zi];omega
 ·split at h
  ·rename_i hp;have:=zK hp;cases h;simp only [zk,zi];omega
  ·split at h
   ·rename_i hp;exact go (b:=lit []) hp h
   ·split at h
    ·rename_i hp;exact go (b:=lit []) hp h
    ·split at h
     ·rename_i hp;exact go (b:=lit []) hp h
     ·cases h
theorem zne (a:Int):Sz (Vo a):=fun ts n t1 h=>by
 obtain ⟨m,t,e,h⟩:=zb h
 obtain ⟨s,t2,e2,h⟩:=zb h
 obtain ⟨ks,t3,e3,h⟩:=zb h
 obtain ⟨ks2,t4,e4,h⟩:=zb h
 obtain ⟨u,t5,e5,h⟩:=zb h
 cases h
 have h0:=ZM e;have h1:=zlu _ _ _ e2;have h5:=Zu e5
 have h3:zi ks+3 * t3.length≤z8 s+3 * t2.length:=by
  split at e3
  ·rename_i hp
   obtain ⟨l,t6,e6,e7⟩:=zb e3
   obtain ⟨u,t7,e7,e8⟩:=zb e7
   cases e8
   have:=zK hp;have h6:=Vq zj8 _ _ _ e6;have:=Zu e7
   simp only [List.cons_append,List.nil_append,zi];omega
  ·cases e3;simp only [zi];omega
 have h4:zi ks2+3 * t4.length≤zi ks+3 * t3.length:=by
  split at e4
  ·rename_i hp
   obtain ⟨l,t6,e6,e7⟩:=zb e4
   cases e7
   have:=zK hp;have h6:=Vq zfF _ _ _ e6
   rw [Zw];omega
  ·cases e4;omega
 simp only [zk] at h1 h3 ⊢;omega
theorem zfG:Sz YB:=fun ts n t1 h=>by
 have go:∀ {t0:List Tk} {a:ByteArray} {c d:Int},t0.length+1≤ts.length→((Zm t0).bd fun k t1=>(.ok (⟨8,a,c,d,⟨[k],true⟩⟩,t1):PR Nd)) = .ok (n,t1)→z8 n+3 * t1.length≤3 * ts.length∧t1.length+1≤ts.length:=by
  intro t0 a c d hp h
  obtain ⟨k,t,e,h⟩:=zb h
  cases h
  have h0:=ZM e
  simp only [zk,zi] at h0 ⊢;omega
 unfold YB at h
 split at h
 ·rename_i hp;have:=zK hp;cases h;simp only [zk,zi];omega
 ·split at h
  ·rename_i hp;exact go (by have:=zK hp;omega) h
  ·obtain ⟨u,t,e,h⟩:=zb h
   have:=Zu e
   split at h
   ·rename_i hp;exact go (by have:=zK hp;omega) h
   ·exact go (by omega) h
theorem zj9:Sz YC:=fun ts n t1 h=>by
 obtain ⟨m,t,e,h⟩:=zb h
 obtain ⟨s,t2,e2,h⟩:=zb h
 obtain ⟨k,t3,e3,h⟩:=zb h
 cases h
 have h0:=ZM e;have h1:=Zu e2;have h2:=zfG _ _ _ e3
 simp only [zk,zi] at h2 ⊢;omega
theorem zka {k:Int}{ts t1:List Tk}{n:Nd}(h:atP k ts = .ok (n,t1)):z8 n=1∧t1.length+1≤ts.length:=by
 obtain ⟨m,t,e,h⟩:=zb h
 obtain ⟨s,t2,e2,h⟩:=zb h
 obtain ⟨v,t3,e3,h⟩:=zb h
 obtain ⟨u,t4,e4,h⟩:=zb h
 cases h
 have h0:=ZM e;have h1:=Zu e2;have h2:=xg e3;have h3:=Zu e4
 exact ⟨by simp [zk,zi],by omega⟩
theorem zlv:Sz yX:=fun ts n t1 h=>by
 unfold yX at h
 split at h
 ·rename_i hp
  obtain ⟨a,t,e,h⟩:=zb h
  cases h
  have:=zK hp;have:=xg e
  simp only [zk,zi];omega
 split at h
 ·rename_i hp
  obtain ⟨a,t,e,h⟩:=zb h
  cases h
  have:=zK hp;have:=ZM e
  simp only [zk,zi];omega
 split at h
 ·rename_i hp
  have:=zK hp
  split at h
  ·rename_i hq
   obtain ⟨a,t,e,h⟩:=zb h
   cases h
   have:=zK hq;have:=ZM e
   simp only [zk,zi];omega
  ·obtain ⟨a,t,e,h⟩:=zb h
   cases h
   have:=ZM e
   simp only [zk,zi];omega
 split at h
 ·exact zfE _ _ _ h
 obtain ⟨m,t,e,h⟩:=zb h
 have h0:=ZM e
 split at h
 ·obtain ⟨ks,t2,e2,h⟩:=zb h
  cases h
  have:=zbW e2
  simp only [zk];omega
 split at h
 ·rename_i hp
  obtain ⟨a,t2,e2,h⟩:=zb h
  obtain ⟨u,t3,e3,h⟩:=zb h
  cases h
  have:=zK hp;have h1:=Xp e2;have:=Zu e3
  simp only [zk,zi] at h1 ⊢;omega
 split at h
 ·rename_i hp
  obtain ⟨a,t2,e2,h⟩:=zb h
  cases h
  have:=zK hp.1;have h1:=ZM e2
  simp only [zk,zi] at h0 h1 ⊢;omega
 split at h
 ·rename_i hp
  obtain ⟨a,t2,e2,h⟩:=zb h
  cases h
  have:=zK hp.1;have h1:=ZM e2
  simp only [zk,zi] at h0 h1 ⊢;omega
 ·have:=zfD h;omega
theorem zkb {m n:Nd}{ts t1:List Tk}(h:xa m ts = .ok (n,t1)):z8 n+3 * t1.length≤3 * ts.length+2∧t1.length+1≤ts.length:=by
 unfold xa at h
 split at h
 ·obtain ⟨ks,t2,e2,h⟩:=zb h
  cases h
  have:=zbW e2
  simp only [zk,zi];omega
 split at h
 ·rename_i hp
  obtain ⟨a,t2,e2,h⟩:=zb h
  obtain ⟨u,t3,e3,h⟩:=zb h
  obtain ⟨u,t4,e4,h⟩:=zb h
  obtain ⟨b,t5,e5,h⟩:=zb h
  cases h
  have:=zK hp;have h1:=Xp e2;have:=Zu e3;have:=Zu e4;have h2:=Xp e5
  simp only [zk,zi] at h1 h2 ⊢;omega
 ·obtain ⟨u,t4,e4,h⟩:=zb h
  obtain ⟨b,t5,e5,h⟩:=zb h
  cases h
  have:=Zu e4;have h2:=zlv _ _ _ e5
  simp only [zk,zi] at h2 ⊢;omega
theorem XC {m n:Nd}{ts t1:List Tk}(h:Xo m ts = .ok (n,t1)):n=m∧t1.length+1=ts.length:=by
 obtain ⟨u,t,e,h⟩:=zb h
 cases h;exact ⟨rfl,Zu e⟩
theorem zcP {blk:List Tk→PR Nd}(hb:Sz blk) (k a:Int):Sz (xJ blk k a):=fun ts n t1 h=>by
 obtain ⟨m,t,e,h⟩:=zb h
 obtain ⟨b,t2,e2,h⟩:=zb h
 cases h
 have h0:=zfF _ _ _ e;have h1:=hb _ _ _ e2
 simp only [zk] at h0 h1 ⊢
 simp only [Zw,zi,zk];omega
theorem zlw {blk:List Tk→PR Nd}(hb:Sz blk):Sz (ZQ blk):=fun ts n t1 h=>by
 unfold ZQ at h
 split at h
 ·rename_i hp
  obtain ⟨a,t,e,h⟩:=zb h
  have:=zK hp;have:=ZM e;obtain ⟨rfl,h2⟩:=XC h
  simp only [zk,zi];omega
 split at h
 ·rename_i hp
  obtain ⟨a,t,e,h⟩:=zb h
  have:=zK hp;have:=zka e;obtain ⟨rfl,h2⟩:=XC h
  simp only [zk,zi];omega
 split at h
 ·rename_i hp
  obtain ⟨a,t,e,h⟩:=zb h
  have:=zK hp;have:=zka e;obtain ⟨rfl,h2⟩:=XC h
  simp only [zk,zi];omega
 split at h
 ·rename_i hp
  obtain ⟨a,t,e,h⟩:=zb h
  have:=zK hp;have h1:=zcP hb _ _ _ _ _ e
  split at h
  ·rename_i hq
   obtain ⟨b,t2,e2,h⟩:=zb h
   cases h
   have:=zK hq;have h2:=hb _ _ _ e2
   simp only [zk] at h1 h2 ⊢
   simp only [Zw,zi,zk];omega
  ·cases h
   simp only [zk] at h1 ⊢
   simp only [Zw,zi,zk];omega
 split at h
 ·rename_i hp
  have:=zK hp;have h1:=zcP hb _ _ _ _ _ h;omega
 split at h
 ·rename_i hp
  have:=zK hp
  split at h
  ·obtain ⟨rfl,h2⟩:=XC h
   simp only [zk,zi];omega
  ·obtain ⟨a,t,e,h⟩:=zb h
   have h1:=Xp e;obtain ⟨rfl,h2⟩:=XC h
   simp only [zk,zi] at h1 ⊢;omega
 split at h
 ·rename_i hp
  have:=zK hp;obtain ⟨rfl,h2⟩:=XC h
  simp only [zk,zi];omega
 split at h
 ·rename_i hp
  obtain ⟨a,t,e,h⟩:=zb h
  obtain ⟨ks,t2,e2,h⟩:=zb h
  have:=zK hp;have:=ZM e;have:=zbW e2;obtain ⟨rfl,h2⟩:=XC h
  simp only [zk];omega
 ·obtain ⟨a,t,e,h⟩:=zb h
  obtain ⟨m,t2,e2,h⟩:=zb h
  have:=ZM e;have:=zkb e2;obtain ⟨rfl,h2⟩:=XC h
  omega
theorem zej {one:List Tk→PR Nd}(ho:Sz one):∀ (k:Nat) (acc:List Nd) (ts:List Tk) (l:List Nd) (t1:List Tk),Yj one k acc ts = .ok (l,t1)→zi l+3 * t1.length+3≤zi acc+3 * ts.length∧t1.length+1≤ts.length
 |0,acc,ts,l,t1,h=>by cases h
 |k+1,acc,ts,l,t1,h=>by
  unfold Yj at h
  split at h
  ·rename_i hp;have:=zK hp;cases h;omega
  ·obtain ⟨a,t,e,h⟩:=zb h
   have h1:=ho _ _ _ e
   have h2:=zej ho k _ _ _ _ h
   rw [Zw] at h2
   simp only [zi] at h2
   omega
theorem zek:∀ r,Sz (yE r)
 |0=>fun ts n t1 h=>by unfold yE at h;split at h <;> cases h
 |r+1=>fun ts n t1 h=>by
  obtain ⟨u,t,e,h⟩:=zb (show ((Zb [123] ts).bd _)=_ from h)
  obtain ⟨l,t2,e2,h⟩:=zb h
  cases h
  have:=Zu e;have:=zej (zlw (zek r)) _ _ _ _ _ e2
  simp only [zk,mkS,zi] at this ⊢;omega
theorem zoz (a:Int):Sz (fnP a):=fun ts n t1 h=>by
 obtain ⟨m,t,e,h⟩:=zb h
 obtain ⟨u,t2,e2,h⟩:=zb h
 obtain ⟨ps,t3,e3,h⟩:=zb h
 obtain ⟨u,t4,e4,h⟩:=zb h
 obtain ⟨ret,t5,e5,h⟩:=zb h
 obtain ⟨b,t6,e6,h⟩:=zb h
 cases h
 have:=ZM e;have:=Zu e2;have:=Zu e4;have h6:=zek _ _ _ _ e6
 have h3:zi ps+3 * t3.length≤3 * t2.length:=by
  split at e3
  ·cases e3;simp only [zi];omega
  ·have:=Vq zj9 _ _ _ e3;omega
 have h5:z8 ret+3 * t5.length≤3 * t4.length+1:=by
  split at e5
  ·rename_i hp
   have:=zK hp
   split at e5
   ·cases e5
   ·have:=zfG _ _ _ e5;omega
  ·cases e5;simp only [zk,zi];omega
 simp only [zk] at h5 h6 ⊢
 simp only [Zw,zi,zk];omega
theorem zaD:∀ (k:Nat) (acc:List Nd) (ts:List Tk) (l:List Nd) (t1:List Tk),yF k acc ts = .ok (l,t1)→zi l+3 * t1.length≤zi acc+3 * ts.length
 |0,acc,ts,l,t1,h=>by cases h
 |k+1,acc,ts,l,t1,h=>by
  unfold yF at h
  split at h
  ·cases h;omega
  split at h
  ·rename_i hp
   obtain ⟨a,t,e,h⟩:=zb h
   have:=zK hp;have h1:=zoz _ _ _ _ e;have h2:=zaD k _ _ _ _ h
   rw [Zw] at h2
   simp only [zi] at h2;omega
  ·obtain ⟨u,t,e,h⟩:=zb h
   obtain ⟨a,t2,e2,h⟩:=zb h
   have:=Zu e;have h1:=zne _ _ _ _ e2;have h2:=zaD k _ _ _ _ h
   rw [Zw] at h2
   simp only [zi] at h2;omega
end Go.Px
namespace Go.Px
set_option linter.unusedVariables false
set_option linter.unusedSimpArgs false
theorem zel (n:Nd):1≤z8 n:=by rw [zk];omega
theorem zgC {xs:List Nd}{i:Nat}(h:i < xs.length):zi (xs.take (i+1))=zi (xs.take i)+z8 xs[i]:=by
 rw [List.take_succ_eq_append_getElem h,Zw];simp [zi]
theorem zdB (xs:List Nd) (i:Nat):zi (xs.take i)≤zi xs:=by
 have:=Zw (xs.take i) (xs.drop i)
 rw [List.take_append_drop] at this;omega
theorem zhc:∀ (k:Nat) (n:Nd),z8 n≤k→z8 n≤1000000000→q1u k n=some (z8 n:Int)
 |0,n,h,_=>by have:=zel n;omega
 |k+1,n,h,hb=>by
  obtain ⟨a,b,c,d,⟨xs,nn⟩⟩:=n
  show ((lpO (q4s (q1u k)) (1,(⟨xs,nn⟩:Sl Nd),Sl.len (⟨xs,nn⟩:Sl Nd),0)).bind fun y3=>some y3)=_
  have hs:z8 ⟨a,b,c,d,⟨xs,nn⟩⟩=zi xs+1:=by rw [zk]
  have loop:∀ (m i:Nat),i+m=xs.length→lpO (q4s (q1u k)) (((1+zi (xs.take i):Nat):Int),(⟨xs,nn⟩:Sl Nd),Sl.len (⟨xs,nn⟩:Sl Nd),(i:Int))=some ((1+zi xs:Nat):Int):=by
   intro m
   induction m with
   |zero=>
    intro i hi
    rw [zQ]
    have hf:q4s (q1u k) (((1+zi (xs.take i):Nat):Int),(⟨xs,nn⟩:Sl Nd),Sl.len (⟨xs,nn⟩:Sl Nd),(i:Int))=some (.done ((1+zi (xs.take i):Nat):Int)):=by
     show (if decide ((i:Int) < (xs.length:Int))=true then _ else _)=_
     rw [if_neg (by simp;omega)]
    rw [hf,List.take_of_length_le (by omega)]
    rfl
   |succ m ih=>
    intro i hi
    have hlt:i < xs.length:=by omega
    rw [zQ]
    have hg:zt (⟨xs,nn⟩:Sl Nd) (i:Int)=some xs[i]:=by
     unfold zt
     rw [if_pos (by omega)]
     simp [hlt]
    have h1:=zgC hlt
    have h2:=zdB xs (i+1)
    have hr:q1u k xs[i]=some (z8 xs[i]:Int):=zhc k xs[i] (by omega) (by omega)
    have hlen:xs.length≤zi xs:=by
     clear hr h1 h2 hg ih hs hb h hlt hi
     induction xs with
     |nil=>simp
     |cons x r ih=>have:=zel x;simp only [zi,List.length_cons];omega
    have hf:q4s (q1u k) (((1+zi (xs.take i):Nat):Int),(⟨xs,nn⟩:Sl Nd),Sl.len (⟨xs,nn⟩:Sl Nd),(i:Int))=some (.next (((1+zi (xs.take (i+1)):Nat):Int),(⟨xs,nn⟩:Sl Nd),Sl.len (⟨xs,nn⟩:Sl Nd),((i+1:Nat):Int))):=by
     show (if decide ((i:Int) < (xs.length:Int))=true then (zt (⟨xs,nn⟩:Sl Nd) (i:Int)).bind _ else _)=_
     rw [if_pos (by simp;omega),hg]
     simp only [Option.bind_some,zZ,hr]
     rw [yK (by omega) (by omega),yK (by omega) (by omega),h1]
     have e1:((1+zi (xs.take i):Nat):Int)+(z8 xs[i]:Int)=((1+(zi (xs.take i)+z8 xs[i]):Nat):Int):=by omega
     have e2:(i:Int)+1=((i+1:Nat):Int):=by omega
     rw [e1,e2]
    rw [hf]
    exact ih (i+1) (by omega)
  have:=loop xs.length 0 (by omega)
  simp only [List.take_zero,zi,Nat.add_zero] at this
  rw [show (1:Int)=((1:Nat):Int) from rfl,show (0:Int)=((0:Nat):Int) from rfl,this,hs,Nat.add_comm]
  rfl
theorem znf {l:List UInt8}{k:Int}{n:Nat}{v:Int}(h:nxt l = .tok k n v):(0≤v∧v≤1099511627776)∧k≠0:=by
 cases l with
 |nil=>cases h
 |cons c r=>
  unfold nxt at h
  simp only at h
  split at h
  ·cases h
  split at h
  ·cases h
  split at h
  ·unfold wl at h
   split at h
   ·cases h
   ·rename_i hb
    cases h
    unfold Xc at hb
    simp only [Bool.or_eq_true,decide_eq_true_eq,not_or] at hb
    omega
  split at h
  ·unfold Xd at h
   split at h
   ·cases h
   ·cases h
    refine ⟨by omega,?_⟩
    split <;> omega
  ·unfold xx at h
   split at h
   ·cases h
   ·cases h;omega
theorem zng {l:List UInt8}{e:Int}(h:nxt l = .err e):e≠0:=by
 cases l with
 |nil=>cases h;omega
 |cons c r=>
  unfold nxt at h
  simp only at h
  split at h
  ·cases h
  split at h
  ·cases h
  split at h
  ·unfold wl at h;split at h <;> cases h;omega
  split at h
  ·unfold Xd at h
   split at h
   ·cases h;omega
   ·cases h
  ·unfold xx at h
   split at h
   ·cases h;omega
   ·cases h
theorem Vr:∀ (f at_:Nat) (l:List UInt8) (ts:List Tk),xW f at_ l = .inr ts→∀ t∈ts,(0≤t.Num_∧t.Num_≤1099511627776)∧t.Kind_≠0
 |0,at_,l,ts,h=>by cases h;simp
 |f+1,at_,l,ts,h=>by
  unfold xW at h
  split at h
  ·cases h;simp
  split at h
  ·exact Vr f _ _ ts h
  ·cases h
  ·rename_i k n v hn
   split at h
   ·cases h
   ·rename_i ts' hts
    cases h
    intro t ht
    rcases List.mem_cons.1 ht with rfl | ht
    ·exact znf hn
    ·exact Vr f _ _ ts' hts t ht
theorem zkc {s:ByteArray}(h:(yP s).2.1=0):TGood (yP s).2.2.xs∧(yP s).2.2.nn=true:=by
 unfold yP at h ⊢
 by_cases hs:16384 < s.size
 ·rw [if_pos hs] at h;simp at h
 ·rw [if_neg hs] at h ⊢
  cases e:YI 0 (bs s) with
  |inl x=>
   rw [e] at h
   exfalso
   have:∀ (f a:Nat) (l:List UInt8) (x:Nat×Int),xW f a l = .inl x→x.2≠0:=by
    intro f
    induction f with
    |zero=>intro a l x h;cases h
    |succ f ih=>
     intro a l x h
     unfold xW at h
     split at h
     ·cases h
     split at h
     ·exact ih _ _ _ h
     ·rename_i e he
      cases h
      exact zng he
     ·split at h
      ·rename_i y hy;cases h;exact ih _ _ _ hy
      ·cases h
   exact this _ _ _ _ e h
  |inr ts=>
   have hl:=Vn (bs s).length (bs s) 0 ts (Nat.le_refl _) e
   rw [ZP] at hl
   refine ⟨⟨by simp,fun _=>by simp,by simp;omega,fun t ht=>?_⟩,rfl⟩
   simp only [List.mem_append,List.mem_singleton] at ht
   rcases ht with ht | rfl
   ·exact (Vr _ _ _ _ e t ht).1
   ·simp
def Vs:Nd:=⟨0,lit [],0,0,zq⟩
def Yk (s:ByteArray):Nd×Int×Int:=if (yP s).2.1≠0 then (Vs,(yP s).1,(yP s).2.1) else
 match yF (yP s).2.2.xs.length [] (yP s).2.2.xs with
 | .error e=>(Vs,e.1,e.2)
 | .ok (ks,_)=>if 4096 < zi ks+1 then (Vs,0,22) else (⟨0,lit [],0,0,mkS ks⟩,0,0)
noncomputable abbrev Zv:=q20 q4q qc qb q4d qd q4a q54 q6f q4h
theorem zfH {acc:List Nd}{z a:Nd}(h:acc.length≤30000):∃ y8:Sl Nd,ZL 64 (mkS acc) [z]=some y8∧zt y8 (Sl.len (mkS acc))=some z∧y8.set (Sl.len (mkS acc)) a=mkS (acc++[a]):=by
 refine ⟨_,zmv h,?_,?_⟩
 ·unfold zt mkS Sl.len
  rw [if_pos (by simp)]
  simp
 ·unfold mkS Sl.len Sl.set
  cases acc <;> simp
theorem Vt {a0 e0:Int}:∀ (k:Nat) (ts:List Tk) (acc:List Nd),TGood ts→ts.length≤k→acc.length+ts.length≤30000→
    match yF k acc ts with
    | .error e=>∃ st u v w,lpO Zv ((0,lit [],0,0),a0,e0,(⟨ts,true⟩,0),mkS acc)=some (.inl (e,u,v,w,st))
    | .ok (l,_)=>lpO Zv ((0,lit [],0,0),a0,e0,(⟨ts,true⟩,0),mkS acc)=some (.inr ((0,lit [],0,0),a0,e0,mkS l))
  |0,ts,acc,g,hk,ha=>absurd (List.eq_nil_of_length_eq_zero (by omega)) g.ne
  |k+1,ts,acc,g,hk,ha=>by
    have ht:=g.tail_len
    have key:∀ z,Zv ((0,lit [],0,0),a0,e0,(⟨ts,true⟩,0),mkS acc)=some z→lpO Zv ((0,lit [],0,0),a0,e0,(⟨ts,true⟩,0),mkS acc)=(match z with | .next x'=>lpO Zv x' | .done y=>some y):=fun z hz=>by rw [zQ,hz];cases z <;> rfl
    unfold yF
    by_cases h0:(hd ts).Kind_=0
    · rw [if_pos h0]
      have hz:Zv ((0,lit [],0,0),a0,e0,(⟨ts,true⟩,0),mkS acc)=some (.done (.inr ((0,lit [],0,0),a0,e0,mkS acc))):=by
        unfold Zv q20
        simp only [ZK g,Option.bind_some,decide_eq_true_eq]
        rw [if_neg (by simpa using h0)]
      exact key _ hz
    · rw [if_neg h0]
      cases e:isP [102,110] ts with
      |true=>
        simp only [if_true]
        have s:=zpA (g.is e) (hd ts).At_
        cases es:fnP (hd ts).At_ ts.tail with
        |error er=>
          obtain ⟨st,s⟩:=s.err es
          have hz:Zv ((0,lit [],0,0),a0,e0,(⟨ts,true⟩,0),mkS acc)=some (.done (.inl (er,(0,lit [],0,0),a0,e0,mkS acc))):=by
            unfold Zv q20
            simp only [ZK g,Option.bind_some,decide_eq_true_eq]
            rw [if_pos h0]
            simp only [zY g,Option.bind_some,e,if_true,s,Sum.elim_inl]
          exact ⟨_,_,_,_,key _ hz⟩
        |ok p=>
          obtain ⟨a,t1⟩:=p
          obtain ⟨s,g1,l1⟩:=s.out es
          obtain ⟨y8,q1,q2,q3⟩:=zfH (acc:=acc) (z:=⟨0,lit [],0,0,Sl.mk [] false⟩) (a:=a) (by omega)
          have hz:Zv ((0,lit [],0,0),a0,e0,(⟨ts,true⟩,0),mkS acc)=some (.next ((0,lit [],0,0),a0,e0,(⟨t1,true⟩,0),mkS (acc++[a]))):=by
            unfold Zv q20
            simp only [ZK g,Option.bind_some,decide_eq_true_eq]
            rw [if_pos h0]
            simp only [zY g,Option.bind_some,e,if_true,s,Sum.elim_inr,q1,q2,Zh,ndK,ndT,zZ,q3]
          have ih:=Vt (a0:=a0) (e0:=e0) k t1 (acc++[a]) g1 (by omega) (by simp;omega)
          rw [key _ hz]
          exact ih
      |false=>
        simp only [Bool.false_eq_true,if_false]
        have s0:=Zz (d:=0) g [116,121,112,101]
        cases em:Zb [116,121,112,101] ts with
        |error er=>
          obtain ⟨st,s⟩:=s0.err em
          have hz:Zv ((0,lit [],0,0),a0,e0,(⟨ts,true⟩,0),mkS acc)=some (.done (.inl (er,(0,lit [],0,0),a0,e0,mkS acc))):=by
            unfold Zv q20
            simp only [ZK g,Option.bind_some,decide_eq_true_eq]
            rw [if_pos h0]
            simp only [zY g,Option.bind_some,e,Bool.false_eq_true,if_false,s,Sum.elim_inl]
          exact ⟨_,_,_,_,key _ hz⟩
        |ok p=>
          obtain ⟨u,t0⟩:=p
          obtain ⟨s,g0,l0⟩:=s0.out em
          have s1:=zoy (d:=0) g0 (hd ts).At_
          simp only [PR.bd]
          cases es:Vo (hd ts).At_ t0 with
          |error er=>
            obtain ⟨st,s2⟩:=s1.err es
            have hz:Zv ((0,lit [],0,0),a0,e0,(⟨ts,true⟩,0),mkS acc)=some (.done (.inl (er,(0,lit [],0,0),a0,e0,mkS acc))):=by
              unfold Zv q20
              simp only [ZK g,Option.bind_some,decide_eq_true_eq]
              rw [if_pos h0]
              simp only [zY g,Option.bind_some,e,Bool.false_eq_true,if_false,s,s2,Sum.elim_inr,Sum.elim_inl]
            exact ⟨_,_,_,_,key _ hz⟩
          |ok p=>
            obtain ⟨a,t1⟩:=p
            obtain ⟨s2,g1,l1⟩:=s1.out es
            obtain ⟨y8,q1,q2,q3⟩:=zfH (acc:=acc) (z:=⟨0,lit [],0,0,Sl.mk [] false⟩) (a:=a) (by omega)
            have hz:Zv ((0,lit [],0,0),a0,e0,(⟨ts,true⟩,0),mkS acc)=some (.next ((0,lit [],0,0),a0,e0,(⟨t1,true⟩,0),mkS (acc++[a]))):=by
              unfold Zv q20
              simp only [ZK g,Option.bind_some,decide_eq_true_eq]
              rw [if_pos h0]
              simp only [zY g,Option.bind_some,e,Bool.false_eq_true,if_false,s,s2,Sum.elim_inr,q1,q2,Zh,ndK,ndT,zZ,q3]
            have ih:=Vt (a0:=a0) (e0:=e0) k t1 (acc++[a]) g1 (by omega) (by simp;omega)
            rw [key _ hz]
            exact ih
theorem Vu (s:ByteArray):q1v s=some (Yk s):=by
 show ((q4q s).bind _)=_
 rw [zj5,Option.bind_some]
 unfold Yk
 simp only [decide_eq_true_eq]
 by_cases h:(yP s).2.1=0
 case neg=>rw [if_pos h,if_pos h];rfl
 case pos=>
 rw [if_neg (by simpa using h),if_neg (by simpa using h)]
 obtain ⟨g,hn⟩:=zkc h
 generalize hx:(yP s).2.2=X at g hn
 obtain ⟨ts,nn⟩:=X
 simp only at g hn
 subst hn
 have lp:=Vt (a0:=(yP s).1) (e0:=(yP s).2.1) ts.length ts [] g (Nat.le_refl _) (by have:=g.len;simp;omega)
 have hlen:=g.len
 show ((lpO Zv ((0,lit [],0,0),(yP s).1,(yP s).2.1,((⟨ts,true⟩:Sl Tk),0),mkS [])).bind _)=_
 cases e:yF ts.length [] ts with
 |error er=>
  rw [e] at lp
  obtain ⟨st,u,v,w,lp⟩:=lp
  rw [lp];rfl
 |ok p=>
  obtain ⟨l,t1⟩:=p
  rw [e] at lp
  simp only at lp
  rw [lp]
  have hsz:=zaD _ _ _ _ _ e
  simp only [zi] at hsz
  have hsize:q6f ⟨0,lit [],0,0,mkS l⟩=some ((zi l+1:Nat):Int):=by
   have:=zhc 100000 ⟨0,lit [],0,0,mkS l⟩ (by rw [zk];simp only [mkS];omega) (by rw [zk];simp only [mkS];omega)
   rw [zk] at this
   exact this
  simp only [Option.bind_some,Sum.elim_inr,hsize,decide_eq_true_eq]
  by_cases hb:4096 < zi l+1
  ·rw [if_pos (by omega),if_pos hb];rfl
  ·rw [if_neg (by omega),if_neg hb];rfl
end Go.Px
