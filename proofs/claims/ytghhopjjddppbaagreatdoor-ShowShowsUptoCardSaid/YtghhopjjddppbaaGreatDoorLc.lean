/- Part Lc: Px03S Px03T Px03U Px03V Px03X Px03Y Px03Z Px0 -/
import Derived.Test.YtghhopjjddppbaaGreatDoorLa
namespace Go.Px
set_option linter.unusedVariables false
set_option linter.unusedSimpArgs false
def kK (ks:List Nd):List Int:=ks.map (·.Kind_)
def Ws (k:Int) (ks:List Nd):Bool:=ks.all fun n=>decide (n.Kind_=k)
def Yy (k:Int):Bool:=decide (10≤k) && decide (k≤20)
def Xj (k:Int):Bool:=decide (k=5) || (decide (21≤k) && decide (k≤28))
def YO (k:Int):Option (List Int):=
 if k=4∨k=11∨k=21∨k=22 then some [5,5]
 else if k=7 then some [8]
 else if k=15 then some [5,5,9,9]
 else if k=16 then some [5,5,9]
 else if k=20 then some [28]
 else if k=25 then some [5]
 else if k=5∨k=12∨k=13∨k=14∨k=18∨k=23∨k=24∨k=26∨k=27 then some []
 else none
def zH:List Nd→Nat
 |[]=>0
 |n::r=>if n.Kind_=3 then zH r+1 else 0
def yn (k:Int) (ks:List Nd):Bool:=match YO k with
 |some w=>decide (kK ks=w)
 |none=>
  if k=0 then ks.all fun n=>decide (n.Kind_=1) || decide (n.Kind_=6)
  else if k=1 then match ks with
   |[]=>false
   |s::r=>decide (s.Kind_=2) && Ws 4 (r.drop (zH r))
  else if k=2∨k=3∨k=17∨k=8 then decide (ks.length < 2) && Ws 5 ks
  else if k=6 then decide (2≤ks.length) && Ws 7 (ks.take (ks.length - 2)) && decide (kK (ks.drop (ks.length - 2))=[8,9])
  else if k=9 then ks.all fun n=>Yy n.Kind_
  else if k=10 then match ks with
   |[a]=>Xj a.Kind_
   |_=>false
  else if k=19∨k=28 then Ws 5 ks
  else false
def wR (b:List UInt8) (l:List (List UInt8)):List UInt8:=Lib.join l b
def zb2:List Nd→Bool
 |n::_=>n.Kids_.xs.isEmpty
 |[]=>true
def zeO:List Nd→Bool
 |n::_=>(bs n.Text_).isEmpty
 |[]=>true
def Z4 (l:List (List UInt8)):List UInt8:=wR [44,32] l
def z6 (d:Nat):List UInt8:=List.replicate (4 * d) 32
def at0 (l:List (List UInt8)) (i:Nat):List UInt8:=l.getD i []
def zav (t:List UInt8) (v:Int):List UInt8:=
 if t=[] then Lib.itoa v else if 0 < v then t++[32,43,32]++Lib.itoa v else if v < 0 then t++[32,45,32]++(Lib.itoa v).drop 1 else t
def shB (k:Int) (t:List UInt8) (v:Int) (ks:List Nd) (s i:List (List UInt8)) (d:Nat):List UInt8:=
 if k=0 then (s.map (·++[10])).flatten
 else if k=1 then [116,121,112,101,32]++t++[32]++at0 s 0
  ++(if 0 < zH ks.tail then [32,123,32]++Z4 ((s.drop 1).take (zH ks.tail))++[32,125] else [])
  ++(if 1+zH ks.tail < ks.length then [32,119,104,101,114,101,32]++Z4 (s.drop (1+zH ks.tail)) else [])++[59]
 else if k=2 then (if ks.isEmpty then t else t++[32]++at0 s 0)
 else if k=3 then (if ks.isEmpty then t else t++[91]++at0 s 0++[93])
 else if k=4 then at0 s 0++[32]++t++[32]++at0 s 1
 else if k=5 then zav t v
 else if k=6 then [102,110,32]++t++[40]++Z4 (s.take (ks.length - 2))++[41]
  ++(if zeO (ks.drop (ks.length - 2)) then [] else [32,45,62,32]++at0 s (ks.length - 2))++[32]++at0 s (ks.length - 1)
 else if k=7 then t++[58,32]++at0 s 0
 else if k=8 then (if t=[38] then [38]++wR [] s else if t=[38,109,117,116]∨t=[111,119,110] then t++[32]++wR [] s else t)
 else if k=9 then [123,10]++(i.map fun x=>z6 (d+1)++x++[10]).flatten++z6 d++[125]
 else if k=10 then t++[32,61,32]++at0 s 0++[59]
 else if k=11 then t++[91]++at0 s 0++[93,32,61,32]++at0 s 1++[59]
 else if k=12 then [102,114,101,101,32]++t++[59]
 else if k=13 then [108,111,99,107,32]++(t++[91]++Lib.itoa v++[93,59])
 else if k=14 then [117,110,108,111,99,107,32]++(t++[91]++Lib.itoa v++[93,59])
 else if k=15 then [105,102]++[32]++at0 s 0++[32]++t++[32]++at0 s 1++[32]++at0 s 2
  ++(if zb2 (ks.drop 3) then [] else [32,101,108,115,101,32]++at0 s 3)
 else if k=16 then [119,104,105,108,101]++[32]++at0 s 0++[32]++t++[32]++at0 s 1++[32]++at0 s 2
 else if k=17 then (if ks.isEmpty then [114,101,116,117,114,110,59] else [114,101,116,117,114,110,32]++at0 s 0++[59])
 else if k=18 then [97,98,111,114,116,59]
 else if k=19 then [102,111,114,107,32]++t++[40]++Z4 s++[41,59]
 else if k=20 then at0 s 0++[59]
 else if k=21 then at0 s 0++[32,43,32]++at0 s 1
 else if k=22 then at0 s 0++[32,45,32]++at0 s 1
 else if k=23 then [110,101,119,32]++Lib.itoa v
 else if k=24 then [97,114,114,97,121,32]++t
 else if k=25 then t++[91]++at0 s 0++[93]
 else if k=26 then [38]++t
 else if k=27 then [38,109,117,116,32]++t
 else t++[40]++Z4 s++[41]
def shG (k:Int) (t:List UInt8) (v:Int) (ks:List Nd) (s i:List (List UInt8)) (d:Nat):List UInt8:=if yn k ks=true then shB k t v ks s i d else [63]
mutual
def shN:Nd→Nat→List UInt8
 |⟨k,t,v,_,ks⟩,d=>shG k (bs t) v ks.xs (shS ks d) (shS ks (d+1)) d
def shS:Sl Nd→Nat→List (List UInt8)
 |⟨xs,_⟩,d=>shL xs d
def shL:List Nd→Nat→List (List UInt8)
 |[],_=>[]
 |a::r,d=>shN a d::shL r d
end
theorem zf9:∀ (l:List Nd) (d:Nat),shL l d=l.map fun n=>shN n d
 |[],d=>by simp [shL]
 |a::r,d=>by simp [shL,zf9 r d]
theorem V0 (n:Nd) (d:Nat):shN n d=shG n.Kind_ (bs n.Text_) n.Num_ n.Kids_.xs (n.Kids_.xs.map fun a=>shN a d) (n.Kids_.xs.map fun a=>shN a (d+1)) d:=by
 obtain ⟨a,b,c,e,⟨xs,nn⟩⟩:=n
 rw [shN]
 simp only [shS,zf9]
end Go.Px
namespace Go.Px
set_option linter.unusedVariables false
set_option linter.unusedSimpArgs false
theorem yz {α:Type}(s:Sl α) (i:Nat):zk s (i:Int)=s.xs[i]?:=by
 unfold zk
 rw [if_pos (Int.natCast_nonneg i)]
 simp
theorem Z1 {n:Nat}(h:n < 9000000000000000000):IntKind.i64.wrap ((n:Int)+1)=((n+1:Nat):Int):=ZV (by omega)
theorem Zf {σ α:Type}{f:σ→Option (Step σ (Bool⊕Unit))}{xs:List α}{p:α→Bool}(st:Nat→σ)
    (hs:∀ i c,xs[i]?=some c→f (st i)=some (if p c=true then .next (st (i+1)) else .done (.inl false))) (he:f (st xs.length)=some (.done (.inr ()))) :
    lpO f (st 0)=some (if xs.all p=true then .inr () else .inl false):=by
  have key:∀ n i,n+i=xs.length→lpO f (st i)=some (if (xs.drop i).all p=true then .inr () else .inl false):=by
    intro n
    induction n with
    |zero=>
      intro i hi
      have hi:i=xs.length:=by omega
      subst hi
      rw [zC,he]
      simp
    |succ n ih=>
      intro i hi
      obtain ⟨c,hc,hd⟩:=drop_cons' (l:=xs) (i:=i) (by omega)
      rw [zC,hs i c hc,hd]
      by_cases hp:p c=true
      · rw [if_pos hp]
        show lpO f (st (i+1))=_
        rw [ih (i+1) (by omega)]
        simp [hp]
      · rw [if_neg hp]
        simp [hp]
  have:=key xs.length 0 (by omega)
  simpa using this
where
 drop_cons' {α:Type} {l:List α} {i:Nat} (h:i < l.length):∃ c,l[i]?=some c∧l.drop i=c::l.drop (i+1):=
  ⟨l[i],List.getElem?_eq_getElem h,List.drop_eq_getElem_cons h⟩
theorem zaw (s:Sl Nd) (k:Int) (h:s.xs.length≤30000):q4p (s,k)=some (Ws k s.xs):=by
 have hl:=Zf (f:=q46) (xs:=s.xs) (p:=fun n=>decide (n.Kind_=k)) (fun i=>(k,s,s.len,(i:Int)))
  (fun i c hc=>by
   have hi:i < s.xs.length:=(List.getElem?_eq_some_iff.1 hc).1
   unfold q46
   dsimp only
   rw [if_pos (by simp [Sl.len];omega),yz,hc,Option.bind_some,Z1 (by omega)]
   by_cases e:c.Kind_=k
   ·simp [e]
   ·simp [e])
  (by
   unfold q46
   dsimp only
   rw [if_neg (by simp [Sl.len])])
 have hl:lpO q46 (k,s,s.len,0)=_:=hl
 unfold q4p q5x
 dsimp only
 rw [hl]
 unfold Ws
 cases List.all s.xs fun n=>decide (n.Kind_=k) <;> rfl
theorem zga {α β:Type}{l:List α}{r:List β}{i:Nat}{c:α×β}(h:(l.zip r)[i]?=some c):l[i]?=some c.1∧r[i]?=some c.2:=by
 rw [List.getElem?_zip_eq_some] at h
 exact h
theorem zcO:∀ (l:List Nd) (r:List Int),l.length=r.length→((l.zip r).all fun c=>decide (c.1.Kind_=c.2))=decide (kK l=r)
 |[],[],_=>rfl
 |a::l,b::r,h=>by
  have ih:=zcO l r (by simpa using h)
  simp only [List.zip_cons_cons,List.all_cons,ih,kK,List.map_cons]
  by_cases e:a.Kind_=b
  ·simp [e]
   exact decide_eq_decide.2 Iff.rfl
  ·simp [e]
 |[],_::_,h=>by simp at h
 |_::_,[],h=>by simp at h
theorem zb3 (s:Sl Nd) (w:Sl Int) (h:s.xs.length≤30000):q30 (s,w)=some (decide (kK s.xs=w.xs)):=by
 unfold q30 q4l
 dsimp only
 by_cases hl:s.xs.length=w.xs.length
 ·have e:¬ (Sl.len s≠Sl.len w):=by simp [Sl.len,hl]
  have hz:(s.xs.zip w.xs).length=s.xs.length:=by simp [hl]
  have hlp:=Zf (f:=q2l) (xs:=s.xs.zip w.xs) (p:=fun c=>decide (c.1.Kind_=c.2)) (fun i=>(w,s,s.len,(i:Int)))
   (fun i c hc=>by
    obtain ⟨h1,h2⟩:=zga hc
    have hi:i < s.xs.length:=(List.getElem?_eq_some_iff.1 h1).1
    unfold q2l
    dsimp only
    rw [if_pos (by simp [Sl.len];omega),yz,h1,Option.bind_some,yz,h2,Option.bind_some,Z1 (by omega)]
    by_cases e:c.1.Kind_=c.2
    ·simp [e]
    ·simp [e])
   (by
    unfold q2l
    dsimp only
    rw [hz,if_neg (by simp [Sl.len])])
  have hlp:lpO q2l (w,s,s.len,0)=_:=hlp
  rw [if_neg (by simpa using e),hlp,zcO _ _ hl]
  by_cases q:kK s.xs=w.xs
  ·simp [q]
  ·simp [q]
 ·have e:Sl.len s≠Sl.len w:=by simp only [Sl.len];omega
  rw [if_pos (by simpa using e)]
  have:¬ kK s.xs=w.xs:=fun q=>hl (by rw [← q];simp [kK])
  simp [this]
theorem V1 (k:Int):qx k=some (Yy k):=by
 unfold qx q3z Yy
 by_cases h:10≤k <;> simp [h]
theorem Vb (k:Int):q11 k=some (Xj k):=by
 unfold q11 q3h Xj
 by_cases h:k=5
 ·simp [h]
 ·by_cases h2:21≤k <;> simp [h,h2]
def vK (k:Int):Bool×Sl Int:=match YO k with
 |some []=>(true,⟨[],false⟩)
 |some w=>(true,⟨w,true⟩)
 |none=>(false,⟨[],false⟩)
theorem XM (k:Int):(k=0∨k=1∨k=2∨k=3∨k=4∨k=5∨k=6∨k=7∨k=8∨k=9∨k=10∨k=11∨k=12∨k=13∨k=14∨k=15∨k=16∨k=17∨k=18∨k=19∨k=20∨k=21∨k=22∨k=23∨k=24∨k=25∨k=26∨k=27∨k=28)∨k < 0∨28 < k:=by omega
theorem zfA (k:Int):q2k k=some (vK k):=by
 rcases XM k with h | h
 ·rcases h with rfl | rfl | rfl | rfl | rfl | rfl | rfl | rfl | rfl | rfl | rfl | rfl | rfl | rfl | rfl | rfl | rfl | rfl | rfl | rfl | rfl | rfl | rfl | rfl | rfl | rfl | rfl | rfl | rfl <;> rfl
 ·have n:∀ c:Int,0≤c→c≤28→¬ k=c:=fun c h0 h1 e=>by omega
  have w:vK k=(false,⟨[],false⟩):=by
   unfold vK YO
   simp [n]
  rw [w]
  unfold q2k q45
  simp [n]
theorem zi6 (s:Sl Nd) (h:s.xs.length≤30000) {a b c d e}:lpO (q4q a b c d e) (s,s.len,0)=some (if (s.xs.all fun n=>decide (n.Kind_=1) || decide (n.Kind_=6))=true then .inr () else .inl false):=by
 refine Zf (f:=q4q a b c d e) (xs:=s.xs) (fun i=>(s,s.len,(i:Int))) (fun i c hc=>?_) ?_
 ·have hi:i < s.xs.length:=(List.getElem?_eq_some_iff.1 hc).1
  unfold q4q
  dsimp only
  rw [if_pos (by simp [Sl.len];omega),yz,hc,Option.bind_some]
  by_cases e:c.Kind_=1
  ·simp [e,Z1 (show i < 9000000000000000000 by omega)]
  ·by_cases e6:c.Kind_=6
   ·simp [e6,Z1 (show i < 9000000000000000000 by omega)]
   ·simp [e,e6]
 ·unfold q4q
  dsimp only
  rw [if_neg (by simp [Sl.len])]
theorem zi7 (s:Sl Nd) (h:s.xs.length≤30000) {a b c e}:lpO (q4r a b c qx e) (s,s.len,0)=some (if (s.xs.all fun n=>Yy n.Kind_)=true then .inr () else .inl false):=by
 refine Zf (f:=q4r a b c qx e) (xs:=s.xs) (fun i=>(s,s.len,(i:Int))) (fun i c hc=>?_) ?_
 ·have hi:i < s.xs.length:=(List.getElem?_eq_some_iff.1 hc).1
  unfold q4r
  dsimp only
  rw [if_pos (by simp [Sl.len];omega),yz,hc,Option.bind_some,V1,Option.bind_some]
  cases e:Yy c.Kind_
  ·simp
  ·simp [Z1 (show i < 9000000000000000000 by omega)]
 ·unfold q4r
  dsimp only
  rw [if_neg (by simp [Sl.len])]
theorem wq:∀ l:List Nd,zH l≤l.length
 |[]=>Nat.le_refl _
 |a::l=>by
  unfold zH
  have:=wq l
  split <;> simp only [List.length_cons] <;> omega
theorem zi8 (s:Sl Nd) (h:s.xs.length≤30000) {a b c d e} {k:Int}{t:ByteArray}{v p:Int}:∀ (n i:Nat),n+i=s.xs.length→
    lpO (q35 a b c d e) ((s.xs.length:Int) - 1,(i:Int),k,t,v,p,s)=some ((s.xs.length:Int) - 1,((i+zH (s.xs.drop i):Nat):Int),k,t,v,p,s):=by
  intro n
  induction n with
  |zero=>
    intro i hi
    have hi:i=s.xs.length:=by omega
    subst hi
    rw [zC]
    unfold q35
    dsimp only
    rw [if_neg (by simp;omega)]
    simp [zH]
  |succ n ih=>
    intro i hi
    obtain ⟨x,hx,hd⟩:=Zf.drop_cons' (l:=s.xs) (i:=i) (by omega)
    rw [zC]
    generalize hG:lpO (q35 a b c d e)=G at ih ⊢
    unfold q35
    dsimp only
    rw [if_pos (by simp;omega),yz,hx,Option.bind_some,Option.bind_some,hd]
    unfold zH
    by_cases e3:x.Kind_=3
    · rw [if_pos e3]
      simp only [e3,decide_true,if_true,Option.bind_some]
      rw [Z1 (by omega),ih (i+1) (by omega)]
      have:i+1+zH (s.xs.drop (i+1))=i+(zH (s.xs.drop (i+1))+1):=by omega
      rw [this]
    · rw [if_neg e3]
      simp [e3]
theorem zhu {k:Int}{w:List Int}(h:YO k=some w):∃ b,vK k=(true,⟨w,b⟩):=by
 unfold vK
 rw [h]
 cases w with
 |nil=>exact ⟨_,rfl⟩
 |cons=>exact ⟨_,rfl⟩
theorem zax {s:Sl Nd}(h:s.xs.length≤30000):IntKind.i64.wrap (s.len - 1)=(s.xs.length:Int) - 1:=by
 unfold Sl.len
 exact ZD (by omega) (by omega)
theorem yK {α:Type}(s:Sl α) {i j:Nat}(h:i≤j) (h2:j≤s.xs.length):zD s (i:Int) (j:Int)=some ⟨(s.xs.take j).drop i,s.nn⟩:=by
 rw [ziG (by omega) (by omega) (by omega)]
 simp
theorem zmA (n:Nd) (h:n.Kids_.xs.length≤30000):q4m n=some (yn n.Kind_ n.Kids_.xs):=by
 obtain ⟨k,t,v,p,s⟩:=n
 replace h:s.xs.length≤30000:=h
 unfold q4m q6f
 dsimp only
 rw [zfA,Option.bind_some]
 cases hw:YO k with
 |some w=>
  obtain ⟨b,e⟩:=zhu hw
  rw [e,if_pos rfl,zb3 _ _ h]
  unfold yn
  rw [hw]
  rfl
 |none=>
  have e:vK k=(false,⟨[],false⟩):=by unfold vK;rw [hw]
  rw [e,if_neg (by simp)]
  unfold yn
  rw [hw]
  dsimp only
  by_cases h0:k=0
  ·subst h0
   rw [zi6 s h]
   cases (s.xs.all fun n=>decide (n.Kind_=1) || decide (n.Kind_=6)) <;> rfl
  by_cases h1:k=1
  ·subst h1
   have q0:¬ (decide ((1:Int)=0)=true):=by decide
   have q1:decide ((1:Int)=1)=true:=by decide
   rw [if_neg q0,if_pos q1,if_neg (show ¬ ((1:Int)=0) by decide),if_pos (rfl:(1:Int)=1)]
   have hl1:=zi8 s h (a:=q2k) (b:=q30) (c:=q4p) (d:=qx) (e:=q11) (k:=1) (t:=t) (v:=v) (p:=p)
   rw [zax h]
   cases hx:s.xs with
   |nil=>
    rw [hx] at hl1
    rw [zC]
    unfold q35
    simp
   |cons x r=>
    have hl1:=hl1 (s.xs.length - 1) 1 (by rw [hx];simp)
    rw [hx] at hl1
    have hl1:lpO (q35 q2k q30 q4p qx q11) (((x::r).length:Nat) - 1,1,1,t,v,p,s)=_:=hl1
    rw [hl1]
    have g0:zk s 0=some x:=by
     have:=yz s 0
     rw [hx] at this
     exact this
    dsimp only [Option.bind_some]
    rw [if_pos (by simp),g0,Option.bind_some]
    by_cases h2:x.Kind_=2
    ·rw [if_pos (by simpa using h2)]
     have hle:=wq r
     have gs:zD s ((1+zH r:Nat):Int) s.len=some ⟨(s.xs.take s.xs.length).drop (1+zH r),s.nn⟩:=yK s (by rw [hx];simp;omega) (Nat.le_refl _)
     have gs:zD s ((1+zH ((x::r).drop 1):Nat):Int) s.len=_:=gs
     rw [gs,Option.bind_some,zaw _ _ (by simp;omega),List.take_length,hx]
     simp [h2,Nat.add_comm 1]
    ·rw [if_neg (by simpa using h2)]
     simp [h2]
  by_cases h2:k=2∨k=3∨k=17∨k=8
  ·have e5:=zaw s 5 h
   rw [zax h]
   rw [if_neg h0,if_neg h1,if_pos h2]
   by_cases hs:s.xs.length < 2
   ·have:(s.xs.length:Int) - 1 < 1:=by omega
    rcases h2 with rfl | rfl | rfl | rfl <;> simp [this,hs,e5]
   ·have:¬ (s.xs.length:Int) - 1 < 1:=by omega
    rcases h2 with rfl | rfl | rfl | rfl <;> simp [this,hs,e5]
  have n2:¬ k=2:=fun e=>h2 (.inl e)
  have n3:¬ k=3:=fun e=>h2 (.inr (.inl e))
  have n17:¬ k=17:=fun e=>h2 (.inr (.inr (.inl e)))
  have n8:¬ k=8:=fun e=>h2 (.inr (.inr (.inr e)))
  rw [if_neg h0,if_neg h1,if_neg h2,zax h]
  simp only [h0,h1,n2,n3,n17,n8,decide_false,if_false,Option.bind_some,Bool.false_eq_true,reduceIte]
  by_cases h6:k=6
  ·subst h6
   by_cases hs:2≤s.xs.length
   ·have c1:(1:Int)≤(s.xs.length:Int) - 1:=by omega
    have w2:IntKind.i64.wrap ((s.xs.length:Int) - 1 - 1)=((s.xs.length - 2:Nat):Int):=by rw [ZD (by omega) (by omega)];omega
    have gs1:=yK s (i:=0) (j:=s.xs.length - 2) (by omega) (by omega)
    have gs2:=yK s (i:=s.xs.length - 2) (j:=s.xs.length) (by omega) (by omega)
    have gs1:zD s 0 ((s.xs.length - 2:Nat):Int)=_:=gs1
    have gs2:zD s ((s.xs.length - 2:Nat):Int) s.len=_:=gs2
    simp only [c1,decide_true,if_true,reduceIte,w2,gs1,gs2,Option.bind_some,hs,Bool.true_and]
    rw [zaw _ _ (by simp;omega),zb3 _ _ (by simp;omega)]
    simp only [List.take_length,List.drop_zero,Option.bind_some]
    cases Ws 7 (s.xs.take (s.xs.length - 2)) <;> simp
   ·have c1:¬ (1:Int)≤(s.xs.length:Int) - 1:=by omega
    simp [c1,hs]
  rw [if_neg h6]
  simp only [h6,decide_false,if_false,Bool.false_eq_true,reduceIte]
  by_cases h9:k=9
  ·subst h9
   rw [zi7 s h]
   cases (s.xs.all fun n=>Yy n.Kind_) <;> rfl
  rw [if_neg h9]
  simp only [h9,decide_false,if_false,Bool.false_eq_true,reduceIte]
  by_cases h10:k=10
  ·subst h10
   match hx:s.xs with
   |[]=>simp
   |[a]=>
    have g0:zk s 0=some a:=by
     have:=yz s 0
     rw [hx] at this
     exact this
    simp [g0,Vb]
   |a::b::r=>
    have:¬ ((r.length:Int)+1=0):=by omega
    simp [this]
  rw [if_neg h10]
  simp only [h10,decide_false,if_false,Bool.false_eq_true,reduceIte]
  by_cases h19:k=19∨k=28
  ·have e5:=zaw s 5 h
   rw [if_pos h19]
   rcases h19 with rfl | rfl <;> simp [e5]
  ·have m19:¬ k=19:=fun e=>h19 (.inl e)
   have m28:¬ k=28:=fun e=>h19 (.inr e)
   simp [m19,m28]
end Go.Px
namespace Go.Px
set_option linter.unusedVariables false
set_option linter.unusedSimpArgs false
abbrev ShF:=Nd×Int→Option ByteArray
theorem zeP (s:ByteArray):lit (bs s)=s:=wK (ZP _)
theorem zn (a b:List UInt8):lit a++lit b=lit (a++b):=wK (by rw [ziP,ZP,ZP,ZP])
theorem zc (a:List UInt8):(lit a).size=a.length:=by rw [← Zr,ZP]
theorem zr {α:Type}{p:Prop}[Decidable p] {a b:α}(h:p):(bif !false && decide p then a else b)=a:=by simp [h]
theorem zt {α:Type}{p:Prop}[Decidable p] {a b:α}(h:p):(bif decide p then a else b)=a:=by simp [h]
theorem wS (sep:List UInt8):∀ l:List (List UInt8),(Lib.join l sep).length≤(l.map (·.length)).sum+sep.length * l.length
 |[]=>by simp [Lib.join_nil]
 |x::r=>by
  rw [Lib.join_cons]
  have:∀ r:List (List UInt8),(Lib.joinTail sep r).length=(r.map (·.length)).sum+sep.length * r.length:=by
   intro r
   unfold Lib.joinTail
   induction r with
   |nil=>simp
   |cons a r ih=>simp [ih,Nat.mul_add];omega
  have h1:sep.length * (r.length+1)=sep.length * r.length+sep.length:=by rw [Nat.mul_add];simp
  simp [this,h1]
  omega
theorem zgb:∀ l:List ByteArray,vx CC 9 l=some l
 |[]=>rfl
 |x::r=>by
  show ((vx CC 9 r).bind fun l=>some (x::l))=_
  rw [zgb r];rfl
noncomputable def zb4:Sl ByteArray×ByteArray→Option ByteArray:=q53
theorem zke {l:List ByteArray}{nn:Bool}{sep:ByteArray}(h1:l.length≤140737488355328) (h2:(Lib.join (l.map bs) (bs sep)).length≤140737488355328):zb4 (⟨l,nn⟩,sep)=some (lit (Lib.join (l.map bs) (bs sep))):=by
 have e:zb4 (⟨l,nn⟩,sep)=(vx CC 9 l).bind fun l=>if l.length≤140737488355328∧(Lib.join (l.map bs) (bs sep)).length≤140737488355328 then some (lit (Lib.join (l.map bs) (bs sep))) else none:=rfl
 exact e.trans ((congrArg (fun z=>Option.bind z _) (zgb l)).trans (if_pos ⟨h1,h2⟩))
theorem zlB {h:ShF}{k v p:Int}{t:ByteArray}{s:Sl Nd}{d:Int}{i:Nat}{a:Nd}{r:ByteArray}(ha:s.xs[i]?=some a) (hr:h (a,d)=some r) :
    q2b h ((i:Int),(k,t,v,p,s),d)=some (r,(k,t,v,p,s),d):=by
  unfold q2b
  dsimp only
  rw [yz,ha,Option.bind_some,zS,hr]
  rfl
theorem zlC {h:ShF}{k v p:Int}{t:ByteArray}{s:Sl Nd}{d:Int}{i:Nat}{a:Nd}{r:ByteArray}(ha:s.xs[i]?=some a) (hr:h (a,d)=some r) :
    q31 h ((i:Int),(k,t,v,p,s),d)=some (r,(k,t,v,p,s),d):=zlB ha hr
theorem vL (l:List Nat) (i:Nat):(l.take i).sum≤l.sum:=by
 have:=congrArg List.sum (List.take_append_drop i l)
 rw [List.sum_append] at this
 omega
theorem zeQ (l:List Nat) (i:Nat):(l.drop i).sum≤l.sum:=by
 have:=congrArg List.sum (List.take_append_drop i l)
 rw [List.sum_append] at this
 omega
theorem Yb {h:ShF}{s:Sl Nd}{d:Nat}{sep:ByteArray}{g:Sl ByteArray×ByteArray→Option ByteArray}(hk:∀ a∈s.xs,h (a,(d:Int))=some (lit (shN a d))) (hlen:s.xs.length≤30000):∀ (n i:Nat) (nn:Bool),n+i=s.xs.length→
    ∃ nn',lpO (q3i h g) (sep,(d:Int),s,s.len,(i:Int),⟨(s.xs.take i).map fun a=>lit (shN a d),nn⟩)=some (sep,⟨s.xs.map fun a=>lit (shN a d),nn'⟩):=by
  intro n
  induction n with
  |zero=>
    intro i nn hi
    have hi:i=s.xs.length:=by omega
    subst hi
    rw [zC]
    unfold q3i
    dsimp only
    rw [if_neg (by simp [Sl.len])]
    exact ⟨nn,by simp⟩
  |succ n ih=>
    intro i nn hi
    obtain ⟨x,hx,hd⟩:=Zf.drop_cons' (l:=s.xs) (i:=i) (by omega)
    have hm:x∈s.xs:=List.mem_of_getElem? hx
    rw [zC]
    generalize hG:lpO (q3i h g)=G at ih ⊢
    unfold q3i
    dsimp only
    rw [if_pos (by simp [Sl.len];omega),yz,hx,Option.bind_some,zS,hk x hm,Option.bind_some,xV (by simp;omega) (by simp;omega),Option.bind_some,Z1 (by omega)]
    obtain ⟨nn',e⟩:=ih (i+1) (nn || true) (by omega)
    refine ⟨nn',?_⟩
    rw [← e,take_succ'' hx]
    simp
where
 take_succ'' {l:List Nd} {k:Nat} {c:Nd} (h:l[k]?=some c):l.take (k+1)=l.take k++[c]:=by
  rw [List.take_add_one,h];rfl
theorem zdr {h:ShF}{s:Sl Nd}{d:Nat}{sep:List UInt8}(hk:∀ a∈s.xs,h (a,(d:Int))=some (lit (shN a d))) (hlen:s.xs.length≤30000) (hs:(s.xs.map fun a=>(shN a d).length).sum≤1099511627776) (h2:sep.length≤2) :
    qq h (s,lit sep,(d:Int))=some (lit (wR sep (s.xs.map fun a=>shN a d))):=by
  obtain ⟨nn,e⟩:=Yb (g:=zb4) (sep:=lit sep) hk hlen s.xs.length 0 false (by omega)
  have e:lpO (q3i h zb4) (lit sep,(d:Int),s,s.len,0,⟨[],false⟩)=_:=e
  show q3j h zb4 (s,lit sep,(d:Int))=_
  unfold q3j
  dsimp only
  rw [e,Option.bind_some]
  dsimp only
  have hj:=wS sep (s.xs.map fun a=>shN a d)
  have h3:sep.length * s.xs.length≤2 * 30000:=Nat.mul_le_mul h2 hlen
  simp only [List.map_map,List.length_map] at hj
  have hj:(Lib.join (s.xs.map fun a=>shN a d) sep).length≤(s.xs.map fun a=>(shN a d).length).sum+sep.length * s.xs.length:=hj
  have e1:(s.xs.map fun a=>lit (shN a d)).map bs=s.xs.map fun a=>shN a d:=by
    rw [List.map_map];rfl
  have e2:bs (lit sep)=sep:=ZP _
  rw [zke (by simp;omega) (by rw [e1,e2];omega),e1,e2]
  rfl
theorem zb5:∀ d:Nat,Lib.repeatL [32,32,32,32] d=z6 d
 |0=>rfl
 |d+1=>by
  show [32,32,32,32]++Lib.repeatL [32,32,32,32] d=_
  rw [zb5 d]
  unfold z6
  rw [show 4 * (d+1)=4 * d+1+1+1+1 by omega]
  simp [List.replicate_succ]
theorem zds {d:Nat}(h:d≤30000):q1t (lit [32,32,32,32],(d:Int))=some (lit (z6 d)):=by
 show YX _=_
 unfold YX
 rw [if_pos ⟨by omega,by simp;omega,by rw [zc];simp;omega⟩]
 congr 1
 show lit (Lib.repeatL [32,32,32,32] d)=_
 rw [zb5]
theorem Wt {v:Int}(h : -9223372036854775808≤v∧v≤9223372036854775807):q2s v=some (lit (Lib.itoa v)):=by
 show ((yI (v,10)).bind fun y=>some y)=_
 unfold yI
 rw [if_pos ⟨rfl,h⟩]
 rfl
end Go.Px
namespace Go.Px
set_option linter.unusedVariables false
set_option linter.unusedSimpArgs false
structure KO (h:ShF) (s:Sl Nd) (d:Nat):Prop where
 len:s.xs.length≤30000
 kid:∀ a∈s.xs,h (a,(d:Int))=some (lit (shN a d))
 sm:(s.xs.map fun a=>(shN a d).length).sum≤1099511627776
theorem zeR:∀ (l:List Nat) (x:Nat),x∈l→x≤l.sum
 |[],x,h=>by cases h
 |a::l,x,h=>by
  rw [List.sum_cons]
  rcases List.mem_cons.1 h with rfl | h
  ·omega
  ·have:=zeR l x h;omega
theorem KO.one {h:ShF}{s:Sl Nd}{d:Nat}(K:KO h s d) {a:Nd}(ha:a∈s.xs):(shN a d).length≤1099511627776:=
 Nat.le_trans (zeR _ _ (List.mem_map.2 ⟨a,ha,rfl⟩)) K.sm
theorem Yr (a b:List UInt8):(lit a=lit b)↔a=b:=⟨fun h=>by rw [← ZP a,h,ZP],fun h=>by rw [h]⟩
theorem Xy {v:Int}(h : -9223372036854775808≤v∧v≤9223372036854775807):(Lib.itoa v).length≤30:=by
 have key:∀ u:Nat,u < 10 ^ 20→(Lib.decDigits u).length≤20:=by
  intro u hu
  rw [Lib.decDigits_length]
  have:∀ (n u:Nat),u < 10 ^ (n+1)→Lib.nDigits u≤n+1:=by
   intro n
   induction n with
   |zero=>intro u hu;rw [Lib.nDigits_small (by omega)];omega
   |succ n ih=>
    intro u hu
    by_cases h:u < 10
    ·rw [Lib.nDigits_small h];omega
    ·rw [Lib.nDigits_big h]
     have:u / 10 < 10 ^ (n+1):=by
      rw [Nat.div_lt_iff_lt_mul (by omega)]
      rw [Nat.pow_succ] at hu
      exact hu
     have:=ih _ this
     omega
  exact this 19 u hu
 unfold Lib.itoa
 split
 ·have:=key v.natAbs (by omega)
  simp;omega
 ·have:=key v.toNat (by omega)
  omega
theorem zkf {k v p:Int}{t:List UInt8}{s:Sl Nd}(ht:t.length≤1048576) (h : -9223372036854775808≤v∧v≤9223372036854775807) :
    q5m ⟨k,lit t,v,p,s⟩=some (lit (zav t v)):=by
  have hl:=Xy h
  unfold q5m q5z
  simp only [Wt h,Option.bind_some,Yr,decide_eq_true_eq,zc,zn]
  unfold zav
  by_cases h0:t=[]
  · subst h0
    simp
  · by_cases h1:0 < v
    · simp (disch:=((try simp only [List.length_append,List.length_cons,List.length_nil]);omega)) only [h0,h1,if_false,if_true,zr,Option.bind_some,Sum.elim_inl]
    · by_cases h2:v < 0
      · have hp:1≤(Lib.itoa v).length:=by
          unfold Lib.itoa
          rw [if_pos h2];simp
        have hg:z8 (lit (Lib.itoa v)) 1 ((Lib.itoa v).length:Nat)=some (lit ((Lib.itoa v).drop 1)):=by
          have:=XI (s:=lit (Lib.itoa v)) (i:=1) (j:=(Lib.itoa v).length) hp (by rw [zc];exact Nat.le_refl _)
          refine Eq.trans this ?_
          congr 1
          apply wK
          rw [wc,ZP,ZP,List.take_length]
        simp (disch:=((try simp only [List.length_append,List.length_cons,List.length_nil,List.length_drop]);omega)) only [h0,h1,h2,if_false,if_true,hg,zr,Option.bind_some,Sum.elim_inl,zn,zc]
      · simp [h0,h1,h2]
theorem KO.at (h:ShF) {s:Sl Nd}{d:Nat}(K:KO h s d) {i:Nat}{a:Nd}(ha:s.xs[i]?=some a) {k v p:Int}{t:ByteArray} :
    q1l h ((i:Int),(k,t,v,p,s),(d:Int))=some (lit (shN a d),(k,t,v,p,s),(d:Int)):=zlC ha (K.kid a (List.mem_of_getElem? ha))
theorem KO.e0 {h:ShF}{s:Sl Nd}{d:Nat}(K:KO h s d) {a:Nd}{r:List Nd}(e:s.xs=a::r) {k v p:Int}{t:ByteArray} :
    q1l h (0,(k,t,v,p,s),(d:Int))=some (lit (shN a d),(k,t,v,p,s),(d:Int)):=K.at h (i:=0) (by rw [e];rfl)
theorem KO.e1 {h:ShF}{s:Sl Nd}{d:Nat}(K:KO h s d) {a b:Nd}{r:List Nd}(e:s.xs=a::b::r) {k v p:Int}{t:ByteArray} :
    q1l h (1,(k,t,v,p,s),(d:Int))=some (lit (shN b d),(k,t,v,p,s),(d:Int)):=K.at h (i:=1) (by rw [e];rfl)
theorem KO.s0 {h:ShF}{s:Sl Nd}{d:Nat}(K:KO h s d) {a:Nd}{r:List Nd}(e:s.xs=a::r) {k v p:Int}{t:ByteArray} :
    q1m h (0,(k,t,v,p,s),(d:Int))=some (lit (shN a d),(k,t,v,p,s),(d:Int)):=K.e0 e
theorem KO.s1 {h:ShF}{s:Sl Nd}{d:Nat}(K:KO h s d) {a b:Nd}{r:List Nd}(e:s.xs=a::b::r) {k v p:Int}{t:ByteArray} :
    q1m h (1,(k,t,v,p,s),(d:Int))=some (lit (shN b d),(k,t,v,p,s),(d:Int)):=K.e1 e
theorem KO.s3 {h:ShF}{s:Sl Nd}{d:Nat}(K:KO h s d) {a b c f:Nd}{r:List Nd}(e:s.xs=a::b::c::f::r) {k v p:Int}{t:ByteArray} :
    q1m h (3,(k,t,v,p,s),(d:Int))=some (lit (shN f d),(k,t,v,p,s),(d:Int)):=K.at h (i:=3) (by rw [e];rfl)
theorem KO.n0 {h:ShF}{s:Sl Nd}{d:Nat}(K:KO h s d) {a:Nd}{r:List Nd}(e:s.xs=a::r) {k v p:Int}{t:ByteArray} :
    q15 h (0,(k,t,v,p,s),(d:Int))=some (lit (shN a d),(k,t,v,p,s),(d:Int)):=K.e0 e
theorem KO.n1 {h:ShF}{s:Sl Nd}{d:Nat}(K:KO h s d) {a b:Nd}{r:List Nd}(e:s.xs=a::b::r) {k v p:Int}{t:ByteArray} :
    q15 h (1,(k,t,v,p,s),(d:Int))=some (lit (shN b d),(k,t,v,p,s),(d:Int)):=K.e1 e
theorem kk1 {l:List Nd}{x:Int}(h:kK l=[x]):∃ a,l=[a]:=by
 match l with
 |[a]=>exact ⟨a,rfl⟩
 |[]=>cases h
 |a::b::r=>simp [kK] at h
theorem kk2 {l:List Nd}{x y:Int}(h:kK l=[x,y]):∃ a b,l=[a,b]:=by
 match l with
 |[a,b]=>exact ⟨a,b,rfl⟩
 |[]=>cases h
 |[a]=>simp [kK] at h
 |a::b::c::r=>simp [kK] at h
theorem WS {h:ShF}{s:Sl Nd}{d:Nat}(K:KO h s d):qq h (s,lit [44,32],(d:Int))=some (lit (Z4 (s.xs.map fun a=>shN a d))):=zdr K.kid K.len K.sm (by simp)
theorem wT {h:ShF}{s:Sl Nd}{d:Nat}(K:KO h s d):(Z4 (s.xs.map fun a=>shN a d)).length≤1099511627776+60000:=by
 have h1:=wS [44,32] (s.xs.map fun a=>shN a d)
 have h2:=K.len
 have h3:=K.sm
 simp only [List.map_map,List.length_map,List.length_cons,List.length_nil] at h1
 have h1:(Z4 (s.xs.map fun a=>shN a d)).length≤(s.xs.map fun a=>(shN a d).length).sum+(0+1+1) * s.xs.length:=h1
 omega
theorem zkg {h:ShF}{k v p:Int}{t:List UInt8}{s:Sl Nd}{d:Nat}{I:List (List UInt8)}(K:KO h s d) (ht:t.length≤1048576) (hv : -9223372036854775808≤v∧v≤9223372036854775807) (hk:Xj k=true) (hf:yn k s.xs=true) :
    q1v h (⟨k,lit t,v,p,s⟩,(d:Int))=some (lit (shB k t v s.xs (s.xs.map fun a=>shN a d) I d)):=by
  have hl:=Xy hv
  have hc:k=5∨k=21∨k=22∨k=23∨k=24∨k=25∨k=26∨k=27∨k=28:=by
    unfold Xj at hk
    simp at hk
    omega
  have hT:=zkf (k:=k) (p:=p) (s:=s) ht hv
  have hN:=Wt hv
  have hJ:=WS K
  have hJl:=wT K
  unfold q1v q49
  unfold shB
  rcases hc with rfl | rfl | rfl | rfl | rfl | rfl | rfl | rfl | rfl
  · simp [hT]
  · obtain ⟨a,b,e⟩:=kk2 (of_decide_eq_true hf:kK s.xs=[5,5])
    have la:=K.one (a:=a) (by rw [e];simp)
    have lb:=K.one (a:=b) (by rw [e];simp)
    simp (disch:=((try simp only [zc,List.length_append,List.length_cons,List.length_nil]);omega)) [K.e0 e,K.e1 e,zr,zt,zn,zc,e,at0]
  · obtain ⟨a,b,e⟩:=kk2 (of_decide_eq_true hf:kK s.xs=[5,5])
    have la:=K.one (a:=a) (by rw [e];simp)
    have lb:=K.one (a:=b) (by rw [e];simp)
    simp (disch:=((try simp only [zc,List.length_append,List.length_cons,List.length_nil]);omega)) [K.e0 e,K.e1 e,zr,zt,zn,zc,e,at0]
  · simp (disch:=((try simp only [zc,List.length_append,List.length_cons,List.length_nil]);omega)) [hN,zr,zt,zn,zc]
  · simp (disch:=((try simp only [zc,List.length_append,List.length_cons,List.length_nil]);omega)) [zr,zt,zn,zc]
  · obtain ⟨a,e⟩:=kk1 (of_decide_eq_true hf:kK s.xs=[5])
    have la:=K.one (a:=a) (by rw [e];simp)
    simp (disch:=((try simp only [zc,List.length_append,List.length_cons,List.length_nil]);omega)) [K.e0 e,zr,zt,zn,zc,e,at0,zX]
  · simp (disch:=((try simp only [zc,List.length_append,List.length_cons,List.length_nil]);omega)) [zr,zt,zn,zc]
  · simp (disch:=((try simp only [zc,List.length_append,List.length_cons,List.length_nil]);omega)) [zr,zt,zn,zc]
  · simp (disch:=((try simp only [zc,List.length_append,List.length_cons,List.length_nil]);omega)) [hJ,zr,zt,zn,zc]
end Go.Px
namespace Go.Px
set_option linter.unusedVariables false
set_option linter.unusedSimpArgs false
theorem KO.g {h:ShF}{s:Sl Nd}{d:Nat}(K:KO h s d) {i:Nat}{a:Nd}(ha:s.xs[i]?=some a):zk s (i:Int)=some a∧h (a,(d:Int))=some (lit (shN a d))∧(shN a d).length≤1099511627776:=
 ⟨by rw [yz,ha],K.kid a (List.mem_of_getElem? ha),K.one (List.mem_of_getElem? ha)⟩
theorem zb6 {h:ShF}{k v p:Int}{w t:List UInt8}{s:Sl Nd}{d:Nat}(K:KO h s d) (hw:w.length≤10) (ht:t.length≤1048576) {a b c:Nd}{r:List Nd}(e:s.xs=a::b::c::r) :
    q22 h (lit w,⟨k,lit t,v,p,s⟩,(d:Int))=some (lit (w++[32]++shN a d++[32]++t++[32]++shN b d++[32]++shN c d)):=by
  obtain ⟨g0,k0,l0⟩:=K.g (i:=0) (a:=a) (by rw [e];rfl)
  obtain ⟨g1,k1,l1⟩:=K.g (i:=1) (a:=b) (by rw [e];rfl)
  obtain ⟨g2,k2,l2⟩:=K.g (i:=2) (a:=c) (by rw [e];rfl)
  have g0:zk s 0=some a:=g0
  have g1:zk s 1=some b:=g1
  have g2:zk s 2=some c:=g2
  unfold q22 q32
  simp (disch:=((try simp only [zc,List.length_append,List.length_cons,List.length_nil]);omega)) [g0,g1,g2,zS,k0,k1,k2,zr,zt,zn,zc]
theorem kk3 {l:List Nd}{x y z:Int}(h:kK l=[x,y,z]):∃ a b c,l=[a,b,c]:=by
 match l with
 |[a,b,c]=>exact ⟨a,b,c,rfl⟩
 |[]=>cases h
 |[a]=>simp [kK] at h
 |[a,b]=>simp [kK] at h
 |a::b::c::f::r=>simp [kK] at h
theorem kk4 {l:List Nd}{x y z w:Int}(h:kK l=[x,y,z,w]):∃ a b c f,l=[a,b,c,f]:=by
 match l with
 |[a,b,c,f]=>exact ⟨a,b,c,f,rfl⟩
 |[]=>cases h
 |[a]=>simp [kK] at h
 |[a,b]=>simp [kK] at h
 |[a,b,c]=>simp [kK] at h
 |a::b::c::f::g::r=>simp [kK] at h
theorem zkh {h:ShF}{k v p:Int}{t:List UInt8}{s:Sl Nd}{d:Nat}{I:List (List UInt8)}(K:KO h s d) (ht:t.length≤1048576) (hv : -9223372036854775808≤v∧v≤9223372036854775807) (hk:Yy k=true) (hf:yn k s.xs=true) :
    q1w h (⟨k,lit t,v,p,s⟩,(d:Int))=some (lit (shB k t v s.xs (s.xs.map fun a=>shN a d) I d)):=by
  have hl:=Xy hv
  have hc:k=10∨k=11∨k=12∨k=13∨k=14∨k=15∨k=16∨k=17∨k=18∨k=19∨k=20:=by
    unfold Yy at hk
    simp at hk
    omega
  have hN:=Wt hv
  have hJ:=WS K
  have hJl:=wT K
  unfold q1w q4a
  unfold shB
  rcases hc with rfl | rfl | rfl | rfl | rfl | rfl | rfl | rfl | rfl | rfl | rfl
  · have hx:∃ a,s.xs=[a]:=by
      unfold yn at hf
      simp [YO] at hf
      split at hf
      · rename_i a e;exact ⟨a,e⟩
      · cases hf
    obtain ⟨a,e⟩:=hx
    have la:=K.one (a:=a) (by rw [e];simp)
    simp (disch:=((try simp only [zc,List.length_append,List.length_cons,List.length_nil]);omega)) [hN,K.s0 e,zr,zt,zn,zc,e,at0,zX]
  · obtain ⟨a,b,e⟩:=kk2 (of_decide_eq_true hf:kK s.xs=[5,5])
    have la:=K.one (a:=a) (by rw [e];simp)
    have lb:=K.one (a:=b) (by rw [e];simp)
    simp (disch:=((try simp only [zc,List.length_append,List.length_cons,List.length_nil]);omega)) [hN,K.s0 e,K.s1 e,zr,zt,zn,zc,e,at0,zX]
  · simp (disch:=((try simp only [zc,List.length_append,List.length_cons,List.length_nil]);omega)) [hN,zr,zt,zn,zc]
  · simp (disch:=((try simp only [zc,List.length_append,List.length_cons,List.length_nil]);omega)) [hN,zr,zt,zn,zc]
  · simp (disch:=((try simp only [zc,List.length_append,List.length_cons,List.length_nil]);omega)) [hN,zr,zt,zn,zc]
  · obtain ⟨a,b,c,f,e⟩:=kk4 (of_decide_eq_true hf:kK s.xs=[5,5,9,9])
    have la:=K.one (a:=a) (by rw [e];simp)
    have lb:=K.one (a:=b) (by rw [e];simp)
    have lc:=K.one (a:=c) (by rw [e];simp)
    have lf:=K.one (a:=f) (by rw [e];simp)
    have hb:=zb6 (k:=15) (v:=v) (p:=p) (w:=[105,102]) (t:=t) K (by simp) ht e
    obtain ⟨g3,_,_⟩:=K.g (i:=3) (a:=f) (by rw [e];rfl)
    have g3:zk s 3=some f:=g3
    by_cases hn:f.Kids_.xs=[]
    · simp (disch:=((try simp only [zc,List.length_append,List.length_cons,List.length_nil]);omega)) [hN,g3,hb,hn,zb2,Sl.len,zr,zt,zn,zc,e,at0]
    · have hp:0 < f.Kids_.xs.length:=List.length_pos_iff.2 hn
      simp (disch:=((try simp only [zc,List.length_append,List.length_cons,List.length_nil]);omega)) [hN,g3,hb,hn,hp,zb2,Sl.len,K.s3 e,zr,zt,zn,zc,e,at0]
  · obtain ⟨a,b,c,e⟩:=kk3 (of_decide_eq_true hf:kK s.xs=[5,5,9])
    have hb:=zb6 (k:=16) (v:=v) (p:=p) (w:=[119,104,105,108,101]) (t:=t) K (by simp) ht e
    simp (disch:=((try simp only [zc,List.length_append,List.length_cons,List.length_nil]);omega)) [hN,hb,zr,zt,zn,zc,e,at0]
  · by_cases hn:s.xs=[]
    · simp (disch:=((try simp only [zc,List.length_append,List.length_cons,List.length_nil]);omega)) [hN,hn,Sl.len,zr,zt,zn,zc]
    · obtain ⟨a,r,e⟩:=List.exists_cons_of_ne_nil hn
      have la:=K.one (a:=a) (by rw [e];simp)
      have hp:(0:Int) < (r.length:Int)+1:=by omega
      simp (disch:=((try simp only [zc,List.length_append,List.length_cons,List.length_nil]);omega)) [hN,K.s0 e,Sl.len,hp,zr,zt,zn,zc,e,at0]
  · simp (disch:=((try simp only [zc,List.length_append,List.length_cons,List.length_nil]);omega)) [hN,zr,zt,zn,zc]
  · simp (disch:=((try simp only [zc,List.length_append,List.length_cons,List.length_nil]);omega)) [hN,hJ,zr,zt,zn,zc,zX]
  · obtain ⟨a,e⟩:=kk1 (of_decide_eq_true hf:kK s.xs=[28])
    have la:=K.one (a:=a) (by rw [e];simp)
    simp (disch:=((try simp only [zc,List.length_append,List.length_cons,List.length_nil]);omega)) [hN,K.s0 e,zr,zt,zn,zc,e,at0]
end Go.Px
namespace Go.Px
set_option linter.unusedVariables false
set_option linter.unusedSimpArgs false
theorem KO.sub {h:ShF}{s:Sl Nd}{d:Nat}(K:KO h s d) (i j:Nat) (nn:Bool):KO h ⟨(s.xs.take j).drop i,nn⟩ d where
 len:=by have:=K.len;simp;omega
 kid:=fun a ha=>K.kid a (List.mem_of_mem_take (List.mem_of_mem_drop ha))
 sm:=by
  show (((s.xs.take j).drop i).map fun a=>(shN a d).length).sum≤_
  rw [List.map_drop,List.map_take]
  exact Nat.le_trans (zeQ _ _) (Nat.le_trans (vL _ _) K.sm)
theorem zki {f:ShF}{g:Sl Nd×ByteArray×Int→Option ByteArray}{s:Sl Nd}(h:s.xs.length≤30000) {d k v p:Int}{t:ByteArray}:∀ (n i:Nat),n+i=s.xs.length→
    lpO (q44 f g) (d,(i:Int),k,t,v,p,s)=some (d,((i+zH (s.xs.drop i):Nat):Int),k,t,v,p,s):=by
  intro n
  induction n with
  |zero=>
    intro i hi
    have hi:i=s.xs.length:=by omega
    subst hi
    rw [zC]
    unfold q44
    dsimp only
    rw [if_neg (by simp [Sl.len])]
    simp [zH]
  |succ n ih=>
    intro i hi
    obtain ⟨x,hx,hd⟩:=Zf.drop_cons' (l:=s.xs) (i:=i) (by omega)
    rw [zC]
    generalize hG:lpO (q44 f g)=G at ih ⊢
    unfold q44
    dsimp only
    rw [if_pos (by simp [Sl.len];omega),yz,hx,Option.bind_some,Option.bind_some,hd]
    unfold zH
    by_cases e3:x.Kind_=3
    · rw [if_pos e3]
      simp only [e3,decide_true,if_true,Option.bind_some]
      rw [Z1 (by omega),ih (i+1) (by omega)]
      have:i+1+zH (s.xs.drop (i+1))=i+(zH (s.xs.drop (i+1))+1):=by omega
      rw [this]
    · rw [if_neg e3]
      simp [e3]
theorem zn0 {t:List UInt8}{v:Int}{ks:List Nd}{s i:List (List UInt8)}{d:Nat}:shB 1 t v ks s i d=[116,121,112,101,32]++t++[32]++at0 s 0
    ++(if 0 < zH ks.tail then [32,123,32]++Z4 ((s.drop 1).take (zH ks.tail))++[32,125] else [])
    ++(if 1+zH ks.tail < ks.length then [32,119,104,101,114,101,32]++Z4 (s.drop (1+zH ks.tail)) else [])++[59]:=by
  unfold shB
  rw [if_neg (show ¬ ((1:Int)=0) by decide),if_pos rfl]
theorem zlD {h:ShF}{v p:Int}{t:List UInt8}{s:Sl Nd}{d:Nat}{I:List (List UInt8)}(K:KO h s d) (ht:t.length≤1048576) {a:Nd}{r:List Nd}(e:s.xs=a::r) :
    q26 h (⟨1,lit t,v,p,s⟩,(d:Int))=some (lit (shB 1 t v s.xs (s.xs.map fun a=>shN a d) I d)):=by
  have hlp:=zki (f:=h) (g:=qq h) K.len (d:=d) (k:=1) (v:=v) (p:=p) (t:=lit t) r.length 1 (by rw [e];simp)
  have hlp:lpO (q44 h (qq h)) ((d:Int),1,1,lit t,v,p,s)=_:=hlp
  have hd1:s.xs.drop 1=r:=by rw [e];rfl
  rw [hd1] at hlp
  obtain ⟨g0,k0,l0⟩:=K.g (i:=0) (a:=a) (by rw [e];rfl)
  have g0:zk s 0=some a:=g0
  have hfl:=wq r
  have hlen:s.xs.length=r.length+1:=by rw [e];simp
  have gs1:zD s 1 ((1+zH r:Nat):Int)=some ⟨(s.xs.take (1+zH r)).drop 1,s.nn⟩:=yK s (i:=1) (by omega) (by omega)
  have gs2:zD s ((1+zH r:Nat):Int) s.len=some ⟨(s.xs.take s.xs.length).drop (1+zH r),s.nn⟩:=yK s (by omega) (Nat.le_refl _)
  have K1:=K.sub 1 (1+zH r) s.nn
  have K2:=K.sub (1+zH r) s.xs.length s.nn
  have j1:=WS K1
  have j2:=WS K2
  have n1:=wT K1
  have n2:=wT K2
  have m1:(((s.xs.take (1+zH r)).drop 1).map fun a=>shN a d)=(r.map fun a=>shN a d).take (zH r):=by
    rw [List.drop_take,hd1,List.map_take]
    congr 1
    omega
  have m2:(((s.xs.take s.xs.length).drop (1+zH r)).map fun a=>shN a d)=(r.map fun a=>shN a d).drop (zH r):=by
    rw [List.take_length,e,Nat.add_comm 1,List.drop_succ_cons,List.map_drop]
  simp only [m1] at j1 n1
  simp only [m2] at j2 n2
  unfold q26 q4s
  dsimp only
  rw [hlp,Option.bind_some]
  dsimp only
  rw [zn0]
  have w1:s.xs.tail=r:=by rw [e];rfl
  have w2:(s.xs.map fun a=>shN a d).drop 1=r.map fun a=>shN a d:=by rw [e];rfl
  have w3:(s.xs.map fun a=>shN a d).drop (1+zH r)=(r.map fun a=>shN a d).drop (zH r):=by rw [e,Nat.add_comm 1];rfl
  have w4:at0 (s.xs.map fun a=>shN a d) 0=shN a d:=by rw [e];rfl
  rw [w1,w2,w3,w4,hlen]
  by_cases q1:0 < zH r
  · have c1:(1:Int) < ((1+zH r:Nat):Int):=by omega
    by_cases q2:zH r < r.length
    · have c2:((1+zH r:Nat):Int) < s.len:=by simp only [Sl.len];omega
      simp (disch:=((try simp only [zc,List.length_append,List.length_cons,List.length_nil]);omega)) only [g0,zS,k0,gs1,gs2,j1,j2,c1,c2,zr,zt,zn,zc,Option.bind_some,decide_true,if_true]
      have c3:1+zH r < r.length+1:=by omega
      rw [if_pos q1,if_pos c3]
    · have c2:¬ ((1+zH r:Nat):Int) < s.len:=by simp only [Sl.len];omega
      simp (disch:=((try simp only [zc,List.length_append,List.length_cons,List.length_nil]);omega)) only [g0,zS,k0,gs1,gs2,j1,j2,c1,c2,zr,zt,zn,zc,Option.bind_some,decide_true,if_true,decide_false,if_false,Bool.false_eq_true]
      have c3:¬ 1+zH r < r.length+1:=by omega
      rw [if_pos q1,if_neg c3]
      simp only [List.append_assoc,List.append_nil,List.nil_append]
  · have c1:¬ (1:Int) < ((1+zH r:Nat):Int):=by omega
    by_cases q2:zH r < r.length
    · have c2:((1+zH r:Nat):Int) < s.len:=by simp only [Sl.len];omega
      simp (disch:=((try simp only [zc,List.length_append,List.length_cons,List.length_nil]);omega)) only [g0,zS,k0,gs1,gs2,j1,j2,c1,c2,zr,zt,zn,zc,Option.bind_some,decide_true,if_true,decide_false,if_false,Bool.false_eq_true]
      have c3:1+zH r < r.length+1:=by omega
      rw [if_neg q1,if_pos c3]
      simp only [List.append_assoc,List.append_nil,List.nil_append]
    · have c2:¬ ((1+zH r:Nat):Int) < s.len:=by simp only [Sl.len];omega
      simp (disch:=((try simp only [zc,List.length_append,List.length_cons,List.length_nil]);omega)) only [g0,zS,k0,gs1,gs2,j1,j2,c1,c2,zr,zt,zn,zc,Option.bind_some,decide_true,if_true,decide_false,if_false,Bool.false_eq_true]
      have c3:¬ 1+zH r < r.length+1:=by omega
      rw [if_neg q1,if_neg c3]
      simp only [List.append_assoc,List.append_nil,List.nil_append]
theorem zkj {h:ShF}{v p:Int}{t:List UInt8}{s:Sl Nd}{d:Nat}{I:List (List UInt8)}(K:KO h s d) (ht:t.length≤1048576) :
    q1u h (⟨8,lit t,v,p,s⟩,(d:Int))=some (lit (shB 8 t v s.xs (s.xs.map fun a=>shN a d) I d)):=by
  have hj:=zdr (sep:=[]) K.kid K.len K.sm (by simp)
  have hl:=wS [] (s.xs.map fun a=>shN a d)
  have h3:=K.sm
  simp only [List.map_map,List.length_map,List.length_nil,Nat.zero_mul,Nat.add_zero] at hl
  have hl:(wR [] (s.xs.map fun a=>shN a d)).length≤(s.xs.map fun a=>(shN a d).length).sum:=hl
  unfold q1u q48
  dsimp only
  rw [hj,Option.bind_some]
  unfold shB
  by_cases e1:t=[38]
  · subst e1
    simp (disch:=((try simp only [zc,List.length_append,List.length_cons,List.length_nil]);omega)) [zr,zt,zn,zc,Yr]
  · by_cases e2:t=[38,109,117,116]
    · subst e2
      simp (disch:=((try simp only [zc,List.length_append,List.length_cons,List.length_nil]);omega)) [zr,zt,zn,zc,Yr]
    · by_cases e3:t=[111,119,110]
      · subst e3
        simp (disch:=((try simp only [zc,List.length_append,List.length_cons,List.length_nil]);omega)) [zr,zt,zn,zc,Yr]
      · simp [e1,e2,e3,Yr]
theorem zmB {h:ShF}{v p:Int}{t:List UInt8}{s:Sl Nd}{d:Nat}{I:List (List UInt8)}(K:KO h s d) (ht:t.length≤1048576) (h2:2≤s.xs.length) :
    q2m h (⟨6,lit t,v,p,s⟩,(d:Int))=some (lit (shB 6 t v s.xs (s.xs.map fun a=>shN a d) I d)):=by
  have hlen:=K.len
  obtain ⟨m,hm⟩:∃ m,s.xs[s.xs.length - 2]?=some m:=⟨_,List.getElem?_eq_getElem (by omega)⟩
  obtain ⟨b,hb⟩:∃ b,s.xs[s.xs.length - 1]?=some b:=⟨_,List.getElem?_eq_getElem (by omega)⟩
  obtain ⟨gm,km,lm⟩:=K.g hm
  obtain ⟨gb,kb,lb⟩:=K.g hb
  have w1:IntKind.i64.wrap (s.len - 1)=((s.xs.length - 1:Nat):Int):=by rw [zax hlen];omega
  have w2:IntKind.i64.wrap (((s.xs.length - 1:Nat):Int) - 1)=((s.xs.length - 2:Nat):Int):=by rw [ZD (by omega) (by omega)];omega
  have gs:zD s 0 ((s.xs.length - 2:Nat):Int)=some ⟨(s.xs.take (s.xs.length - 2)).drop 0,s.nn⟩:=yK s (i:=0) (by omega) (by omega)
  have K1:=K.sub 0 (s.xs.length - 2) s.nn
  have j1:=WS K1
  have n1:=wT K1
  have m1:(((s.xs.take (s.xs.length - 2)).drop 0).map fun a=>shN a d)=(s.xs.map fun a=>shN a d).take (s.xs.length - 2):=by rw [List.drop_zero,List.map_take]
  simp only [m1] at j1 n1
  have hdr:s.xs.drop (s.xs.length - 2)=m::s.xs.drop (s.xs.length - 2+1):=by
    obtain ⟨c,hc,hd⟩:=Zf.drop_cons' (l:=s.xs) (i:=s.xs.length - 2) (by omega)
    rw [hm] at hc;cases hc;exact hd
  have a1:at0 (s.xs.map fun a=>shN a d) (s.xs.length - 2)=shN m d:=by unfold at0;rw [List.getD_eq_getElem?_getD,List.getElem?_map,hm];rfl
  have a2:at0 (s.xs.map fun a=>shN a d) (s.xs.length - 1)=shN b d:=by unfold at0;rw [List.getD_eq_getElem?_getD,List.getElem?_map,hb];rfl
  obtain ⟨mt,hmt⟩:∃ l,m.Text_=lit l:=⟨bs m.Text_,(zeP _).symm⟩
  have e6:shB 6 t v s.xs (s.xs.map fun a=>shN a d) I d=[102,110,32]++t++[40]++Z4 ((s.xs.map fun a=>shN a d).take (s.xs.length - 2))++[41]
      ++(if mt=[] then [] else [32,45,62,32]++shN m d)++[32]++shN b d:=by
    unfold shB
    rw [if_neg (show ¬ ((6:Int)=0) by decide),if_neg (show ¬ ((6:Int)=1) by decide),if_neg (show ¬ ((6:Int)=2) by decide),if_neg (show ¬ ((6:Int)=3) by decide),if_neg (show ¬ ((6:Int)=4) by decide),if_neg (show ¬ ((6:Int)=5) by decide),if_pos rfl,hdr,a1,a2]
    have hnt:zeO (m::s.xs.drop (s.xs.length - 2+1))=mt.isEmpty:=by
      show (bs m.Text_).isEmpty=_
      rw [hmt,ZP]
    rw [hnt]
    cases mt <;> rfl
  rw [e6]
  unfold q2m q5d
  by_cases hn:mt=[]
  · subst hn
    simp (disch:=((try simp only [zc,List.length_append,List.length_cons,List.length_nil]);omega)) only [w1,w2,gs,j1,gm,gb,kb,hmt,zS,Yr,zr,zt,zn,zc,Option.bind_some,decide_true,if_true,decide_false,if_false,Bool.false_eq_true,ne_eq,not_true_eq_false]
    simp only [List.append_assoc,List.append_nil,List.nil_append]
  · simp (disch:=((try simp only [zc,List.length_append,List.length_cons,List.length_nil]);omega)) only [w1,w2,gs,j1,gm,gb,kb,km,hmt,hn,zS,Yr,zr,zt,zn,zc,Option.bind_some,decide_true,if_true,decide_false,if_false,Bool.false_eq_true,ne_eq,not_false_eq_true]
end Go.Px
namespace Go.Px
set_option linter.unusedVariables false
set_option linter.unusedSimpArgs false
theorem zbb {x b:List UInt8}{z:Sl Unit}(h:b.length+x.length≤140737488355328):qg (lit x,lit b,z)=some ((x.length:Int),lit (b++x),z):=by
 show Xv _=_
 unfold Xv
 rw [if_pos (by show (lit b).size+(lit x).size≤_;rw [zc,zc];exact h)]
 show some (((lit x).size:Int),lit b++lit x,z)=_
 rw [zc,zn]
theorem zi9 {b:List UInt8}{z:Sl Unit}(h:b≠[]):qz (lit b,z)=some (lit b):=by
 show xW _=_
 unfold xW
 rw [if_pos (by show 0 < (lit b).size;rw [zc];exact List.length_pos_iff.2 h)]
def lnB (d:Nat) (a:Nd):List UInt8:=z6 (d+1)++shN a (d+1)++[10]
def YZ (d:Nat) (l:List Nd):List UInt8:=(l.map (lnB d)).flatten
theorem yj (d:Nat):(z6 d).length=4 * d:=by simp [z6]
theorem zeS {d:Nat}:∀ l:List Nd,(YZ d l).length=(l.map fun a=>(shN a (d+1)).length).sum+(4 * (d+1)+1) * l.length
 |[]=>by simp [YZ]
 |a::l=>by
  have ih:=zeS (d:=d) l
  have hc:(lnB d a).length=(shN a (d+1)).length+(4 * (d+1)+1):=by simp [lnB,yj];omega
  unfold YZ at ih ⊢
  rw [List.map_cons,List.flatten_cons,List.length_append,ih,List.map_cons,List.sum_cons,List.length_cons,hc]
  generalize 4 * (d+1)+1=c
  rw [Nat.mul_succ]
  omega
theorem zkk {d:Nat}{l:List Nd}{a:Nd}:YZ d (l++[a])=YZ d l++lnB d a:=by simp [YZ]
theorem zja {h:ShF}{s:Sl Nd}{d:Nat}(K:KO h s (d+1)) (hd:d < 30000) (i:Nat):(YZ d (s.xs.take i)).length≤1099511627776+3600300000:=by
 rw [zeS]
 have h1:=vL (s.xs.map fun a=>(shN a (d+1)).length) i
 rw [← List.map_take] at h1
 have h2:=K.sm
 have h3:=K.len
 have h4:(4 * (d+1)+1) * (s.xs.take i).length≤120005 * 30000:=Nat.mul_le_mul (by omega) (by rw [List.length_take];omega)
 omega
theorem zhv {h:ShF}{s:Sl Nd}{d:Nat}(K:KO h s (d+1)) (hd:d < 30000) {g:ByteArray×Sl Unit→Option ByteArray}{z:Sl Unit}:∀ (n i:Nat),n+i=s.xs.length→
    lpO (q2t qg q1t h g) ((d:Int),s,s.len,(i:Int),lit ([123,10]++YZ d (s.xs.take i)),z)=some ((d:Int),lit ([123,10]++YZ d s.xs),z):=by
  intro n
  induction n with
  |zero=>
    intro i hi
    have hi:i=s.xs.length:=by omega
    subst hi
    rw [zC]
    unfold q2t
    dsimp only
    rw [if_neg (by simp [Sl.len]),List.take_length]
    rfl
  |succ n ih=>
    intro i hi
    obtain ⟨x,hx,hdr⟩:=Zf.drop_cons' (l:=s.xs) (i:=i) (by omega)
    have hm:x∈s.xs:=List.mem_of_getElem? hx
    have hlen:=K.len
    have l1:=K.one hm
    have l2:=zja K hd i
    have ih:=ih (i+1) (by omega)
    rw [Yb.take_succ'' hx,zkk] at ih
    have hw:qg (lit (lnB d x),lit ([123,10]++YZ d (s.xs.take i)),z)=some (((lnB d x).length:Int),lit ([123,10]++YZ d (s.xs.take i)++lnB d x),z):=zbb (by
      simp only [lnB,List.length_append,List.length_cons,List.length_nil,yj];omega)
    have hw:qg (lit (z6 (d+1)++shN x (d+1)++[10]),lit ([123,10]++YZ d (s.xs.take i)),z)=_:=hw
    rw [zC]
    generalize hG:lpO (q2t qg q1t h g)=G at ih ⊢
    unfold q2t
    dsimp only
    rw [if_pos (by simp [Sl.len];omega),yz,hx,Option.bind_some,Z1 (by omega),zds (by omega),Option.bind_some,zS,K.kid x hm,Option.bind_some]
    have hsz:(z6 (d+1)).length=4 * (d+1):=yj _
    simp (disch:=((try simp only [zc,List.length_append,List.length_cons,List.length_nil]);omega)) only [zr,zt,zn,zc,hw,Option.bind_some]
    rw [Z1 (by omega)]
    rw [← List.append_assoc] at ih
    exact ih
theorem zjb {h:ShF}{v p:Int}{t:List UInt8}{s:Sl Nd}{d:Nat}{S:List (List UInt8)}(K:KO h s (d+1)) (hd:d < 30000) :
    q1j h (⟨9,lit t,v,p,s⟩,(d:Int))=some (lit (shB 9 t v s.xs S (s.xs.map fun a=>shN a (d+1)) d)):=by
  have w0:qg (lit [123,10],lit [],⟨[],false⟩)=some (2,lit [123,10],⟨[],false⟩):=zbb (x:=[123,10]) (b:=[]) (by simp)
  have hlp:=zhv K hd (g:=qz) (z:=⟨[],false⟩) s.xs.length 0 (by omega)
  have hlp:lpO (q2t qg q1t h qz) ((d:Int),s,s.len,0,lit [123,10],⟨[],false⟩)=_:=hlp
  have l2:=zja K hd s.xs.length
  rw [List.take_length] at l2
  have hsz:(z6 d).length=4 * d:=yj _
  have w1:qg (lit (z6 d++[125]),lit ([123,10]++YZ d s.xs),⟨[],false⟩)=some (((z6 d++[125]).length:Int),lit ([123,10]++YZ d s.xs++(z6 d++[125])),⟨[],false⟩):=zbb (by
    simp only [List.length_append,List.length_cons,List.length_nil];omega)
  have w2:qz (lit ([123,10]++YZ d s.xs++(z6 d++[125])),⟨[],false⟩)=some (lit ([123,10]++YZ d s.xs++(z6 d++[125]))):=zi9 (by simp)
  have e9:shB 9 t v s.xs S (s.xs.map fun a=>shN a (d+1)) d=[123,10]++YZ d s.xs++(z6 d++[125]):=by
    unfold shB
    rw [if_neg (show ¬ ((9:Int)=0) by decide),if_neg (show ¬ ((9:Int)=1) by decide),if_neg (show ¬ ((9:Int)=2) by decide),if_neg (show ¬ ((9:Int)=3) by decide),if_neg (show ¬ ((9:Int)=4) by decide),if_neg (show ¬ ((9:Int)=5) by decide),if_neg (show ¬ ((9:Int)=6) by decide),if_neg (show ¬ ((9:Int)=7) by decide),if_neg (show ¬ ((9:Int)=8) by decide),if_pos rfl,List.map_map,List.append_assoc]
    rfl
  rw [e9]
  unfold q1j q3x
  dsimp only
  rw [w0,Option.bind_some,hlp,Option.bind_some,zds (Nat.le_of_lt hd),Option.bind_some]
  rw [zr (by rw [zc];omega),zn]
  dsimp only
  rw [w1,Option.bind_some]
  dsimp only
  rw [w2]
  rfl
end Go.Px
namespace Go.Px
set_option linter.unusedVariables false
set_option linter.unusedSimpArgs false
theorem zay {k:Int}{ks:List Nd}(h:k < 0∨28 < k):yn k ks=false:=by
 have n:∀ c:Int,0≤c→c≤28→¬ k=c:=fun c h0 h1 e=>by omega
 unfold yn YO
 simp [n]
theorem zkl {k:Int}{ks:List Nd}(hf:yn k ks=true) (h1:Yy k=false) (h2:Xj k=false):k=0∨k=1∨k=2∨k=3∨k=4∨k=6∨k=7∨k=8∨k=9:=by
 have hr:¬ (k < 0∨28 < k):=fun e=>by rw [zay e] at hf;cases hf
 unfold Yy at h1
 unfold Xj at h2
 simp at h1 h2
 omega
def YP (d:Nat) (l:List Nd):List UInt8:=(l.map fun a=>shN a d++[10]).flatten
theorem V2 {d:Nat}:∀ l:List Nd,(YP d l).length=(l.map fun a=>(shN a d).length).sum+l.length
 |[]=>by simp [YP]
 |a::l=>by
  have ih:=V2 (d:=d) l
  unfold YP at ih ⊢
  rw [List.map_cons,List.flatten_cons,List.length_append,ih,List.map_cons,List.sum_cons,List.length_cons]
  simp only [List.length_append,List.length_cons,List.length_nil]
  omega
theorem zjc {h:ShF}{s:Sl Nd}{d:Nat}{t:ByteArray}{v p:Int}(K:KO h s d) {a b c e f g j l m}:∀ (n i:Nat),n+i=s.xs.length→
    lpO (q3k a b c e f (q15 h) g j l m) (lit (YP d (s.xs.take i)),s.len,(i:Int),((0,t,v,p,s),(d:Int)))=some (lit (YP d s.xs)):=by
  intro n
  induction n with
  |zero=>
    intro i hi
    have hi:i=s.xs.length:=by omega
    subst hi
    rw [zC]
    unfold q3k
    dsimp only
    rw [if_neg (by simp [Sl.len]),List.take_length]
    rfl
  |succ n ih=>
    intro i hi
    obtain ⟨x,hx,hdr⟩:=Zf.drop_cons' (l:=s.xs) (i:=i) (by omega)
    have hlen:=K.len
    have hsm:=K.sm
    have l1:=K.one (List.mem_of_getElem? hx)
    have l2:=V2 (d:=d) (s.xs.take i)
    have h1:=vL (s.xs.map fun a=>(shN a d).length) i
    rw [← List.map_take] at h1
    have l3:(s.xs.take i).length≤30000:=by rw [List.length_take];omega
    have ih:=ih (i+1) (by omega)
    have hap:YP d (s.xs.take (i+1))=YP d (s.xs.take i)++(shN x d++[10]):=by
      rw [Yb.take_succ'' hx]
      simp [YP]
    rw [hap] at ih
    have hk:q15 h ((i:Int),(0,t,v,p,s),(d:Int))=some (lit (shN x d),(0,t,v,p,s),(d:Int)):=K.at h hx
    rw [zC]
    generalize hG:lpO (q3k a b c e f (q15 h) g j l m)=G at ih ⊢
    unfold q3k
    dsimp only
    rw [if_pos (by simp [Sl.len];omega),hk,Option.bind_some]
    simp (disch:=((try simp only [zc,List.length_append,List.length_cons,List.length_nil]);omega)) only [zr,zt,zn,zc,Option.bind_some]
    rw [Z1 (by omega)]
    exact ih
theorem zjd {h:ShF}{k v p:Int}{t:List UInt8}{s:Sl Nd}{d:Nat}(K:KO h s d) (K':KO h s (d+1)) (hd:d < 30000) (ht:t.length≤1048576) (hv : -9223372036854775808≤v∧v≤9223372036854775807) :
    q4c h (⟨k,lit t,v,p,s⟩,(d:Int))=some (lit (shN ⟨k,lit t,v,p,s⟩ d)):=by
  rw [V0]
  dsimp only
  rw [ZP]
  unfold q4c q4b
  dsimp only
  rw [zmA _ K.len,Option.bind_some]
  unfold shG
  by_cases hf:yn k s.xs=true
  case neg=>
    have hf:yn k s.xs=false:=by cases e:yn k s.xs <;> simp_all
    rw [hf]
    rfl
  rw [hf,if_pos rfl]
  rw [if_neg (show ¬ ((!true)=true) by decide),V1,Option.bind_some]
  by_cases h1:Yy k=true
  · rw [if_pos h1,zkh (I:=s.xs.map fun a=>shN a (d+1)) K ht hv h1 hf]
    rfl
  rw [if_neg h1,Vb,Option.bind_some]
  by_cases h2:Xj k=true
  · rw [if_pos h2,zkg (I:=s.xs.map fun a=>shN a (d+1)) K ht hv h2 hf]
    rfl
  rw [if_neg h2]
  have h1:Yy k=false:=by cases e:Yy k <;> simp_all
  have h2:Xj k=false:=by cases e:Xj k <;> simp_all
  simp only [Option.bind_some,Sum.elim_inr]
  rcases zkl hf h1 h2 with rfl | rfl | rfl | rfl | rfl | rfl | rfl | rfl | rfl
  · have hlp:=zjc (t:=lit t) (v:=v) (p:=p) K (a:=q4m) (b:=qx) (c:=q1w h) (e:=q11) (f:=q1v h) (g:=q26 h) (j:=q2m h) (l:=q1u h) (m:=q1j h) s.xs.length 0 (by omega)
    have hlp:lpO (q3k q4m qx (q1w h) q11 (q1v h) (q15 h) (q26 h) (q2m h) (q1u h) (q1j h)) (lit [],s.len,0,((0,lit t,v,p,s),(d:Int)))=_:=hlp
    simp only [hlp,decide_true,if_true,Option.bind_some,Sum.elim_inl]
    unfold shB
    rw [if_pos rfl,List.map_map]
    rfl
  · have hx:∃ a r,s.xs=a::r:=by
      unfold yn at hf
      simp [YO] at hf
      split at hf
      · cases hf
      · rename_i a r e;exact ⟨a,r,e⟩
    obtain ⟨a,r,e⟩:=hx
    have:=zlD (v:=v) (p:=p) (I:=s.xs.map fun a=>shN a (d+1)) K ht e
    simp [this]
  · unfold shB
    by_cases hn:s.xs=[]
    · simp [hn,Sl.len]
    · obtain ⟨a,r,e⟩:=List.exists_cons_of_ne_nil hn
      have la:=K.one (a:=a) (by rw [e];simp)
      have hp:(0:Int) < (r.length:Int)+1:=by omega
      simp (disch:=((try simp only [zc,List.length_append,List.length_cons,List.length_nil]);omega)) [K.n0 e,Sl.len,hp,zr,zt,zn,zc,e,at0,zX]
  · unfold shB
    by_cases hn:s.xs=[]
    · simp [hn,Sl.len]
    · obtain ⟨a,r,e⟩:=List.exists_cons_of_ne_nil hn
      have la:=K.one (a:=a) (by rw [e];simp)
      have hp:(0:Int) < (r.length:Int)+1:=by omega
      simp (disch:=((try simp only [zc,List.length_append,List.length_cons,List.length_nil]);omega)) [K.n0 e,Sl.len,hp,zr,zt,zn,zc,e,at0,zX]
  · obtain ⟨a,b,e⟩:=kk2 (of_decide_eq_true hf:kK s.xs=[5,5])
    have la:=K.one (a:=a) (by rw [e];simp)
    have lb:=K.one (a:=b) (by rw [e];simp)
    unfold shB
    simp (disch:=((try simp only [zc,List.length_append,List.length_cons,List.length_nil]);omega)) [K.n0 e,K.n1 e,zr,zt,zn,zc,e,at0,zX]
  · have hx:2≤s.xs.length:=by
      unfold yn at hf
      simp [YO] at hf
      exact hf.1.1
    have:=zmB (v:=v) (p:=p) (I:=s.xs.map fun a=>shN a (d+1)) K ht hx
    simp [this]
  · obtain ⟨a,e⟩:=kk1 (of_decide_eq_true hf:kK s.xs=[8])
    have la:=K.one (a:=a) (by rw [e];simp)
    unfold shB
    simp (disch:=((try simp only [zc,List.length_append,List.length_cons,List.length_nil]);omega)) [K.n0 e,zr,zt,zn,zc,e,at0,zX]
  · have:=zkj (v:=v) (p:=p) (I:=s.xs.map fun a=>shN a (d+1)) K ht
    simp [this]
  · have:=zjb (t:=t) (v:=v) (p:=p) (S:=s.xs.map fun a=>shN a d) K' hd
    simp [this]
end Go.Px
namespace Go.Px
set_option linter.unusedVariables false
set_option linter.unusedSimpArgs false
mutual
def zT:Nd→Prop
 |⟨_,t,v,_,ks⟩=>t.size≤1048576∧(-9223372036854775808≤v∧v≤9223372036854775807)∧zkP ks
def zkP:Sl Nd→Prop
 |⟨xs,_⟩=>XX xs
def XX:List Nd→Prop
 |[]=>True
 |a::r=>zT a∧XX r
end
theorem wU (n:Nd):zT n↔n.Text_.size≤1048576∧(-9223372036854775808≤n.Num_∧n.Num_≤9223372036854775807)∧XX n.Kids_.xs:=by
 obtain ⟨a,b,c,d,⟨xs,nn⟩⟩:=n
 simp [zT,zkP]
theorem Yz:∀ l:List Nd,XX l↔∀ a∈l,zT a
 |[]=>by simp [XX]
 |a::l=>by simp [XX,Yz l]
def Zy (w:Nat) (l:List (List UInt8)):Nat:=(l.map fun x=>x.length+w).sum
theorem XY {w:Nat}{x:List UInt8}{l:List (List UInt8)}:Zy w (x::l)=x.length+w+Zy w l:=by simp [Zy]
theorem zb7 (w:Nat) (l:List (List UInt8)) (i:Nat):Zy w l=Zy w (l.take i)+Zy w (l.drop i):=by
 unfold Zy
 rw [List.map_take,List.map_drop,← List.sum_append,List.take_append_drop]
theorem WT (sep:List UInt8) (w:Nat) (hw:sep.length≤w) (l:List (List UInt8)):(wR sep l).length≤Zy w l:=by
 have h:=wS sep l
 have:∀ l:List (List UInt8),(l.map (·.length)).sum+sep.length * l.length≤Zy w l:=by
  intro l
  induction l with
  |nil=>simp [Zy]
  |cons a r ih=>
   rw [XY,List.map_cons,List.sum_cons,List.length_cons,Nat.mul_succ]
   omega
 exact Nat.le_trans h (this l)
theorem zje (w:Nat) (l:List (List UInt8)) (i:Nat):(at0 l i).length≤Zy w (l.drop i):=by
 unfold at0
 rw [List.getD_eq_getElem?_getD]
 cases e:l[i]? with
 |none=>simp
 |some x=>
  have hi:=(List.getElem?_eq_some_iff.1 e)
  obtain ⟨h1,h2⟩:=hi
  rw [List.drop_eq_getElem_cons h1,XY,h2]
  simp <;> try omega
theorem We (w:Nat) (l:List (List UInt8)) (i:Nat):(at0 l i).length+Zy w (l.drop (i+1))≤Zy w (l.drop i):=by
 unfold at0
 rw [List.getD_eq_getElem?_getD]
 cases e:l[i]? with
 |none=>
  have:l.length≤i:=List.getElem?_eq_none_iff.1 e
  rw [List.drop_eq_nil_of_le this,List.drop_eq_nil_of_le (by omega)]
  simp
 |some x=>
  obtain ⟨h1,h2⟩:=List.getElem?_eq_some_iff.1 e
  rw [List.drop_eq_getElem_cons h1,XY,h2]
  simp <;> try omega
theorem zcP (w:Nat) (f:List UInt8→List UInt8) (hf:∀ x,(f x).length≤x.length+w):∀ l:List (List UInt8),(l.map f).flatten.length≤Zy w l
 |[]=>by simp [Zy]
 |a::l=>by
  have:=zcP w f hf l
  have:=hf a
  rw [List.map_cons,List.flatten_cons,List.length_append,XY]
  omega
theorem zjf {t:List UInt8}{v:Int}(hl:(Lib.itoa v).length≤30):(zav t v).length≤t.length+40:=by
 unfold zav
 repeat' split
 all_goals try simp only [List.length_append,List.length_cons,List.length_nil,List.length_drop]
 all_goals omega
theorem zlE {k v:Int}{t:List UInt8}{ks:List Nd}{s i:List (List UInt8)}{d w:Nat}(hl:(Lib.itoa v).length≤30) (hw:4 * (d+1)+2≤w) (hf:yn k ks=true) :
    (shB k t v ks s i d).length≤t.length+100+4 * d+(Zy w s+(Zy w i - Zy w s)):=by
  have a0:(at0 s 0).length+Zy w (s.drop 1)≤Zy w s:=We w s 0
  have a1:(at0 s 1).length+Zy w (s.drop 2)≤Zy w (s.drop 1):=We w s 1
  have a2:(at0 s 2).length+Zy w (s.drop 3)≤Zy w (s.drop 2):=We w s 2
  have a3:(at0 s 3).length≤Zy w (s.drop 3):=zje w s 3
  have c0:(Z4 s).length≤Zy w s:=WT [44,32] w (by simp;omega) s
  have n0:(wR [] s).length≤Zy w s:=WT [] w (by simp) s
  have t0:=zjf (t:=t) hl
  have c1:(Z4 ((s.drop 1).take (zH ks.tail))).length+(Z4 (s.drop (1+zH ks.tail))).length≤Zy w (s.drop 1):=by
    have h1:=zb7 w (s.drop 1) (zH ks.tail)
    have h2:(Z4 ((s.drop 1).take (zH ks.tail))).length≤_:=WT [44,32] w (by simp;omega) _
    have h3:(Z4 (s.drop (1+zH ks.tail))).length≤_:=WT [44,32] w (by simp;omega) _
    rw [List.drop_drop] at h1
    omega
  have f0:((s.map (·++[10])).flatten).length≤Zy w s:=zcP w (·++[10]) (fun x=>by simp;omega) s
  have f1:((i.map fun x=>z6 (d+1)++x++[10]).flatten).length≤Zy w i:=zcP w (fun x=>z6 (d+1)++x++[10]) (fun x=>by simp [yj];omega) i
  have sp:=yj d
  by_cases h6:k=6
  · subst h6
    have hx:2≤ks.length:=by
      unfold yn at hf
      simp [YO] at hf
      exact hf.1.1
    have h1:=zb7 w s (ks.length - 2)
    have h2:(Z4 (s.take (ks.length - 2))).length≤_:=WT [44,32] w (by simp;omega) _
    have h3:=We w s (ks.length - 2)
    have h4:=zje w s (ks.length - 1)
    have e:ks.length - 2+1=ks.length - 1:=by omega
    rw [e] at h3
    unfold shB
    rw [if_neg (show ¬ ((6:Int)=0) by decide),if_neg (show ¬ ((6:Int)=1) by decide),if_neg (show ¬ ((6:Int)=2) by decide),if_neg (show ¬ ((6:Int)=3) by decide),if_neg (show ¬ ((6:Int)=4) by decide),if_neg (show ¬ ((6:Int)=5) by decide),if_pos rfl]
    split
    all_goals try simp only [List.length_append,List.length_cons,List.length_nil]
    all_goals omega
  · rcases XM k with h | h
    case inr=>rw [zay h] at hf;cases hf
    rcases h with rfl | rfl | rfl | rfl | rfl | rfl | rfl | rfl | rfl | rfl | rfl | rfl | rfl | rfl | rfl | rfl | rfl | rfl | rfl | rfl | rfl | rfl | rfl | rfl | rfl | rfl | rfl | rfl | rfl
    all_goals first | exact absurd rfl h6 | skip
    all_goals unfold shB
    all_goals simp only [Int.reduceEq,reduceIte,false_or,or_false]
    all_goals repeat' split
    all_goals try simp only [List.length_append,List.length_cons,List.length_nil]
    all_goals omega
end Go.Px
namespace Go.Px
set_option linter.unusedVariables false
set_option linter.unusedSimpArgs false
theorem yC:∀ {l:List Nd}{a:Nd},a∈l→z7 a≤zi l
 |[],a,h=>by cases h
 |b::l,a,h=>by
  rw [zi]
  rcases List.mem_cons.1 h with rfl | h
  ·omega
  ·have:=yC h;omega
theorem vM:∀ l:List Nd,l.length≤zi l
 |[]=>by simp
 |a::l=>by
  have:=vM l
  have:=zo a
  rw [zi,List.length_cons]
  omega
theorem Wf {w c:Nat}{d:Nat}:∀ {l:List Nd},(∀ a∈l,(shN a d).length+w≤z7 a * c)→Zy w (l.map fun a=>shN a d)≤zi l * c
 |[],_=>by simp [Zy]
 |a::l,h=>by
  have h1:=h a (by simp)
  have h2:=Wf (l:=l) fun b hb=>h b (by simp [hb])
  rw [List.map_cons,XY,zi,Nat.add_mul]
  omega
theorem zlF {M:Nat}:∀ (m:Nat) (n:Nd) (d:Nat),z7 n≤m→zT n→d+z7 n≤M→(shN n d).length+(4 * M+8)≤z7 n * (1048576+8 * M+200):=by
 intro m
 induction m with
 |zero=>intro n d h;have:=zo n;omega
 |succ m ih=>
  intro n d hm hg hd
  have hs:=zo n
  obtain ⟨g1,g2,g3⟩:=(wU n).1 hg
  rw [Yz] at g3
  have k0:Zy (4 * M+8) (n.Kids_.xs.map fun a=>shN a d)≤zi n.Kids_.xs * (1048576+8 * M+200):=Wf fun a ha=>by
   have:=yC ha
   exact ih a d (by omega) (g3 a ha) (by omega)
  have k1:Zy (4 * M+8) (n.Kids_.xs.map fun a=>shN a (d+1))≤zi n.Kids_.xs * (1048576+8 * M+200):=Wf fun a ha=>by
   have:=yC ha
   exact ih a (d+1) (by omega) (g3 a ha) (by omega)
  rw [V0,hs,Nat.succ_mul (zi n.Kids_.xs) (1048576+8 * M+200)]
  unfold shG
  have hbl:(bs n.Text_).length≤1048576:=by rw [Zr];exact g1
  by_cases hf:yn n.Kind_ n.Kids_.xs=true
  ·rw [if_pos hf]
   have:=zlE (t:=bs n.Text_) (s:=n.Kids_.xs.map fun a=>shN a d) (i:=n.Kids_.xs.map fun a=>shN a (d+1)) (d:=d) (w:=4 * M+8) (Xy g2) (by omega) hf
   omega
  ·rw [if_neg hf]
   simp only [List.length_cons,List.length_nil]
   omega
theorem zhw {h:ShF}{s:Sl Nd}{d:Nat}(hk:∀ a∈s.xs,h (a,(d:Int))=some (lit (shN a d))) (hg:XX s.xs) (hd:d+zi s.xs≤5000):KO h s d where
 len:=by have:=vM s.xs;omega
 kid:=hk
 sm:=by
  rw [Yz] at hg
  have h1:Zy 0 (s.xs.map fun a=>shN a d)≤zi s.xs * (1048576+8 * 5000+200):=Wf fun a ha=>by
   have h2:=yC ha
   have h3:=zlF (M:=5000) _ a d (Nat.le_refl _) (hg a ha) (by omega)
   omega
  have e:Zy 0 (s.xs.map fun a=>shN a d)=(s.xs.map fun a=>(shN a d).length).sum:=by
   unfold Zy
   rw [List.map_map]
   rfl
  rw [e] at h1
  have:zi s.xs * (1048576+8 * 5000+200)≤5000 * (1048576+8 * 5000+200):=Nat.mul_le_mul_right _ (by omega)
  omega
theorem zkm:∀ (f:Nat) (n:Nd) (d:Nat),z7 n≤f→zT n→d+z7 n≤5000→qm f (n,(d:Int))=some (lit (shN n d)):=by
 intro f
 induction f with
 |zero=>intro n d h;have:=zo n;omega
 |succ f ih=>
  intro n d hf hg hd
  have hs:=zo n
  obtain ⟨g1,g2,g3⟩:=(wU n).1 hg
  obtain ⟨k,t,v,p,s⟩:=n
  dsimp only at hs g1 g2 g3
  have g4:=(Yz _).1 g3
  have K:KO (qm f) s d:=zhw (fun a ha=>by
   have:=yC ha
   exact ih a d (by omega) (g4 a ha) (by omega)) g3 (by omega)
  have K':KO (qm f) s (d+1):=zhw (fun a ha=>by
   have:=yC ha
   exact ih a (d+1) (by omega) (g4 a ha) (by omega)) g3 (by omega)
  have ht:t=lit (bs t):=(zeP t).symm
  rw [ht]
  exact zjd K K' (by omega) (by rw [Zr];exact g1) g2
theorem zlG {n:Nd}(hg:zT n) (hs:z7 n≤5000):q36 n=some (lit (shN n 0)):=by
 have:=zkm 100000 n 0 (by omega) hg (by omega)
 have this:qm 100000 (n,0)=_:=this
 show ((q83 (_,0)).bind fun y=>some y)=_
 rw [zS]
 show ((qm 100000 (n,0)).bind fun y=>some y)=_
 rw [this]
 rfl
end Go.Px
namespace Go.Px
set_option linter.unusedVariables false
set_option linter.unusedSimpArgs false
def TkG (ts:List Tk):Prop:=∀ t∈ts,t.Text_.size≤1048576∧0≤t.Num_∧t.Num_≤9223372036854775807
theorem TkG.tl {ts:List Tk}(g:TkG ts):TkG ts.tail:=fun t h=>g t (List.mem_of_mem_tail h)
theorem TkG.hd {ts:List Tk}(g:TkG ts):(hd ts).Text_.size≤1048576∧0≤(hd ts).Num_∧(hd ts).Num_≤9223372036854775807:=by
 cases ts with
 |nil=>show (lit []).size≤_∧(0:Int)≤0∧(0:Int)≤_;rw [zc];simp
 |cons t r=>exact g t (by simp)
def Gd (p:List Tk→PR Nd):Prop:=∀ ts n t1,TkG ts→p ts = .ok (n,t1)→zT n∧TkG t1
theorem ZO {s:List UInt8}{ts t1:List Tk}{u:Unit}(g:TkG ts) (h:Zg s ts = .ok (u,t1)):TkG t1:=by
 unfold Zg at h
 split at h
 ·cases h;exact g.tl
 ·cases h
theorem zgc {k:Int}{ts t1:List Tk}{t:Tk}(g:TkG ts) (h:XJ k ts = .ok (t,t1)):t=hd ts∧TkG t1:=by
 unfold XJ at h
 split at h
 ·cases h;exact ⟨rfl,g.tl⟩
 ·cases h
theorem x1 {sg:Int}(hs:sg=1∨sg = -1) {ts t1:List Tk}{v:Int}(g:TkG ts) (h:xa sg ts = .ok (v,t1)):(-9223372036854775808≤v∧v≤9223372036854775807)∧TkG t1:=by
 obtain ⟨a,t,e,h⟩:=zg h
 cases h
 obtain ⟨rfl,g1⟩:=zgc g e
 have:=g.hd
 rcases hs with rfl | rfl <;> exact ⟨by omega,g1⟩
theorem zA {k v p:Int}{t:ByteArray}{s:Sl Nd}(ht:t.size≤1048576) (hv : -9223372036854775808≤v∧v≤9223372036854775807) (hs:∀ a∈s.xs,zT a):zT ⟨k,t,v,p,s⟩:=
 (wU _).2 ⟨ht,hv,(Yz _).2 hs⟩
theorem Zd {n:Nd}(h:zT n):n.Text_.size≤1048576∧(-9223372036854775808≤n.Num_∧n.Num_≤9223372036854775807)∧∀ a∈n.Kids_.xs,zT a:=by
 obtain ⟨a,b,c⟩:=(wU n).1 h
 exact ⟨a,b,(Yz _).1 c⟩
theorem xM:(lit []).size≤1048576:=by rw [zc];simp
theorem yw:(-9223372036854775808:Int)≤0∧(0:Int)≤9223372036854775807:=by omega
theorem nok {s:Bool}:∀ a∈(⟨[],s⟩:Sl Nd).xs,zT a:=fun a h=>by cases h
theorem vN {s:Bool}{n:Nd}(h:zT n):∀ a∈(⟨[n],s⟩:Sl Nd).xs,zT a:=fun a ha=>by simp at ha;rw [ha];exact h
theorem zb8 {s:Bool}{n m:Nd}(h:zT n) (h2:zT m):∀ a∈(⟨[n,m],s⟩:Sl Nd).xs,zT a:=fun a ha=>by
 simp at ha
 rcases ha with rfl | rfl
 ·exact h
 ·exact h2
theorem ZY:Gd Zh:=fun ts n t1 g h=>by
 obtain ⟨a,t,e,h⟩:=zg h
 cases h
 obtain ⟨rfl,g1⟩:=zgc g e
 exact ⟨zA g.hd.1 yw nok,g1⟩
theorem zgd {n:Nd}(hn:zT n):Gd (Xf n):=fun ts m t1 g h=>by
 obtain ⟨q1,q2,q3⟩:=Zd hn
 unfold Xf at h
 split at h
 ·obtain ⟨a,t,e,h⟩:=zg h
  cases h
  obtain ⟨r,g1⟩:=x1 (.inl rfl) g.tl e
  exact ⟨zA q1 r q3,g1⟩
 ·split at h
  ·obtain ⟨a,t,e,h⟩:=zg h
   cases h
   obtain ⟨r,g1⟩:=x1 (.inr rfl) g.tl e
   exact ⟨zA q1 r q3,g1⟩
  ·cases h;exact ⟨hn,g⟩
theorem x2:Gd yh:=fun ts n t1 g h=>by
 unfold yh at h
 split at h
 ·obtain ⟨a,t,e,h⟩:=zg h
  cases h
  obtain ⟨r,g1⟩:=x1 (.inl rfl) g e
  exact ⟨zA xM r nok,g1⟩
 ·split at h
  ·obtain ⟨a,t,e,h⟩:=zg h
   cases h
   obtain ⟨r,g1⟩:=x1 (.inr rfl) g.tl e
   exact ⟨zA xM r nok,g1⟩
  ·obtain ⟨a,t,e,h⟩:=zg h
   obtain ⟨h1,g1⟩:=ZY _ _ _ g e
   exact zgd h1 _ _ _ g1 h
theorem zb9 {one:List Tk→PR Nd}(ho:Gd one):∀ (k:Nat) (acc:List Nd) (ts:List Tk) (l:List Nd) (t1:List Tk),TkG ts→(∀ a∈acc,zT a)→Ya one k acc ts = .ok (l,t1)→(∀ a∈l,zT a)∧TkG t1
 |0,acc,ts,l,t1,g,ha,h=>by cases h;exact ⟨ha,g⟩
 |k+1,acc,ts,l,t1,g,ha,h=>by
  unfold Ya at h
  split at h
  ·obtain ⟨a,t,e,h⟩:=zg h
   obtain ⟨h1,g1⟩:=ho _ _ _ g.tl e
   exact zb9 ho k _ _ _ _ g1 (fun b hb=>by
    rcases List.mem_append.1 hb with hb | hb
    ·exact ha b hb
    ·simp at hb;rw [hb];exact h1) h
  ·cases h;exact ⟨ha,g⟩
theorem zaz {one:List Tk→PR Nd}(ho:Gd one) {ts t1:List Tk}{l:List Nd}(g:TkG ts) (h:Ye one ts = .ok (l,t1)):(∀ a∈l,zT a)∧TkG t1:=by
 obtain ⟨a,t,e,h⟩:=zg h
 obtain ⟨h1,g1⟩:=ho _ _ _ g e
 exact zb9 ho _ _ _ _ _ g1 (fun b hb=>by simp at hb;rw [hb];exact h1) h
theorem zcQ {ts t1:List Tk}{ks:Sl Nd}(g:TkG ts) (h:zar ts = .ok (ks,t1)):(∀ a∈ks.xs,zT a)∧TkG t1:=by
 obtain ⟨u,t,e,h⟩:=zg h
 have g1:=ZO g e
 split at h
 ·cases h;exact ⟨nok,g1.tl⟩
 ·obtain ⟨l,t2,e2,h⟩:=zg h
  obtain ⟨u,t3,e3,h⟩:=zg h
  cases h
  obtain ⟨h1,g2⟩:=zaz x2 g1 e2
  exact ⟨h1,ZO g2 e3⟩
theorem zkn:Gd XW:=fun ts n t1 g h=>by
 obtain ⟨a,t,e,h⟩:=zg h
 obtain ⟨h0,g0⟩:=ZY _ _ _ g e
 obtain ⟨q1,q2,q3⟩:=Zd h0
 split at h
 ·obtain ⟨k,t2,e2,h⟩:=zg h
  obtain ⟨u,t3,e3,h⟩:=zg h
  cases h
  obtain ⟨h1,g1⟩:=ZY _ _ _ g0.tl e2
  exact ⟨zA q1 q2 (vN h1),ZO g1 e3⟩
 ·cases h;exact ⟨zA q1 q2 nok,g0⟩
theorem zmC {ts t1:List Tk}{s:ByteArray}(g:TkG ts) (h:za8 ts = .ok (s,t1)):s.size≤1048576∧TkG t1:=by
 unfold za8 at h
 split at h
 ·cases h;exact ⟨by rw [zc];simp,g.tl⟩
 ·split at h
  ·cases h;exact ⟨by rw [zc];simp,g.tl⟩
  ·split at h
   ·cases h;exact ⟨by rw [zc];simp,g.tl⟩
   ·cases h
theorem zge:Gd XL:=fun ts n t1 g h=>by
 obtain ⟨a,t,e,h⟩:=zg h
 obtain ⟨op,t2,e2,h⟩:=zg h
 obtain ⟨b,t3,e3,h⟩:=zg h
 cases h
 obtain ⟨h0,g0⟩:=x2 _ _ _ g e
 obtain ⟨h1,g1⟩:=zmC g0 e2
 obtain ⟨h2,g2⟩:=x2 _ _ _ g1 e3
 exact ⟨zA h1 yw (zb8 h0 h2),g2⟩
theorem wr {k c d:Int}{a:ByteArray}{ts t1:List Tk}{n:Nd}(g:TkG ts) (ha:a.size≤1048576) (hc : -9223372036854775808≤c∧c≤9223372036854775807) (h:((Zh ts).bd fun m t=>(.ok (⟨k,a,c,d,⟨[m],true⟩⟩,t):PR Nd)) = .ok (n,t1)):zT n∧TkG t1:=by
 obtain ⟨m,t,e,h⟩:=zg h
 cases h
 obtain ⟨h0,g0⟩:=ZY _ _ _ g e
 exact ⟨zA ha hc (vN h0),g0⟩
theorem zlH:Gd vE:=fun ts n t1 g h=>by
 unfold vE at h
 split at h
 ·cases h;exact ⟨zA g.hd.1 yw nok,g.tl⟩
 ·split at h
  ·cases h;exact ⟨zA g.hd.1 yw nok,g.tl⟩
  ·split at h
   ·exact wr g.tl g.hd.1 yw h
   ·split at h
    ·exact wr g.tl g.hd.1 yw h
    ·split at h
     ·exact wr g.tl g.hd.1 yw h
     ·cases h
theorem we {l r:List Nd}(h:∀ a∈l,zT a) (k:∀ a∈r,zT a):∀ a∈l++r,zT a:=fun a ha=>by
 rcases List.mem_append.1 ha with ha | ha
 ·exact h a ha
 ·exact k a ha
theorem V3 {n:Nd}(h:zT n):∀ a∈[n],zT a:=fun a ha=>by simp at ha;rw [ha];exact h
theorem zmD (a:Int):Gd (zeA a):=fun ts n t1 g h=>by
 obtain ⟨m,t,e,h⟩:=zg h
 obtain ⟨s,t2,e2,h⟩:=zg h
 obtain ⟨ks,t3,e3,h⟩:=zg h
 obtain ⟨ks2,t4,e4,h⟩:=zg h
 obtain ⟨u,t5,e5,h⟩:=zg h
 cases h
 obtain ⟨h0,g0⟩:=ZY _ _ _ g e
 obtain ⟨q1,q2,q3⟩:=Zd h0
 obtain ⟨h1,g1⟩:=zlH _ _ _ g0 e2
 have h3:(∀ a∈ks,zT a)∧TkG t3:=by
  split at e3
  ·obtain ⟨l,t6,e6,e7⟩:=zg e3
   obtain ⟨u,t7,e7,e8⟩:=zg e7
   cases e8
   obtain ⟨h6,g6⟩:=zaz zkn g1.tl e6
   exact ⟨we (V3 h1) h6,ZO g6 e7⟩
  ·cases e3;exact ⟨V3 h1,g1⟩
 have h4:(∀ a∈ks2,zT a)∧TkG t4:=by
  split at e4
  ·obtain ⟨l,t6,e6,e7⟩:=zg e4
   cases e7
   obtain ⟨h6,g6⟩:=zaz zge h3.2.tl e6
   exact ⟨we h3.1 h6,g6⟩
  ·cases e4;exact h3
 exact ⟨zA q1 q2 h4.1,ZO h4.2 e5⟩
theorem zgf:Gd Wd:=fun ts n t1 g h=>by
 unfold Wd at h
 split at h
 ·cases h;exact ⟨zA g.hd.1 yw nok,g.tl⟩
 ·split at h
  ·exact wr g.tl g.hd.1 yw h
  ·obtain ⟨u,t,e,h⟩:=zg h
   have g0:=ZO g e
   split at h
   ·exact wr g0.tl (by rw [zc];simp) yw h
   ·exact wr g0 g.hd.1 yw h
theorem zko:Gd Xg:=fun ts n t1 g h=>by
 obtain ⟨m,t,e,h⟩:=zg h
 obtain ⟨s,t2,e2,h⟩:=zg h
 obtain ⟨k,t3,e3,h⟩:=zg h
 cases h
 obtain ⟨h0,g0⟩:=ZY _ _ _ g e
 obtain ⟨q1,q2,q3⟩:=Zd h0
 obtain ⟨h2,g2⟩:=zgf _ _ _ (ZO g0 e2) e3
 exact ⟨zA q1 q2 (vN h2),g2⟩
theorem zkQ (k:Int):Gd (atP k):=fun ts n t1 g h=>by
 obtain ⟨m,t,e,h⟩:=zg h
 obtain ⟨s,t2,e2,h⟩:=zg h
 obtain ⟨v,t3,e3,h⟩:=zg h
 obtain ⟨u,t4,e4,h⟩:=zg h
 cases h
 obtain ⟨h0,g0⟩:=ZY _ _ _ g e
 obtain ⟨q1,q2,q3⟩:=Zd h0
 obtain ⟨r,g3⟩:=x1 (.inl rfl) (ZO g0 e2) e3
 exact ⟨zA q1 r nok,ZO g3 e4⟩
theorem zlI:Gd vF:=fun ts n t1 g h=>by
 unfold vF at h
 split at h
 ·obtain ⟨a,t,e,h⟩:=zg h
  cases h
  obtain ⟨r,g1⟩:=x1 (.inl rfl) g.tl e
  exact ⟨zA xM r nok,g1⟩
 split at h
 ·obtain ⟨a,t,e,h⟩:=zg h
  cases h
  obtain ⟨h0,g0⟩:=ZY _ _ _ g.tl e
  exact ⟨zA (Zd h0).1 yw nok,g0⟩
 split at h
 ·split at h
  ·obtain ⟨a,t,e,h⟩:=zg h
   cases h
   obtain ⟨h0,g0⟩:=ZY _ _ _ g.tl.tl e
   exact ⟨zA (Zd h0).1 yw nok,g0⟩
  ·obtain ⟨a,t,e,h⟩:=zg h
   cases h
   obtain ⟨h0,g0⟩:=ZY _ _ _ g.tl e
   exact ⟨zA (Zd h0).1 yw nok,g0⟩
 split at h
 ·exact x2 _ _ _ g h
 obtain ⟨m,t,e,h⟩:=zg h
 obtain ⟨h0,g0⟩:=ZY _ _ _ g e
 obtain ⟨q1,q2,q3⟩:=Zd h0
 split at h
 ·obtain ⟨ks,t2,e2,h⟩:=zg h
  cases h
  obtain ⟨h1,g1⟩:=zcQ g0 e2
  exact ⟨zA q1 q2 h1,g1⟩
 split at h
 ·obtain ⟨a,t2,e2,h⟩:=zg h
  obtain ⟨u,t3,e3,h⟩:=zg h
  cases h
  obtain ⟨h1,g1⟩:=x2 _ _ _ g0.tl e2
  exact ⟨zA q1 q2 (vN h1),ZO g1 e3⟩
 split at h
 ·obtain ⟨a,t2,e2,h⟩:=zg h
  cases h
  obtain ⟨h1,g1⟩:=ZY _ _ _ g0.tl e2
  exact ⟨zA xM yw (zb8 h0 h1),g1⟩
 split at h
 ·obtain ⟨a,t2,e2,h⟩:=zg h
  cases h
  obtain ⟨h1,g1⟩:=ZY _ _ _ g0.tl e2
  exact ⟨zA xM yw (zb8 h0 h1),g1⟩
 ·exact zgd h0 _ _ _ g0 h
theorem zkp {m:Nd}(hm:zT m):Gd (wO m):=fun ts n t1 g h=>by
 obtain ⟨q1,q2,q3⟩:=Zd hm
 unfold wO at h
 split at h
 ·obtain ⟨ks,t2,e2,h⟩:=zg h
  cases h
  obtain ⟨h1,g1⟩:=zcQ g e2
  exact ⟨zA xM yw (vN (zA q1 q2 h1)),g1⟩
 split at h
 ·obtain ⟨a,t2,e2,h⟩:=zg h
  obtain ⟨u,t3,e3,h⟩:=zg h
  obtain ⟨u,t4,e4,h⟩:=zg h
  obtain ⟨b,t5,e5,h⟩:=zg h
  cases h
  obtain ⟨h1,g1⟩:=x2 _ _ _ g.tl e2
  obtain ⟨h2,g2⟩:=x2 _ _ _ (ZO (ZO g1 e3) e4) e5
  exact ⟨zA q1 q2 (zb8 h1 h2),g2⟩
 ·obtain ⟨u,t4,e4,h⟩:=zg h
  obtain ⟨b,t5,e5,h⟩:=zg h
  cases h
  obtain ⟨h1,g1⟩:=zlI _ _ _ (ZO g e4) e5
  exact ⟨zA q1 q2 (vN h1),g1⟩
theorem XZ {m:Nd}(hm:zT m):Gd (X6 m):=fun ts n t1 g h=>by
 obtain ⟨u,t,e,h⟩:=zg h
 cases h;exact ⟨hm,ZO g e⟩
theorem zdt {blk:List Tk→PR Nd}(hb:Gd blk) (k a:Int):Gd (wm blk k a):=fun ts n t1 g h=>by
 obtain ⟨m,t,e,h⟩:=zg h
 obtain ⟨b,t2,e2,h⟩:=zg h
 cases h
 obtain ⟨h0,g0⟩:=zge _ _ _ g e
 obtain ⟨q1,q2,q3⟩:=Zd h0
 obtain ⟨h1,g1⟩:=hb _ _ _ g0 e2
 exact ⟨zA q1 q2 (we q3 (V3 h1)),g1⟩
theorem zlJ {blk:List Tk→PR Nd}(hb:Gd blk):Gd (xG blk):=fun ts n t1 g h=>by
 unfold xG at h
 split at h
 ·obtain ⟨a,t,e,h⟩:=zg h
  obtain ⟨h0,g0⟩:=ZY _ _ _ g.tl e
  obtain ⟨q1,q2,q3⟩:=Zd h0
  exact XZ (zA q1 q2 nok) _ _ _ g0 h
 split at h
 ·obtain ⟨a,t,e,h⟩:=zg h
  obtain ⟨h0,g0⟩:=zkQ _ _ _ _ g.tl e
  obtain ⟨q1,q2,q3⟩:=Zd h0
  exact XZ (zA q1 q2 nok) _ _ _ g0 h
 split at h
 ·obtain ⟨a,t,e,h⟩:=zg h
  obtain ⟨h0,g0⟩:=zkQ _ _ _ _ g.tl e
  obtain ⟨q1,q2,q3⟩:=Zd h0
  exact XZ (zA q1 q2 nok) _ _ _ g0 h
 split at h
 ·obtain ⟨a,t,e,h⟩:=zg h
  obtain ⟨h0,g0⟩:=zdt hb _ _ _ _ _ g.tl e
  obtain ⟨q1,q2,q3⟩:=Zd h0
  split at h
  ·obtain ⟨b,t2,e2,h⟩:=zg h
   cases h
   obtain ⟨h1,g1⟩:=hb _ _ _ g0.tl e2
   exact ⟨zA q1 q2 (we q3 (V3 h1)),g1⟩
  ·cases h
   exact ⟨zA q1 q2 (we q3 (V3 (zA xM yw nok))),g0⟩
 split at h
 ·exact zdt hb _ _ _ _ _ g.tl h
 split at h
 ·split at h
  ·exact XZ (zA xM yw nok) _ _ _ g.tl h
  ·obtain ⟨a,t,e,h⟩:=zg h
   obtain ⟨h0,g0⟩:=x2 _ _ _ g.tl e
   exact XZ (zA xM yw (vN h0)) _ _ _ g0 h
 split at h
 ·exact XZ (zA xM yw nok) _ _ _ g.tl h
 split at h
 ·obtain ⟨a,t,e,h⟩:=zg h
  obtain ⟨ks,t2,e2,h⟩:=zg h
  obtain ⟨h0,g0⟩:=ZY _ _ _ g.tl e
  obtain ⟨q1,q2,q3⟩:=Zd h0
  obtain ⟨h1,g1⟩:=zcQ g0 e2
  exact XZ (zA q1 q2 h1) _ _ _ g1 h
 ·obtain ⟨a,t,e,h⟩:=zg h
  obtain ⟨m,t2,e2,h⟩:=zg h
  obtain ⟨h0,g0⟩:=ZY _ _ _ g e
  obtain ⟨h1,g1⟩:=zkp h0 _ _ _ g0 e2
  exact XZ h1 _ _ _ g1 h
theorem zeT {one:List Tk→PR Nd}(ho:Gd one):∀ (k:Nat) (acc:List Nd) (ts:List Tk) (l:List Nd) (t1:List Tk),TkG ts→(∀ a∈acc,zT a)→xz one k acc ts = .ok (l,t1)→(∀ a∈l,zT a)∧TkG t1
 |0,acc,ts,l,t1,g,ha,h=>by cases h
 |k+1,acc,ts,l,t1,g,ha,h=>by
  unfold xz at h
  split at h
  ·cases h;exact ⟨ha,g.tl⟩
  ·obtain ⟨a,t,e,h⟩:=zg h
   obtain ⟨h1,g1⟩:=ho _ _ _ g e
   exact zeT ho k _ _ _ _ g1 (we ha (V3 h1)) h
theorem zeU:∀ r,Gd (YE r)
 |0=>fun ts n t1 g h=>by unfold YE at h;split at h <;> cases h
 |r+1=>fun ts n t1 g h=>by
  obtain ⟨u,t,e,h⟩:=zg (show ((Zg [123] ts).bd _)=_ from h)
  obtain ⟨l,t2,e2,h⟩:=zg h
  cases h
  obtain ⟨h1,g1⟩:=zeT (zlJ (zeU r)) _ _ _ _ _ (ZO g e) (fun a ha=>by cases ha) e2
  exact ⟨zA xM yw h1,g1⟩
theorem znq (a:Int):Gd (fnP a):=fun ts n t1 g h=>by
 obtain ⟨m,t,e,h⟩:=zg h
 obtain ⟨u,t2,e2,h⟩:=zg h
 obtain ⟨ps,t3,e3,h⟩:=zg h
 obtain ⟨u,t4,e4,h⟩:=zg h
 obtain ⟨ret,t5,e5,h⟩:=zg h
 obtain ⟨b,t6,e6,h⟩:=zg h
 cases h
 obtain ⟨h0,g0⟩:=ZY _ _ _ g e
 obtain ⟨q1,q2,q3⟩:=Zd h0
 have g2:=ZO g0 e2
 have h3:(∀ a∈ps,zT a)∧TkG t3:=by
  split at e3
  ·cases e3;exact ⟨fun a ha=>(by cases ha),g2⟩
  ·exact zaz zko g2 e3
 have g4:=ZO h3.2 e4
 have h5:zT ret∧TkG t5:=by
  split at e5
  ·split at e5
   ·cases e5
   ·exact zgf _ _ _ g4.tl e5
  ·cases e5;exact ⟨zA xM yw nok,g4⟩
 obtain ⟨h6,g6⟩:=zeU _ _ _ _ h5.2 e6
 exact ⟨zA q1 q2 (we h3.1 (zb8 (s:=true) h5.1 h6)),g6⟩
theorem zbc:∀ (k:Nat) (acc:List Nd) (ts:List Tk) (l:List Nd) (t1:List Tk),TkG ts→(∀ a∈acc,zT a)→xA k acc ts = .ok (l,t1)→(∀ a∈l,zT a)∧TkG t1
 |0,acc,ts,l,t1,g,ha,h=>by cases h
 |k+1,acc,ts,l,t1,g,ha,h=>by
  unfold xA at h
  split at h
  ·cases h;exact ⟨ha,g⟩
  split at h
  ·obtain ⟨a,t,e,h⟩:=zg h
   obtain ⟨h1,g1⟩:=znq _ _ _ _ g.tl e
   exact zbc k _ _ _ _ g1 (we ha (V3 h1)) h
  ·obtain ⟨u,t,e,h⟩:=zg h
   obtain ⟨a,t2,e2,h⟩:=zg h
   obtain ⟨h1,g1⟩:=zmD _ _ _ _ (ZO g e) e2
   exact zbc k _ _ _ _ g1 (we ha (V3 h1)) h
end Go.Px
namespace Go.Px
set_option linter.unusedVariables false
set_option linter.unusedSimpArgs false
theorem V4:∀ (f at_:Nat) (l:List UInt8) (ts:List Tk),Xe f at_ l = .inr ts→∀ t∈ts,t.Text_.size≤l.length
 |0,at_,l,ts,h=>by cases h;simp
 |f+1,at_,l,ts,h=>by
  unfold Xe at h
  split at h
  ·cases h;simp
  split at h
  ·rename_i n hn
   intro t ht
   have:=V4 f _ _ ts h t ht
   rw [List.length_drop] at this
   omega
  ·cases h
  ·rename_i k n v hn
   split at h
   ·cases h
   ·rename_i ts' hts
    cases h
    intro t ht
    rcases List.mem_cons.1 ht with rfl | ht
    ·show (lit (l.take n)).size≤_
     rw [zc,List.length_take]
     omega
    ·have:=V4 f _ _ ts' hts t ht
     rw [List.length_drop] at this
     omega
theorem zjg {s:ByteArray}:TkG (Yq s).2.2.xs:=by
 unfold Yq
 by_cases hs:16384 < s.size
 ·rw [if_pos hs];intro t ht;cases ht
 ·rw [if_neg hs]
  cases e:Xw 0 (bs s) with
  |inl x=>intro t ht;cases ht
  |inr ts=>
   intro t ht
   simp only [List.mem_append,List.mem_singleton] at ht
   rcases ht with ht | rfl
   ·have h1:=V4 _ _ _ _ e t ht
    have h2:=(vI _ _ _ _ e t ht).1
    rw [Zr] at h1
    exact ⟨by omega,h2.1,by omega⟩
   ·exact ⟨xM,by simp,by simp⟩
theorem V5:zT zau∧z7 zau≤4096:=⟨zA xM yw nok,by rw [zo];simp [zau,zi]⟩
theorem vO (s:ByteArray):zT (xB s).1∧z7 (xB s).1≤4096:=by
 unfold xB
 by_cases h:(Yq s).2.1≠0
 ·rw [if_pos h];exact V5
 ·rw [if_neg h]
  split
  ·exact V5
  ·rename_i ks r e
   split
   ·exact V5
   ·rename_i hsz
    have:=(zbc _ _ _ _ _ zjg (fun a ha=>by cases ha) e).1
    refine ⟨zA xM yw this,?_⟩
    rw [zo]
    show zi (mkS ks).xs+1≤_
    unfold mkS
    simp only
    omega
theorem zhx (s:ByteArray):q36 (xB s).1=some (lit (shN (xB s).1 0)):=
 zlG (vO s).1 (Nat.le_trans (vO s).2 (by omega))
end Go.Px
