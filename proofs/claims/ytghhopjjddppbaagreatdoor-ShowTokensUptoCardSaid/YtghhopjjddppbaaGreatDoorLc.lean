/- Part Lc: Px03S Px03T Px03U Px03V Px03X Px03Y Px03Z Px0 -/
import Derived.Test.YtghhopjjddppbaaGreatDoorLa
namespace Go.Px
set_option linter.unusedVariables false
set_option linter.unusedSimpArgs false
def kK (ks:List Nd):List Int:=ks.map (·.Kind_)
def xm (k:Int) (ks:List Nd):Bool:=ks.all fun n=>decide (n.Kind_=k)
def Xu (k:Int):Bool:=decide (10≤k) && decide (k≤20)
def xO (k:Int):Bool:=decide (k=5) || (decide (21≤k) && decide (k≤28))
def Z9 (k:Int):Option (List Int):=
 if k=4∨k=11∨k=21∨k=22 then some [5,5]
 else if k=7 then some [8]
 else if k=15 then some [5,5,9,9]
 else if k=16 then some [5,5,9]
 else if k=20 then some [28]
 else if k=25 then some [5]
 else if k=5∨k=12∨k=13∨k=14∨k=18∨k=23∨k=24∨k=26∨k=27 then some []
 else none
def zO:List Nd→Nat
 |[]=>0
 |n::r=>if n.Kind_=3 then zO r+1 else 0
def zE (k:Int) (ks:List Nd):Bool:=match Z9 k with
 |some w=>decide (kK ks=w)
 |none=>
  if k=0 then ks.all fun n=>decide (n.Kind_=1) || decide (n.Kind_=6)
  else if k=1 then match ks with
   |[]=>false
   |s::r=>decide (s.Kind_=2) && xm 4 (r.drop (zO r))
  else if k=2∨k=3∨k=17∨k=8 then decide (ks.length < 2) && xm 5 ks
  else if k=6 then decide (2≤ks.length) && xm 7 (ks.take (ks.length - 2)) && decide (kK (ks.drop (ks.length - 2))=[8,9])
  else if k=9 then ks.all fun n=>Xu n.Kind_
  else if k=10 then match ks with
   |[a]=>xO a.Kind_
   |_=>false
  else if k=19∨k=28 then xm 5 ks
  else false
def X3 (b:List UInt8) (l:List (List UInt8)):List UInt8:=Lib.join l b
def Xi:List Nd→Bool
 |n::_=>n.Kids_.xs.isEmpty
 |[]=>true
def X4:List Nd→Bool
 |n::_=>(bs n.Text_).isEmpty
 |[]=>true
def ZT (l:List (List UInt8)):List UInt8:=X3 [44,32] l
def Za (d:Nat):List UInt8:=List.replicate (4 * d) 32
def at0 (l:List (List UInt8)) (i:Nat):List UInt8:=l.getD i []
def w8 (t:List UInt8) (v:Int):List UInt8:=
 if t=[] then Lib.itoa v else if 0 < v then t++[32,43,32]++Lib.itoa v else if v < 0 then t++[32,45,32]++(Lib.itoa v).drop 1 else t
def shB (k:Int) (t:List UInt8) (v:Int) (ks:List Nd) (s i:List (List UInt8)) (d:Nat):List UInt8:=
 if k=0 then (s.map (·++[10])).flatten
 else if k=1 then [116,121,112,101,32]++t++[32]++at0 s 0
  ++(if 0 < zO ks.tail then [32,123,32]++ZT ((s.drop 1).take (zO ks.tail))++[32,125] else [])
  ++(if 1+zO ks.tail < ks.length then [32,119,104,101,114,101,32]++ZT (s.drop (1+zO ks.tail)) else [])++[59]
 else if k=2 then (if ks.isEmpty then t else t++[32]++at0 s 0)
 else if k=3 then (if ks.isEmpty then t else t++[91]++at0 s 0++[93])
 else if k=4 then at0 s 0++[32]++t++[32]++at0 s 1
 else if k=5 then w8 t v
 else if k=6 then [102,110,32]++t++[40]++ZT (s.take (ks.length - 2))++[41]
  ++(if X4 (ks.drop (ks.length - 2)) then [] else [32,45,62,32]++at0 s (ks.length - 2))++[32]++at0 s (ks.length - 1)
 else if k=7 then t++[58,32]++at0 s 0
 else if k=8 then (if t=[38] then [38]++X3 [] s else if t=[38,109,117,116]∨t=[111,119,110] then t++[32]++X3 [] s else t)
 else if k=9 then [123,10]++(i.map fun x=>Za (d+1)++x++[10]).flatten++Za d++[125]
 else if k=10 then t++[32,61,32]++at0 s 0++[59]
 else if k=11 then t++[91]++at0 s 0++[93,32,61,32]++at0 s 1++[59]
 else if k=12 then [102,114,101,101,32]++t++[59]
 else if k=13 then [108,111,99,107,32]++(t++[91]++Lib.itoa v++[93,59])
 else if k=14 then [117,110,108,111,99,107,32]++(t++[91]++Lib.itoa v++[93,59])
 else if k=15 then [105,102]++[32]++at0 s 0++[32]++t++[32]++at0 s 1++[32]++at0 s 2
  ++(if Xi (ks.drop 3) then [] else [32,101,108,115,101,32]++at0 s 3)
 else if k=16 then [119,104,105,108,101]++[32]++at0 s 0++[32]++t++[32]++at0 s 1++[32]++at0 s 2
 else if k=17 then (if ks.isEmpty then [114,101,116,117,114,110,59] else [114,101,116,117,114,110,32]++at0 s 0++[59])
 else if k=18 then [97,98,111,114,116,59]
 else if k=19 then [102,111,114,107,32]++t++[40]++ZT s++[41,59]
 else if k=20 then at0 s 0++[59]
 else if k=21 then at0 s 0++[32,43,32]++at0 s 1
 else if k=22 then at0 s 0++[32,45,32]++at0 s 1
 else if k=23 then [110,101,119,32]++Lib.itoa v
 else if k=24 then [97,114,114,97,121,32]++t
 else if k=25 then t++[91]++at0 s 0++[93]
 else if k=26 then [38]++t
 else if k=27 then [38,109,117,116,32]++t
 else t++[40]++ZT s++[41]
def shG (k:Int) (t:List UInt8) (v:Int) (ks:List Nd) (s i:List (List UInt8)) (d:Nat):List UInt8:=if zE k ks=true then shB k t v ks s i d else [63]
mutual
def shN:Nd→Nat→List UInt8
 |⟨k,t,v,_,ks⟩,d=>shG k (bs t) v ks.xs (shS ks d) (shS ks (d+1)) d
def shS:Sl Nd→Nat→List (List UInt8)
 |⟨xs,_⟩,d=>shL xs d
def shL:List Nd→Nat→List (List UInt8)
 |[],_=>[]
 |a::r,d=>shN a d::shL r d
end
theorem zhk:∀ (l:List Nd) (d:Nat),shL l d=l.map fun n=>shN n d
 |[],d=>by simp [shL]
 |a::r,d=>by simp [shL,zhk r d]
theorem zaN (n:Nd) (d:Nat):shN n d=shG n.Kind_ (bs n.Text_) n.Num_ n.Kids_.xs (n.Kids_.xs.map fun a=>shN a d) (n.Kids_.xs.map fun a=>shN a (d+1)) d:=by
 obtain ⟨a,b,c,e,⟨xs,nn⟩⟩:=n
 rw [shN]
 simp only [shS,zhk]
end Go.Px
namespace Go.Px
set_option linter.unusedVariables false
set_option linter.unusedSimpArgs false
theorem yX {α:Type}(s:Sl α) (i:Nat):zt s (i:Int)=s.xs[i]?:=by
 unfold zt
 rw [if_pos (Int.natCast_nonneg i)]
 simp
theorem YM {n:Nat}(h:n < 9000000000000000000):IntKind.i64.wrap ((n:Int)+1)=((n+1:Nat):Int):=yj (by omega)
theorem yR {σ α:Type}{f:σ→Option (Step σ (Bool⊕Unit))}{xs:List α}{p:α→Bool}(st:Nat→σ)
    (hs:∀ i c,xs[i]?=some c→f (st i)=some (if p c=true then .next (st (i+1)) else .done (.inl false))) (he:f (st xs.length)=some (.done (.inr ()))) :
    lpO f (st 0)=some (if xs.all p=true then .inr () else .inl false):=by
  have key:∀ n i,n+i=xs.length→lpO f (st i)=some (if (xs.drop i).all p=true then .inr () else .inl false):=by
    intro n
    induction n with
    |zero=>
      intro i hi
      have hi:i=xs.length:=by omega
      subst hi
      rw [zQ,he]
      simp
    |succ n ih=>
      intro i hi
      obtain ⟨c,hc,hd⟩:=drop_cons' (l:=xs) (i:=i) (by omega)
      rw [zQ,hs i c hc,hd]
      by_cases hp:p c=true
      · rw [if_pos hp]
        show lpO f (st (i+1))=_
        rw [ih (i+1) (by omega)]
        simp [hp]
      · rw [if_neg hp]
        simp [hp]
  have:=key xs.length 0 (by omega)
  simpa using this
where
 drop_cons' {α:Type} {l:List α} {i:Nat} (h:i < l.length):∃ c,l[i]?=some c∧l.drop i=c::l.drop (i+1):=
  ⟨l[i],List.getElem?_eq_getElem h,List.drop_eq_getElem_cons h⟩
theorem zbl (s:Sl Nd) (k:Int) (h:s.xs.length≤30000):q4m (s,k)=some (xm k s.xs):=by
 have hl:=yR (f:=q44) (xs:=s.xs) (p:=fun n=>decide (n.Kind_=k)) (fun i=>(k,s,s.len,(i:Int)))
  (fun i c hc=>by
   have hi:i < s.xs.length:=(List.getElem?_eq_some_iff.1 hc).1
   unfold q44
   dsimp only
   rw [if_pos (by simp [Sl.len];omega),yX,hc,Option.bind_some,YM (by omega)]
   by_cases e:c.Kind_=k
   ·simp [e]
   ·simp [e])
  (by
   unfold q44
   dsimp only
   rw [if_neg (by simp [Sl.len])])
 have hl:lpO q44 (k,s,s.len,0)=_:=hl
 unfold q4m q5n
 dsimp only
 rw [hl]
 unfold xm
 cases List.all s.xs fun n=>decide (n.Kind_=k) <;> rfl
theorem zhl {α β:Type}{l:List α}{r:List β}{i:Nat}{c:α×β}(h:(l.zip r)[i]?=some c):l[i]?=some c.1∧r[i]?=some c.2:=by
 rw [List.getElem?_zip_eq_some] at h
 exact h
theorem zhm:∀ (l:List Nd) (r:List Int),l.length=r.length→((l.zip r).all fun c=>decide (c.1.Kind_=c.2))=decide (kK l=r)
 |[],[],_=>rfl
 |a::l,b::r,h=>by
  have ih:=zhm l r (by simpa using h)
  simp only [List.zip_cons_cons,List.all_cons,ih,kK,List.map_cons]
  by_cases e:a.Kind_=b
  ·simp [e]
   exact decide_eq_decide.2 Iff.rfl
  ·simp [e]
 |[],_::_,h=>by simp at h
 |_::_,[],h=>by simp at h
theorem zc0 (s:Sl Nd) (w:Sl Int) (h:s.xs.length≤30000):q2t (s,w)=some (decide (kK s.xs=w.xs)):=by
 unfold q2t q4i
 dsimp only
 by_cases hl:s.xs.length=w.xs.length
 ·have e:¬ (Sl.len s≠Sl.len w):=by simp [Sl.len,hl]
  have hz:(s.xs.zip w.xs).length=s.xs.length:=by simp [hl]
  have hlp:=yR (f:=q2i) (xs:=s.xs.zip w.xs) (p:=fun c=>decide (c.1.Kind_=c.2)) (fun i=>(w,s,s.len,(i:Int)))
   (fun i c hc=>by
    obtain ⟨h1,h2⟩:=zhl hc
    have hi:i < s.xs.length:=(List.getElem?_eq_some_iff.1 h1).1
    unfold q2i
    dsimp only
    rw [if_pos (by simp [Sl.len];omega),yX,h1,Option.bind_some,yX,h2,Option.bind_some,YM (by omega)]
    by_cases e:c.1.Kind_=c.2
    ·simp [e]
    ·simp [e])
   (by
    unfold q2i
    dsimp only
    rw [hz,if_neg (by simp [Sl.len])])
  have hlp:lpO q2i (w,s,s.len,0)=_:=hlp
  rw [if_neg (by simpa using e),hlp,zhm _ _ hl]
  by_cases q:kK s.xs=w.xs
  ·simp [q]
  ·simp [q]
 ·have e:Sl.len s≠Sl.len w:=by simp only [Sl.len];omega
  rw [if_pos (by simpa using e)]
  have:¬ kK s.xs=w.xs:=fun q=>hl (by rw [← q];simp [kK])
  simp [this]
theorem zaO (k:Int):qq k=some (Xu k):=by
 unfold qq q3w Xu
 by_cases h:10≤k <;> simp [h]
theorem VY (k:Int):qu k=some (xO k):=by
 unfold qu q3a xO
 by_cases h:k=5
 ·simp [h]
 ·by_cases h2:21≤k <;> simp [h,h2]
def VD (k:Int):Bool×Sl Int:=match Z9 k with
 |some []=>(true,⟨[],false⟩)
 |some w=>(true,⟨w,true⟩)
 |none=>(false,⟨[],false⟩)
theorem zbK (k:Int):(k=0∨k=1∨k=2∨k=3∨k=4∨k=5∨k=6∨k=7∨k=8∨k=9∨k=10∨k=11∨k=12∨k=13∨k=14∨k=15∨k=16∨k=17∨k=18∨k=19∨k=20∨k=21∨k=22∨k=23∨k=24∨k=25∨k=26∨k=27∨k=28)∨k < 0∨28 < k:=by omega
theorem zgK (k:Int):q2h k=some (VD k):=by
 rcases zbK k with h | h
 ·rcases h with rfl | rfl | rfl | rfl | rfl | rfl | rfl | rfl | rfl | rfl | rfl | rfl | rfl | rfl | rfl | rfl | rfl | rfl | rfl | rfl | rfl | rfl | rfl | rfl | rfl | rfl | rfl | rfl | rfl <;> rfl
 ·have n:∀ c:Int,0≤c→c≤28→¬ k=c:=fun c h0 h1 e=>by omega
  have w:VD k=(false,⟨[],false⟩):=by
   unfold VD Z9
   simp [n]
  rw [w]
  unfold q2h q43
  simp [n]
theorem zkm (s:Sl Nd) (h:s.xs.length≤30000) {a b c d e}:lpO (q4n a b c d e) (s,s.len,0)=some (if (s.xs.all fun n=>decide (n.Kind_=1) || decide (n.Kind_=6))=true then .inr () else .inl false):=by
 refine yR (f:=q4n a b c d e) (xs:=s.xs) (fun i=>(s,s.len,(i:Int))) (fun i c hc=>?_) ?_
 ·have hi:i < s.xs.length:=(List.getElem?_eq_some_iff.1 hc).1
  unfold q4n
  dsimp only
  rw [if_pos (by simp [Sl.len];omega),yX,hc,Option.bind_some]
  by_cases e:c.Kind_=1
  ·simp [e,YM (show i < 9000000000000000000 by omega)]
  ·by_cases e6:c.Kind_=6
   ·simp [e6,YM (show i < 9000000000000000000 by omega)]
   ·simp [e,e6]
 ·unfold q4n
  dsimp only
  rw [if_neg (by simp [Sl.len])]
theorem zkn (s:Sl Nd) (h:s.xs.length≤30000) {a b c e}:lpO (q4o a b c qq e) (s,s.len,0)=some (if (s.xs.all fun n=>Xu n.Kind_)=true then .inr () else .inl false):=by
 refine yR (f:=q4o a b c qq e) (xs:=s.xs) (fun i=>(s,s.len,(i:Int))) (fun i c hc=>?_) ?_
 ·have hi:i < s.xs.length:=(List.getElem?_eq_some_iff.1 hc).1
  unfold q4o
  dsimp only
  rw [if_pos (by simp [Sl.len];omega),yX,hc,Option.bind_some,zaO,Option.bind_some]
  cases e:Xu c.Kind_
  ·simp
  ·simp [YM (show i < 9000000000000000000 by omega)]
 ·unfold q4o
  dsimp only
  rw [if_neg (by simp [Sl.len])]
theorem zdL:∀ l:List Nd,zO l≤l.length
 |[]=>Nat.le_refl _
 |a::l=>by
  unfold zO
  have:=zdL l
  split <;> simp only [List.length_cons] <;> omega
theorem zko (s:Sl Nd) (h:s.xs.length≤30000) {a b c d e} {k:Int}{t:ByteArray}{v p:Int}:∀ (n i:Nat),n+i=s.xs.length→
    lpO (q2y a b c d e) ((s.xs.length:Int) - 1,(i:Int),k,t,v,p,s)=some ((s.xs.length:Int) - 1,((i+zO (s.xs.drop i):Nat):Int),k,t,v,p,s):=by
  intro n
  induction n with
  |zero=>
    intro i hi
    have hi:i=s.xs.length:=by omega
    subst hi
    rw [zQ]
    unfold q2y
    dsimp only
    rw [if_neg (by simp;omega)]
    simp [zO]
  |succ n ih=>
    intro i hi
    obtain ⟨x,hx,hd⟩:=yR.drop_cons' (l:=s.xs) (i:=i) (by omega)
    rw [zQ]
    generalize hG:lpO (q2y a b c d e)=G at ih ⊢
    unfold q2y
    dsimp only
    rw [if_pos (by simp;omega),yX,hx,Option.bind_some,Option.bind_some,hd]
    unfold zO
    by_cases e3:x.Kind_=3
    · rw [if_pos e3]
      simp only [e3,decide_true,if_true,Option.bind_some]
      rw [YM (by omega),ih (i+1) (by omega)]
      have:i+1+zO (s.xs.drop (i+1))=i+(zO (s.xs.drop (i+1))+1):=by omega
      rw [this]
    · rw [if_neg e3]
      simp [e3]
theorem ziS {k:Int}{w:List Int}(h:Z9 k=some w):∃ b,VD k=(true,⟨w,b⟩):=by
 unfold VD
 rw [h]
 cases w with
 |nil=>exact ⟨_,rfl⟩
 |cons=>exact ⟨_,rfl⟩
theorem zbm {s:Sl Nd}(h:s.xs.length≤30000):IntKind.i64.wrap (s.len - 1)=(s.xs.length:Int) - 1:=by
 unfold Sl.len
 exact yL (by omega) (by omega)
theorem wi {α:Type}(s:Sl α) {i j:Nat}(h:i≤j) (h2:j≤s.xs.length):zV s (i:Int) (j:Int)=some ⟨(s.xs.take j).drop i,s.nn⟩:=by
 rw [zjX (by omega) (by omega) (by omega)]
 simp
theorem zoH (n:Nd) (h:n.Kids_.xs.length≤30000):q4j n=some (zE n.Kind_ n.Kids_.xs):=by
 obtain ⟨k,t,v,p,s⟩:=n
 replace h:s.xs.length≤30000:=h
 unfold q4j q65
 dsimp only
 rw [zgK,Option.bind_some]
 cases hw:Z9 k with
 |some w=>
  obtain ⟨b,e⟩:=ziS hw
  rw [e,if_pos rfl,zc0 _ _ h]
  unfold zE
  rw [hw]
  rfl
 |none=>
  have e:VD k=(false,⟨[],false⟩):=by unfold VD;rw [hw]
  rw [e,if_neg (by simp)]
  unfold zE
  rw [hw]
  dsimp only
  by_cases h0:k=0
  ·subst h0
   rw [zkm s h]
   cases (s.xs.all fun n=>decide (n.Kind_=1) || decide (n.Kind_=6)) <;> rfl
  by_cases h1:k=1
  ·subst h1
   have q0:¬ (decide ((1:Int)=0)=true):=by decide
   have q1:decide ((1:Int)=1)=true:=by decide
   rw [if_neg q0,if_pos q1,if_neg (show ¬ ((1:Int)=0) by decide),if_pos (rfl:(1:Int)=1)]
   have hl1:=zko s h (a:=q2h) (b:=q2t) (c:=q4m) (d:=qq) (e:=qu) (k:=1) (t:=t) (v:=v) (p:=p)
   rw [zbm h]
   cases hx:s.xs with
   |nil=>
    rw [hx] at hl1
    rw [zQ]
    unfold q2y
    simp
   |cons x r=>
    have hl1:=hl1 (s.xs.length - 1) 1 (by rw [hx];simp)
    rw [hx] at hl1
    have hl1:lpO (q2y q2h q2t q4m qq qu) (((x::r).length:Nat) - 1,1,1,t,v,p,s)=_:=hl1
    rw [hl1]
    have g0:zt s 0=some x:=by
     have:=yX s 0
     rw [hx] at this
     exact this
    dsimp only [Option.bind_some]
    rw [if_pos (by simp),g0,Option.bind_some]
    by_cases h2:x.Kind_=2
    ·rw [if_pos (by simpa using h2)]
     have hle:=zdL r
     have gs:zV s ((1+zO r:Nat):Int) s.len=some ⟨(s.xs.take s.xs.length).drop (1+zO r),s.nn⟩:=wi s (by rw [hx];simp;omega) (Nat.le_refl _)
     have gs:zV s ((1+zO ((x::r).drop 1):Nat):Int) s.len=_:=gs
     rw [gs,Option.bind_some,zbl _ _ (by simp;omega),List.take_length,hx]
     simp [h2,Nat.add_comm 1]
    ·rw [if_neg (by simpa using h2)]
     simp [h2]
  by_cases h2:k=2∨k=3∨k=17∨k=8
  ·have e5:=zbl s 5 h
   rw [zbm h]
   rw [if_neg h0,if_neg h1,if_pos h2]
   by_cases hs:s.xs.length < 2
   ·have:(s.xs.length:Int) - 1 < 1:=by omega
    rcases h2 with rfl | rfl | rfl | rfl <;> simp [this,hs,e5]
   ·have:¬ (s.xs.length:Int) - 1 < 1:=by omega
    rcases h2 with rfl | rfl | rfl | rfl <;> simp [this,hs,e5]
  have n2:¬ k=2:=fun e=>h2 (.inl e)
  have n3:¬ k=3:=fun e=>h2 (.inr (.inl e))
  have n17:¬ k=17:=fun e=>h2 (.inr (.inr (.inl e)))
  have n8:¬ k=8:=fun e=>h2 (.inr (.inr (.inr e)))
  rw [if_neg h0,if_neg h1,if_neg h2,zbm h]
  simp only [h0,h1,n2,n3,n17,n8,decide_false,if_false,Option.bind_some,Bool.false_eq_true,reduceIte]
  by_cases h6:k=6
  ·subst h6
   by_cases hs:2≤s.xs.length
   ·have c1:(1:Int)≤(s.xs.length:Int) - 1:=by omega
    have w2:IntKind.i64.wrap ((s.xs.length:Int) - 1 - 1)=((s.xs.length - 2:Nat):Int):=by rw [yL (by omega) (by omega)];omega
    have gs1:=wi s (i:=0) (j:=s.xs.length - 2) (by omega) (by omega)
    have gs2:=wi s (i:=s.xs.length - 2) (j:=s.xs.length) (by omega) (by omega)
    have gs1:zV s 0 ((s.xs.length - 2:Nat):Int)=_:=gs1
    have gs2:zV s ((s.xs.length - 2:Nat):Int) s.len=_:=gs2
    simp only [c1,decide_true,if_true,reduceIte,w2,gs1,gs2,Option.bind_some,hs,Bool.true_and]
    rw [zbl _ _ (by simp;omega),zc0 _ _ (by simp;omega)]
    simp only [List.take_length,List.drop_zero,Option.bind_some]
    cases xm 7 (s.xs.take (s.xs.length - 2)) <;> simp
   ·have c1:¬ (1:Int)≤(s.xs.length:Int) - 1:=by omega
    simp [c1,hs]
  rw [if_neg h6]
  simp only [h6,decide_false,if_false,Bool.false_eq_true,reduceIte]
  by_cases h9:k=9
  ·subst h9
   rw [zkn s h]
   cases (s.xs.all fun n=>Xu n.Kind_) <;> rfl
  rw [if_neg h9]
  simp only [h9,decide_false,if_false,Bool.false_eq_true,reduceIte]
  by_cases h10:k=10
  ·subst h10
   match hx:s.xs with
   |[]=>simp
   |[a]=>
    have g0:zt s 0=some a:=by
     have:=yX s 0
     rw [hx] at this
     exact this
    simp [g0,VY]
   |a::b::r=>
    have:¬ ((r.length:Int)+1=0):=by omega
    simp [this]
  rw [if_neg h10]
  simp only [h10,decide_false,if_false,Bool.false_eq_true,reduceIte]
  by_cases h19:k=19∨k=28
  ·have e5:=zbl s 5 h
   rw [if_pos h19]
   rcases h19 with rfl | rfl <;> simp [e5]
  ·have m19:¬ k=19:=fun e=>h19 (.inl e)
   have m28:¬ k=28:=fun e=>h19 (.inr e)
   simp [m19,m28]
end Go.Px
namespace Go.Px
set_option linter.unusedVariables false
set_option linter.unusedSimpArgs false
abbrev ShF:=Nd×Int→Option ByteArray
theorem zc1 (s:ByteArray):lit (bs s)=s:=zaD (yd _)
theorem zz (a b:List UInt8):lit a++lit b=lit (a++b):=zaD (by rw [zj6,yd,yd,yd])
theorem zg (a:List UInt8):(lit a).size=a.length:=by rw [← Zu,yd]
theorem zJ {α:Type}{p:Prop}[Decidable p] {a b:α}(h:p):(bif !false && decide p then a else b)=a:=by simp [h]
theorem zP {α:Type}{p:Prop}[Decidable p] {a b:α}(h:p):(bif decide p then a else b)=a:=by simp [h]
theorem VE (sep:List UInt8):∀ l:List (List UInt8),(Lib.join l sep).length≤(l.map (·.length)).sum+sep.length * l.length
 |[]=>by simp [Lib.join_nil]
 |x::r=>by
  rw [Lib.join_cons]
  have:∀ r:List (List UInt8),(Lib.joinTail sep r).length=(r.map (·.length)).sum+sep.length * r.length:=by
   intro r
   unfold Lib.joinTail
   induction r with
   |nil=>simp
   |cons a r ih=>simp [ih,Nat.mul_add];omega
  have h1:sep.length * (r.length+1)=sep.length * r.length+sep.length:=by rw [Nat.mul_add];simp
  simp [this,h1]
  omega
theorem zhn:∀ l:List ByteArray,Vs CC 9 l=some l
 |[]=>rfl
 |x::r=>by
  show ((Vs CC 9 r).bind fun l=>some (x::l))=_
  rw [zhn r];rfl
noncomputable def zc2:Sl ByteArray×ByteArray→Option ByteArray:=q4y
theorem zlH {l:List ByteArray}{nn:Bool}{sep:ByteArray}(h1:l.length≤140737488355328) (h2:(Lib.join (l.map bs) (bs sep)).length≤140737488355328):zc2 (⟨l,nn⟩,sep)=some (lit (Lib.join (l.map bs) (bs sep))):=by
 have e:zc2 (⟨l,nn⟩,sep)=(Vs CC 9 l).bind fun l=>if l.length≤140737488355328∧(Lib.join (l.map bs) (bs sep)).length≤140737488355328 then some (lit (Lib.join (l.map bs) (bs sep))) else none:=rfl
 exact e.trans ((congrArg (fun z=>Option.bind z _) (zhn l)).trans (if_pos ⟨h1,h2⟩))
theorem znp {h:ShF}{k v p:Int}{t:ByteArray}{s:Sl Nd}{d:Int}{i:Nat}{a:Nd}{r:ByteArray}(ha:s.xs[i]?=some a) (hr:h (a,d)=some r) :
    q28 h ((i:Int),(k,t,v,p,s),d)=some (r,(k,t,v,p,s),d):=by
  unfold q28
  dsimp only
  rw [yX,ha,Option.bind_some,zW,hr]
  rfl
theorem znq {h:ShF}{k v p:Int}{t:ByteArray}{s:Sl Nd}{d:Int}{i:Nat}{a:Nd}{r:ByteArray}(ha:s.xs[i]?=some a) (hr:h (a,d)=some r) :
    q2u h ((i:Int),(k,t,v,p,s),d)=some (r,(k,t,v,p,s),d):=znp ha hr
theorem zb6 (l:List Nat) (i:Nat):(l.take i).sum≤l.sum:=by
 have:=congrArg List.sum (List.take_append_drop i l)
 rw [List.sum_append] at this
 omega
theorem zlI (l:List Nat) (i:Nat):(l.drop i).sum≤l.sum:=by
 have:=congrArg List.sum (List.take_append_drop i l)
 rw [List.sum_append] at this
 omega
theorem wz {h:ShF}{s:Sl Nd}{d:Nat}{sep:ByteArray}{g:Sl ByteArray×ByteArray→Option ByteArray}(hk:∀ a∈s.xs,h (a,(d:Int))=some (lit (shN a d))) (hlen:s.xs.length≤30000):∀ (n i:Nat) (nn:Bool),n+i=s.xs.length→
    ∃ nn',lpO (q3b h g) (sep,(d:Int),s,s.len,(i:Int),⟨(s.xs.take i).map fun a=>lit (shN a d),nn⟩)=some (sep,⟨s.xs.map fun a=>lit (shN a d),nn'⟩):=by
  intro n
  induction n with
  |zero=>
    intro i nn hi
    have hi:i=s.xs.length:=by omega
    subst hi
    rw [zQ]
    unfold q3b
    dsimp only
    rw [if_neg (by simp [Sl.len])]
    exact ⟨nn,by simp⟩
  |succ n ih=>
    intro i nn hi
    obtain ⟨x,hx,hd⟩:=yR.drop_cons' (l:=s.xs) (i:=i) (by omega)
    have hm:x∈s.xs:=List.mem_of_getElem? hx
    rw [zQ]
    generalize hG:lpO (q3b h g)=G at ih ⊢
    unfold q3b
    dsimp only
    rw [if_pos (by simp [Sl.len];omega),yX,hx,Option.bind_some,zW,hk x hm,Option.bind_some,XF (by simp;omega) (by simp;omega),Option.bind_some,YM (by omega)]
    obtain ⟨nn',e⟩:=ih (i+1) (nn || true) (by omega)
    refine ⟨nn',?_⟩
    rw [← e,take_succ'' hx]
    simp
where
 take_succ'' {l:List Nd} {k:Nat} {c:Nd} (h:l[k]?=some c):l.take (k+1)=l.take k++[c]:=by
  rw [List.take_add_one,h];rfl
theorem zeu {h:ShF}{s:Sl Nd}{d:Nat}{sep:List UInt8}(hk:∀ a∈s.xs,h (a,(d:Int))=some (lit (shN a d))) (hlen:s.xs.length≤30000) (hs:(s.xs.map fun a=>(shN a d).length).sum≤1099511627776) (h2:sep.length≤2) :
    qn h (s,lit sep,(d:Int))=some (lit (X3 sep (s.xs.map fun a=>shN a d))):=by
  obtain ⟨nn,e⟩:=wz (g:=zc2) (sep:=lit sep) hk hlen s.xs.length 0 false (by omega)
  have e:lpO (q3b h zc2) (lit sep,(d:Int),s,s.len,0,⟨[],false⟩)=_:=e
  show q3c h zc2 (s,lit sep,(d:Int))=_
  unfold q3c
  dsimp only
  rw [e,Option.bind_some]
  dsimp only
  have hj:=VE sep (s.xs.map fun a=>shN a d)
  have h3:sep.length * s.xs.length≤2 * 30000:=Nat.mul_le_mul h2 hlen
  simp only [List.map_map,List.length_map] at hj
  have hj:(Lib.join (s.xs.map fun a=>shN a d) sep).length≤(s.xs.map fun a=>(shN a d).length).sum+sep.length * s.xs.length:=hj
  have e1:(s.xs.map fun a=>lit (shN a d)).map bs=s.xs.map fun a=>shN a d:=by
    rw [List.map_map];rfl
  have e2:bs (lit sep)=sep:=yd _
  rw [zlH (by simp;omega) (by rw [e1,e2];omega),e1,e2]
  rfl
theorem zc3:∀ d:Nat,Lib.repeatL [32,32,32,32] d=Za d
 |0=>rfl
 |d+1=>by
  show [32,32,32,32]++Lib.repeatL [32,32,32,32] d=_
  rw [zc3 d]
  unfold Za
  rw [show 4 * (d+1)=4 * d+1+1+1+1 by omega]
  simp [List.replicate_succ]
theorem zev {d:Nat}(h:d≤30000):q1m (lit [32,32,32,32],(d:Int))=some (lit (Za d)):=by
 show xy _=_
 unfold xy
 rw [if_pos ⟨by omega,by simp;omega,by rw [zg];simp;omega⟩]
 congr 1
 show lit (Lib.repeatL [32,32,32,32] d)=_
 rw [zc3]
theorem vi {v:Int}(h : -9223372036854775808≤v∧v≤9223372036854775807):q2n v=some (lit (Lib.itoa v)):=by
 show ((Yh (v,10)).bind fun y=>some y)=_
 unfold Yh
 rw [if_pos ⟨rfl,h⟩]
 rfl
end Go.Px
namespace Go.Px
set_option linter.unusedVariables false
set_option linter.unusedSimpArgs false
structure KO (h:ShF) (s:Sl Nd) (d:Nat):Prop where
 len:s.xs.length≤30000
 kid:∀ a∈s.xs,h (a,(d:Int))=some (lit (shN a d))
 sm:(s.xs.map fun a=>(shN a d).length).sum≤1099511627776
theorem zkp:∀ (l:List Nat) (x:Nat),x∈l→x≤l.sum
 |[],x,h=>by cases h
 |a::l,x,h=>by
  rw [List.sum_cons]
  rcases List.mem_cons.1 h with rfl | h
  ·omega
  ·have:=zkp l x h;omega
theorem KO.one {h:ShF}{s:Sl Nd}{d:Nat}(K:KO h s d) {a:Nd}(ha:a∈s.xs):(shN a d).length≤1099511627776:=
 Nat.le_trans (zkp _ _ (List.mem_map.2 ⟨a,ha,rfl⟩)) K.sm
theorem wM (a b:List UInt8):(lit a=lit b)↔a=b:=⟨fun h=>by rw [← yd a,h,yd],fun h=>by rw [h]⟩
theorem WH {v:Int}(h : -9223372036854775808≤v∧v≤9223372036854775807):(Lib.itoa v).length≤30:=by
 have key:∀ u:Nat,u < 10 ^ 20→(Lib.decDigits u).length≤20:=by
  intro u hu
  rw [Lib.decDigits_length]
  have:∀ (n u:Nat),u < 10 ^ (n+1)→Lib.nDigits u≤n+1:=by
   intro n
   induction n with
   |zero=>intro u hu;rw [Lib.nDigits_small (by omega)];omega
   |succ n ih=>
    intro u hu
    by_cases h:u < 10
    ·rw [Lib.nDigits_small h];omega
    ·rw [Lib.nDigits_big h]
     have:u / 10 < 10 ^ (n+1):=by
      rw [Nat.div_lt_iff_lt_mul (by omega)]
      rw [Nat.pow_succ] at hu
      exact hu
     have:=ih _ this
     omega
  exact this 19 u hu
 unfold Lib.itoa
 split
 ·have:=key v.natAbs (by omega)
  simp;omega
 ·have:=key v.toNat (by omega)
  omega
theorem zlJ {k v p:Int}{t:List UInt8}{s:Sl Nd}(ht:t.length≤1048576) (h : -9223372036854775808≤v∧v≤9223372036854775807) :
    q5c ⟨k,lit t,v,p,s⟩=some (lit (w8 t v)):=by
  have hl:=WH h
  unfold q5c q5p
  simp only [vi h,Option.bind_some,wM,decide_eq_true_eq,zg,zz]
  unfold w8
  by_cases h0:t=[]
  · subst h0
    simp
  · by_cases h1:0 < v
    · simp (disch:=((try simp only [List.length_append,List.length_cons,List.length_nil]);omega)) only [h0,h1,if_false,if_true,zJ,Option.bind_some,Sum.elim_inl]
    · by_cases h2:v < 0
      · have hp:1≤(Lib.itoa v).length:=by
          unfold Lib.itoa
          rw [if_pos h2];simp
        have hg:Zl (lit (Lib.itoa v)) 1 ((Lib.itoa v).length:Nat)=some (lit ((Lib.itoa v).drop 1)):=by
          have:=Xf (s:=lit (Lib.itoa v)) (i:=1) (j:=(Lib.itoa v).length) hp (by rw [zg];exact Nat.le_refl _)
          refine Eq.trans this ?_
          congr 1
          apply zaD
          rw [XZ,yd,yd,List.take_length]
        simp (disch:=((try simp only [List.length_append,List.length_cons,List.length_nil,List.length_drop]);omega)) only [h0,h1,h2,if_false,if_true,hg,zJ,Option.bind_some,Sum.elim_inl,zz,zg]
      · simp [h0,h1,h2]
theorem KO.at (h:ShF) {s:Sl Nd}{d:Nat}(K:KO h s d) {i:Nat}{a:Nd}(ha:s.xs[i]?=some a) {k v p:Int}{t:ByteArray} :
    q1f h ((i:Int),(k,t,v,p,s),(d:Int))=some (lit (shN a d),(k,t,v,p,s),(d:Int)):=znq ha (K.kid a (List.mem_of_getElem? ha))
theorem KO.e0 {h:ShF}{s:Sl Nd}{d:Nat}(K:KO h s d) {a:Nd}{r:List Nd}(e:s.xs=a::r) {k v p:Int}{t:ByteArray} :
    q1f h (0,(k,t,v,p,s),(d:Int))=some (lit (shN a d),(k,t,v,p,s),(d:Int)):=K.at h (i:=0) (by rw [e];rfl)
theorem KO.e1 {h:ShF}{s:Sl Nd}{d:Nat}(K:KO h s d) {a b:Nd}{r:List Nd}(e:s.xs=a::b::r) {k v p:Int}{t:ByteArray} :
    q1f h (1,(k,t,v,p,s),(d:Int))=some (lit (shN b d),(k,t,v,p,s),(d:Int)):=K.at h (i:=1) (by rw [e];rfl)
theorem KO.s0 {h:ShF}{s:Sl Nd}{d:Nat}(K:KO h s d) {a:Nd}{r:List Nd}(e:s.xs=a::r) {k v p:Int}{t:ByteArray} :
    q1g h (0,(k,t,v,p,s),(d:Int))=some (lit (shN a d),(k,t,v,p,s),(d:Int)):=K.e0 e
theorem KO.s1 {h:ShF}{s:Sl Nd}{d:Nat}(K:KO h s d) {a b:Nd}{r:List Nd}(e:s.xs=a::b::r) {k v p:Int}{t:ByteArray} :
    q1g h (1,(k,t,v,p,s),(d:Int))=some (lit (shN b d),(k,t,v,p,s),(d:Int)):=K.e1 e
theorem KO.s3 {h:ShF}{s:Sl Nd}{d:Nat}(K:KO h s d) {a b c f:Nd}{r:List Nd}(e:s.xs=a::b::c::f::r) {k v p:Int}{t:ByteArray} :
    q1g h (3,(k,t,v,p,s),(d:Int))=some (lit (shN f d),(k,t,v,p,s),(d:Int)):=K.at h (i:=3) (by rw [e];rfl)
theorem KO.n0 {h:ShF}{s:Sl Nd}{d:Nat}(K:KO h s d) {a:Nd}{r:List Nd}(e:s.xs=a::r) {k v p:Int}{t:ByteArray} :
    qz h (0,(k,t,v,p,s),(d:Int))=some (lit (shN a d),(k,t,v,p,s),(d:Int)):=K.e0 e
theorem KO.n1 {h:ShF}{s:Sl Nd}{d:Nat}(K:KO h s d) {a b:Nd}{r:List Nd}(e:s.xs=a::b::r) {k v p:Int}{t:ByteArray} :
    qz h (1,(k,t,v,p,s),(d:Int))=some (lit (shN b d),(k,t,v,p,s),(d:Int)):=K.e1 e
theorem kk1 {l:List Nd}{x:Int}(h:kK l=[x]):∃ a,l=[a]:=by
 match l with
 |[a]=>exact ⟨a,rfl⟩
 |[]=>cases h
 |a::b::r=>simp [kK] at h
theorem kk2 {l:List Nd}{x y:Int}(h:kK l=[x,y]):∃ a b,l=[a,b]:=by
 match l with
 |[a,b]=>exact ⟨a,b,rfl⟩
 |[]=>cases h
 |[a]=>simp [kK] at h
 |a::b::c::r=>simp [kK] at h
theorem vL {h:ShF}{s:Sl Nd}{d:Nat}(K:KO h s d):qn h (s,lit [44,32],(d:Int))=some (lit (ZT (s.xs.map fun a=>shN a d))):=zeu K.kid K.len K.sm (by simp)
theorem WI {h:ShF}{s:Sl Nd}{d:Nat}(K:KO h s d):(ZT (s.xs.map fun a=>shN a d)).length≤1099511627776+60000:=by
 have h1:=VE [44,32] (s.xs.map fun a=>shN a d)
 have h2:=K.len
 have h3:=K.sm
 simp only [List.map_map,List.length_map,List.length_cons,List.length_nil] at h1
 have h1:(ZT (s.xs.map fun a=>shN a d)).length≤(s.xs.map fun a=>(shN a d).length).sum+(0+1+1) * s.xs.length:=h1
 omega
theorem zlK {h:ShF}{k v p:Int}{t:List UInt8}{s:Sl Nd}{d:Nat}{I:List (List UInt8)}(K:KO h s d) (ht:t.length≤1048576) (hv : -9223372036854775808≤v∧v≤9223372036854775807) (hk:xO k=true) (hf:zE k s.xs=true) :
    q1o h (⟨k,lit t,v,p,s⟩,(d:Int))=some (lit (shB k t v s.xs (s.xs.map fun a=>shN a d) I d)):=by
  have hl:=WH hv
  have hc:k=5∨k=21∨k=22∨k=23∨k=24∨k=25∨k=26∨k=27∨k=28:=by
    unfold xO at hk
    simp at hk
    omega
  have hT:=zlJ (k:=k) (p:=p) (s:=s) ht hv
  have hN:=vi hv
  have hJ:=vL K
  have hJl:=WI K
  unfold q1o q47
  unfold shB
  rcases hc with rfl | rfl | rfl | rfl | rfl | rfl | rfl | rfl | rfl
  · simp [hT]
  · obtain ⟨a,b,e⟩:=kk2 (of_decide_eq_true hf:kK s.xs=[5,5])
    have la:=K.one (a:=a) (by rw [e];simp)
    have lb:=K.one (a:=b) (by rw [e];simp)
    simp (disch:=((try simp only [zg,List.length_append,List.length_cons,List.length_nil]);omega)) [K.e0 e,K.e1 e,zJ,zP,zz,zg,e,at0]
  · obtain ⟨a,b,e⟩:=kk2 (of_decide_eq_true hf:kK s.xs=[5,5])
    have la:=K.one (a:=a) (by rw [e];simp)
    have lb:=K.one (a:=b) (by rw [e];simp)
    simp (disch:=((try simp only [zg,List.length_append,List.length_cons,List.length_nil]);omega)) [K.e0 e,K.e1 e,zJ,zP,zz,zg,e,at0]
  · simp (disch:=((try simp only [zg,List.length_append,List.length_cons,List.length_nil]);omega)) [hN,zJ,zP,zz,zg]
  · simp (disch:=((try simp only [zg,List.length_append,List.length_cons,List.length_nil]);omega)) [zJ,zP,zz,zg]
  · obtain ⟨a,e⟩:=kk1 (of_decide_eq_true hf:kK s.xs=[5])
    have la:=K.one (a:=a) (by rw [e];simp)
    simp (disch:=((try simp only [zg,List.length_append,List.length_cons,List.length_nil]);omega)) [K.e0 e,zJ,zP,zz,zg,e,at0,Zb]
  · simp (disch:=((try simp only [zg,List.length_append,List.length_cons,List.length_nil]);omega)) [zJ,zP,zz,zg]
  · simp (disch:=((try simp only [zg,List.length_append,List.length_cons,List.length_nil]);omega)) [zJ,zP,zz,zg]
  · simp (disch:=((try simp only [zg,List.length_append,List.length_cons,List.length_nil]);omega)) [hJ,zJ,zP,zz,zg]
end Go.Px
namespace Go.Px
set_option linter.unusedVariables false
set_option linter.unusedSimpArgs false
theorem KO.g {h:ShF}{s:Sl Nd}{d:Nat}(K:KO h s d) {i:Nat}{a:Nd}(ha:s.xs[i]?=some a):zt s (i:Int)=some a∧h (a,(d:Int))=some (lit (shN a d))∧(shN a d).length≤1099511627776:=
 ⟨by rw [yX,ha],K.kid a (List.mem_of_getElem? ha),K.one (List.mem_of_getElem? ha)⟩
theorem zc4 {h:ShF}{k v p:Int}{w t:List UInt8}{s:Sl Nd}{d:Nat}(K:KO h s d) (hw:w.length≤10) (ht:t.length≤1048576) {a b c:Nd}{r:List Nd}(e:s.xs=a::b::c::r) :
    q1w h (lit w,⟨k,lit t,v,p,s⟩,(d:Int))=some (lit (w++[32]++shN a d++[32]++t++[32]++shN b d++[32]++shN c d)):=by
  obtain ⟨g0,k0,l0⟩:=K.g (i:=0) (a:=a) (by rw [e];rfl)
  obtain ⟨g1,k1,l1⟩:=K.g (i:=1) (a:=b) (by rw [e];rfl)
  obtain ⟨g2,k2,l2⟩:=K.g (i:=2) (a:=c) (by rw [e];rfl)
  have g0:zt s 0=some a:=g0
  have g1:zt s 1=some b:=g1
  have g2:zt s 2=some c:=g2
  unfold q1w q2v
  simp (disch:=((try simp only [zg,List.length_append,List.length_cons,List.length_nil]);omega)) [g0,g1,g2,zW,k0,k1,k2,zJ,zP,zz,zg]
theorem kk3 {l:List Nd}{x y z:Int}(h:kK l=[x,y,z]):∃ a b c,l=[a,b,c]:=by
 match l with
 |[a,b,c]=>exact ⟨a,b,c,rfl⟩
 |[]=>cases h
 |[a]=>simp [kK] at h
 |[a,b]=>simp [kK] at h
 |a::b::c::f::r=>simp [kK] at h
theorem kk4 {l:List Nd}{x y z w:Int}(h:kK l=[x,y,z,w]):∃ a b c f,l=[a,b,c,f]:=by
 match l with
 |[a,b,c,f]=>exact ⟨a,b,c,f,rfl⟩
 |[]=>cases h
 |[a]=>simp [kK] at h
 |[a,b]=>simp [kK] at h
 |[a,b,c]=>simp [kK] at h
 |a::b::c::f::g::r=>simp [kK] at h
theorem zlL {h:ShF}{k v p:Int}{t:List UInt8}{s:Sl Nd}{d:Nat}{I:List (List UInt8)}(K:KO h s d) (ht:t.length≤1048576) (hv : -9223372036854775808≤v∧v≤9223372036854775807) (hk:Xu k=true) (hf:zE k s.xs=true) :
    q1p h (⟨k,lit t,v,p,s⟩,(d:Int))=some (lit (shB k t v s.xs (s.xs.map fun a=>shN a d) I d)):=by
  have hl:=WH hv
  have hc:k=10∨k=11∨k=12∨k=13∨k=14∨k=15∨k=16∨k=17∨k=18∨k=19∨k=20:=by
    unfold Xu at hk
    simp at hk
    omega
  have hN:=vi hv
  have hJ:=vL K
  have hJl:=WI K
  unfold q1p q48
  unfold shB
  rcases hc with rfl | rfl | rfl | rfl | rfl | rfl | rfl | rfl | rfl | rfl | rfl
  · have hx:∃ a,s.xs=[a]:=by
      unfold zE at hf
      simp [Z9] at hf
      split at hf
      · rename_i a e;exact ⟨a,e⟩
      · cases hf
    obtain ⟨a,e⟩:=hx
    have la:=K.one (a:=a) (by rw [e];simp)
    simp (disch:=((try simp only [zg,List.length_append,List.length_cons,List.length_nil]);omega)) [hN,K.s0 e,zJ,zP,zz,zg,e,at0,Zb]
  · obtain ⟨a,b,e⟩:=kk2 (of_decide_eq_true hf:kK s.xs=[5,5])
    have la:=K.one (a:=a) (by rw [e];simp)
    have lb:=K.one (a:=b) (by rw [e];simp)
    simp (disch:=((try simp only [zg,List.length_append,List.length_cons,List.length_nil]);omega)) [hN,K.s0 e,K.s1 e,zJ,zP,zz,zg,e,at0,Zb]
  · simp (disch:=((try simp only [zg,List.length_append,List.length_cons,List.length_nil]);omega)) [hN,zJ,zP,zz,zg]
  · simp (disch:=((try simp only [zg,List.length_append,List.length_cons,List.length_nil]);omega)) [hN,zJ,zP,zz,zg]
  · simp (disch:=((try simp only [zg,List.length_append,List.length_cons,List.length_nil]);omega)) [hN,zJ,zP,zz,zg]
  · obtain ⟨a,b,c,f,e⟩:=kk4 (of_decide_eq_true hf:kK s.xs=[5,5,9,9])
    have la:=K.one (a:=a) (by rw [e];simp)
    have lb:=K.one (a:=b) (by rw [e];simp)
    have lc:=K.one (a:=c) (by rw [e];simp)
    have lf:=K.one (a:=f) (by rw [e];simp)
    have hb:=zc4 (k:=15) (v:=v) (p:=p) (w:=[105,102]) (t:=t) K (by simp) ht e
    obtain ⟨g3,_,_⟩:=K.g (i:=3) (a:=f) (by rw [e];rfl)
    have g3:zt s 3=some f:=g3
    by_cases hn:f.Kids_.xs=[]
    · simp (disch:=((try simp only [zg,List.length_append,List.length_cons,List.length_nil]);omega)) [hN,g3,hb,hn,Xi,Sl.len,zJ,zP,zz,zg,e,at0]
    · have hp:0 < f.Kids_.xs.length:=List.length_pos_iff.2 hn
      simp (disch:=((try simp only [zg,List.length_append,List.length_cons,List.length_nil]);omega)) [hN,g3,hb,hn,hp,Xi,Sl.len,K.s3 e,zJ,zP,zz,zg,e,at0]
  · obtain ⟨a,b,c,e⟩:=kk3 (of_decide_eq_true hf:kK s.xs=[5,5,9])
    have hb:=zc4 (k:=16) (v:=v) (p:=p) (w:=[119,104,105,108,101]) (t:=t) K (by simp) ht e
    simp (disch:=((try simp only [zg,List.length_append,List.length_cons,List.length_nil]);omega)) [hN,hb,zJ,zP,zz,zg,e,at0]
  · by_cases hn:s.xs=[]
    · simp (disch:=((try simp only [zg,List.length_append,List.length_cons,List.length_nil]);omega)) [hN,hn,Sl.len,zJ,zP,zz,zg]
    · obtain ⟨a,r,e⟩:=List.exists_cons_of_ne_nil hn
      have la:=K.one (a:=a) (by rw [e];simp)
      have hp:(0:Int) < (r.length:Int)+1:=by omega
      simp (disch:=((try simp only [zg,List.length_append,List.length_cons,List.length_nil]);omega)) [hN,K.s0 e,Sl.len,hp,zJ,zP,zz,zg,e,at0]
  · simp (disch:=((try simp only [zg,List.length_append,List.length_cons,List.length_nil]);omega)) [hN,zJ,zP,zz,zg]
  · simp (disch:=((try simp only [zg,List.length_append,List.length_cons,List.length_nil]);omega)) [hN,hJ,zJ,zP,zz,zg,Zb]
  · obtain ⟨a,e⟩:=kk1 (of_decide_eq_true hf:kK s.xs=[28])
    have la:=K.one (a:=a) (by rw [e];simp)
    simp (disch:=((try simp only [zg,List.length_append,List.length_cons,List.length_nil]);omega)) [hN,K.s0 e,zJ,zP,zz,zg,e,at0]
end Go.Px
namespace Go.Px
set_option linter.unusedVariables false
set_option linter.unusedSimpArgs false
theorem KO.sub {h:ShF}{s:Sl Nd}{d:Nat}(K:KO h s d) (i j:Nat) (nn:Bool):KO h ⟨(s.xs.take j).drop i,nn⟩ d where
 len:=by have:=K.len;simp;omega
 kid:=fun a ha=>K.kid a (List.mem_of_mem_take (List.mem_of_mem_drop ha))
 sm:=by
  show (((s.xs.take j).drop i).map fun a=>(shN a d).length).sum≤_
  rw [List.map_drop,List.map_take]
  exact Nat.le_trans (zlI _ _) (Nat.le_trans (zb6 _ _) K.sm)
theorem zlM {f:ShF}{g:Sl Nd×ByteArray×Int→Option ByteArray}{s:Sl Nd}(h:s.xs.length≤30000) {d k v p:Int}{t:ByteArray}:∀ (n i:Nat),n+i=s.xs.length→
    lpO (q42 f g) (d,(i:Int),k,t,v,p,s)=some (d,((i+zO (s.xs.drop i):Nat):Int),k,t,v,p,s):=by
  intro n
  induction n with
  |zero=>
    intro i hi
    have hi:i=s.xs.length:=by omega
    subst hi
    rw [zQ]
    unfold q42
    dsimp only
    rw [if_neg (by simp [Sl.len])]
    simp [zO]
  |succ n ih=>
    intro i hi
    obtain ⟨x,hx,hd⟩:=yR.drop_cons' (l:=s.xs) (i:=i) (by omega)
    rw [zQ]
    generalize hG:lpO (q42 f g)=G at ih ⊢
    unfold q42
    dsimp only
    rw [if_pos (by simp [Sl.len];omega),yX,hx,Option.bind_some,Option.bind_some,hd]
    unfold zO
    by_cases e3:x.Kind_=3
    · rw [if_pos e3]
      simp only [e3,decide_true,if_true,Option.bind_some]
      rw [YM (by omega),ih (i+1) (by omega)]
      have:i+1+zO (s.xs.drop (i+1))=i+(zO (s.xs.drop (i+1))+1):=by omega
      rw [this]
    · rw [if_neg e3]
      simp [e3]
theorem zqt {t:List UInt8}{v:Int}{ks:List Nd}{s i:List (List UInt8)}{d:Nat}:shB 1 t v ks s i d=[116,121,112,101,32]++t++[32]++at0 s 0
    ++(if 0 < zO ks.tail then [32,123,32]++ZT ((s.drop 1).take (zO ks.tail))++[32,125] else [])
    ++(if 1+zO ks.tail < ks.length then [32,119,104,101,114,101,32]++ZT (s.drop (1+zO ks.tail)) else [])++[59]:=by
  unfold shB
  rw [if_neg (show ¬ ((1:Int)=0) by decide),if_pos rfl]
theorem znr {h:ShF}{v p:Int}{t:List UInt8}{s:Sl Nd}{d:Nat}{I:List (List UInt8)}(K:KO h s d) (ht:t.length≤1048576) {a:Nd}{r:List Nd}(e:s.xs=a::r) :
    q22 h (⟨1,lit t,v,p,s⟩,(d:Int))=some (lit (shB 1 t v s.xs (s.xs.map fun a=>shN a d) I d)):=by
  have hlp:=zlM (f:=h) (g:=qn h) K.len (d:=d) (k:=1) (v:=v) (p:=p) (t:=lit t) r.length 1 (by rw [e];simp)
  have hlp:lpO (q42 h (qn h)) ((d:Int),1,1,lit t,v,p,s)=_:=hlp
  have hd1:s.xs.drop 1=r:=by rw [e];rfl
  rw [hd1] at hlp
  obtain ⟨g0,k0,l0⟩:=K.g (i:=0) (a:=a) (by rw [e];rfl)
  have g0:zt s 0=some a:=g0
  have hfl:=zdL r
  have hlen:s.xs.length=r.length+1:=by rw [e];simp
  have gs1:zV s 1 ((1+zO r:Nat):Int)=some ⟨(s.xs.take (1+zO r)).drop 1,s.nn⟩:=wi s (i:=1) (by omega) (by omega)
  have gs2:zV s ((1+zO r:Nat):Int) s.len=some ⟨(s.xs.take s.xs.length).drop (1+zO r),s.nn⟩:=wi s (by omega) (Nat.le_refl _)
  have K1:=K.sub 1 (1+zO r) s.nn
  have K2:=K.sub (1+zO r) s.xs.length s.nn
  have j1:=vL K1
  have j2:=vL K2
  have n1:=WI K1
  have n2:=WI K2
  have m1:(((s.xs.take (1+zO r)).drop 1).map fun a=>shN a d)=(r.map fun a=>shN a d).take (zO r):=by
    rw [List.drop_take,hd1,List.map_take]
    congr 1
    omega
  have m2:(((s.xs.take s.xs.length).drop (1+zO r)).map fun a=>shN a d)=(r.map fun a=>shN a d).drop (zO r):=by
    rw [List.take_length,e,Nat.add_comm 1,List.drop_succ_cons,List.map_drop]
  simp only [m1] at j1 n1
  simp only [m2] at j2 n2
  unfold q22 q4p
  dsimp only
  rw [hlp,Option.bind_some]
  dsimp only
  rw [zqt]
  have w1:s.xs.tail=r:=by rw [e];rfl
  have w2:(s.xs.map fun a=>shN a d).drop 1=r.map fun a=>shN a d:=by rw [e];rfl
  have w3:(s.xs.map fun a=>shN a d).drop (1+zO r)=(r.map fun a=>shN a d).drop (zO r):=by rw [e,Nat.add_comm 1];rfl
  have w4:at0 (s.xs.map fun a=>shN a d) 0=shN a d:=by rw [e];rfl
  rw [w1,w2,w3,w4,hlen]
  by_cases q1:0 < zO r
  · have c1:(1:Int) < ((1+zO r:Nat):Int):=by omega
    by_cases q2:zO r < r.length
    · have c2:((1+zO r:Nat):Int) < s.len:=by simp only [Sl.len];omega
      simp (disch:=((try simp only [zg,List.length_append,List.length_cons,List.length_nil]);omega)) only [g0,zW,k0,gs1,gs2,j1,j2,c1,c2,zJ,zP,zz,zg,Option.bind_some,decide_true,if_true]
      have c3:1+zO r < r.length+1:=by omega
      rw [if_pos q1,if_pos c3]
    · have c2:¬ ((1+zO r:Nat):Int) < s.len:=by simp only [Sl.len];omega
      simp (disch:=((try simp only [zg,List.length_append,List.length_cons,List.length_nil]);omega)) only [g0,zW,k0,gs1,gs2,j1,j2,c1,c2,zJ,zP,zz,zg,Option.bind_some,decide_true,if_true,decide_false,if_false,Bool.false_eq_true]
      have c3:¬ 1+zO r < r.length+1:=by omega
      rw [if_pos q1,if_neg c3]
      simp only [List.append_assoc,List.append_nil,List.nil_append]
  · have c1:¬ (1:Int) < ((1+zO r:Nat):Int):=by omega
    by_cases q2:zO r < r.length
    · have c2:((1+zO r:Nat):Int) < s.len:=by simp only [Sl.len];omega
      simp (disch:=((try simp only [zg,List.length_append,List.length_cons,List.length_nil]);omega)) only [g0,zW,k0,gs1,gs2,j1,j2,c1,c2,zJ,zP,zz,zg,Option.bind_some,decide_true,if_true,decide_false,if_false,Bool.false_eq_true]
      have c3:1+zO r < r.length+1:=by omega
      rw [if_neg q1,if_pos c3]
      simp only [List.append_assoc,List.append_nil,List.nil_append]
    · have c2:¬ ((1+zO r:Nat):Int) < s.len:=by simp only [Sl.len];omega
      simp (disch:=((try simp only [zg,List.length_append,List.length_cons,List.length_nil]);omega)) only [g0,zW,k0,gs1,gs2,j1,j2,c1,c2,zJ,zP,zz,zg,Option.bind_some,decide_true,if_true,decide_false,if_false,Bool.false_eq_true]
      have c3:¬ 1+zO r < r.length+1:=by omega
      rw [if_neg q1,if_neg c3]
      simp only [List.append_assoc,List.append_nil,List.nil_append]
theorem zlN {h:ShF}{v p:Int}{t:List UInt8}{s:Sl Nd}{d:Nat}{I:List (List UInt8)}(K:KO h s d) (ht:t.length≤1048576) :
    q1n h (⟨8,lit t,v,p,s⟩,(d:Int))=some (lit (shB 8 t v s.xs (s.xs.map fun a=>shN a d) I d)):=by
  have hj:=zeu (sep:=[]) K.kid K.len K.sm (by simp)
  have hl:=VE [] (s.xs.map fun a=>shN a d)
  have h3:=K.sm
  simp only [List.map_map,List.length_map,List.length_nil,Nat.zero_mul,Nat.add_zero] at hl
  have hl:(X3 [] (s.xs.map fun a=>shN a d)).length≤(s.xs.map fun a=>(shN a d).length).sum:=hl
  unfold q1n q46
  dsimp only
  rw [hj,Option.bind_some]
  unfold shB
  by_cases e1:t=[38]
  · subst e1
    simp (disch:=((try simp only [zg,List.length_append,List.length_cons,List.length_nil]);omega)) [zJ,zP,zz,zg,wM]
  · by_cases e2:t=[38,109,117,116]
    · subst e2
      simp (disch:=((try simp only [zg,List.length_append,List.length_cons,List.length_nil]);omega)) [zJ,zP,zz,zg,wM]
    · by_cases e3:t=[111,119,110]
      · subst e3
        simp (disch:=((try simp only [zg,List.length_append,List.length_cons,List.length_nil]);omega)) [zJ,zP,zz,zg,wM]
      · simp [e1,e2,e3,wM]
theorem zoI {h:ShF}{v p:Int}{t:List UInt8}{s:Sl Nd}{d:Nat}{I:List (List UInt8)}(K:KO h s d) (ht:t.length≤1048576) (h2:2≤s.xs.length) :
    q2j h (⟨6,lit t,v,p,s⟩,(d:Int))=some (lit (shB 6 t v s.xs (s.xs.map fun a=>shN a d) I d)):=by
  have hlen:=K.len
  obtain ⟨m,hm⟩:∃ m,s.xs[s.xs.length - 2]?=some m:=⟨_,List.getElem?_eq_getElem (by omega)⟩
  obtain ⟨b,hb⟩:∃ b,s.xs[s.xs.length - 1]?=some b:=⟨_,List.getElem?_eq_getElem (by omega)⟩
  obtain ⟨gm,km,lm⟩:=K.g hm
  obtain ⟨gb,kb,lb⟩:=K.g hb
  have w1:IntKind.i64.wrap (s.len - 1)=((s.xs.length - 1:Nat):Int):=by rw [zbm hlen];omega
  have w2:IntKind.i64.wrap (((s.xs.length - 1:Nat):Int) - 1)=((s.xs.length - 2:Nat):Int):=by rw [yL (by omega) (by omega)];omega
  have gs:zV s 0 ((s.xs.length - 2:Nat):Int)=some ⟨(s.xs.take (s.xs.length - 2)).drop 0,s.nn⟩:=wi s (i:=0) (by omega) (by omega)
  have K1:=K.sub 0 (s.xs.length - 2) s.nn
  have j1:=vL K1
  have n1:=WI K1
  have m1:(((s.xs.take (s.xs.length - 2)).drop 0).map fun a=>shN a d)=(s.xs.map fun a=>shN a d).take (s.xs.length - 2):=by rw [List.drop_zero,List.map_take]
  simp only [m1] at j1 n1
  have hdr:s.xs.drop (s.xs.length - 2)=m::s.xs.drop (s.xs.length - 2+1):=by
    obtain ⟨c,hc,hd⟩:=yR.drop_cons' (l:=s.xs) (i:=s.xs.length - 2) (by omega)
    rw [hm] at hc;cases hc;exact hd
  have a1:at0 (s.xs.map fun a=>shN a d) (s.xs.length - 2)=shN m d:=by unfold at0;rw [List.getD_eq_getElem?_getD,List.getElem?_map,hm];rfl
  have a2:at0 (s.xs.map fun a=>shN a d) (s.xs.length - 1)=shN b d:=by unfold at0;rw [List.getD_eq_getElem?_getD,List.getElem?_map,hb];rfl
  obtain ⟨mt,hmt⟩:∃ l,m.Text_=lit l:=⟨bs m.Text_,(zc1 _).symm⟩
  have e6:shB 6 t v s.xs (s.xs.map fun a=>shN a d) I d=[102,110,32]++t++[40]++ZT ((s.xs.map fun a=>shN a d).take (s.xs.length - 2))++[41]
      ++(if mt=[] then [] else [32,45,62,32]++shN m d)++[32]++shN b d:=by
    unfold shB
    rw [if_neg (show ¬ ((6:Int)=0) by decide),if_neg (show ¬ ((6:Int)=1) by decide),if_neg (show ¬ ((6:Int)=2) by decide),if_neg (show ¬ ((6:Int)=3) by decide),if_neg (show ¬ ((6:Int)=4) by decide),if_neg (show ¬ ((6:Int)=5) by decide),if_pos rfl,hdr,a1,a2]
    have hnt:X4 (m::s.xs.drop (s.xs.length - 2+1))=mt.isEmpty:=by
      show (bs m.Text_).isEmpty=_
      rw [hmt,yd]
    rw [hnt]
    cases mt <;> rfl
  rw [e6]
  unfold q2j q57
  by_cases hn:mt=[]
  · subst hn
    simp (disch:=((try simp only [zg,List.length_append,List.length_cons,List.length_nil]);omega)) only [w1,w2,gs,j1,gm,gb,kb,hmt,zW,wM,zJ,zP,zz,zg,Option.bind_some,decide_true,if_true,decide_false,if_false,Bool.false_eq_true,ne_eq,not_true_eq_false]
    simp only [List.append_assoc,List.append_nil,List.nil_append]
  · simp (disch:=((try simp only [zg,List.length_append,List.length_cons,List.length_nil]);omega)) only [w1,w2,gs,j1,gm,gb,kb,km,hmt,hn,zW,wM,zJ,zP,zz,zg,Option.bind_some,decide_true,if_true,decide_false,if_false,Bool.false_eq_true,ne_eq,not_false_eq_true]
end Go.Px
namespace Go.Px
set_option linter.unusedVariables false
set_option linter.unusedSimpArgs false
theorem zb7 {x b:List UInt8}{z:Sl Unit}(h:b.length+x.length≤140737488355328):qg (lit x,lit b,z)=some ((x.length:Int),lit (b++x),z):=by
 show wg _=_
 unfold wg
 rw [if_pos (by show (lit b).size+(lit x).size≤_;rw [zg,zg];exact h)]
 show some (((lit x).size:Int),lit b++lit x,z)=_
 rw [zg,zz]
theorem zkq {b:List UInt8}{z:Sl Unit}(h:b≠[]):qt (lit b,z)=some (lit b):=by
 show XG _=_
 unfold XG
 rw [if_pos (by show 0 < (lit b).size;rw [zg];exact List.length_pos_iff.2 h)]
def lnB (d:Nat) (a:Nd):List UInt8:=Za (d+1)++shN a (d+1)++[10]
def xA (d:Nat) (l:List Nd):List UInt8:=(l.map (lnB d)).flatten
theorem Y5 (d:Nat):(Za d).length=4 * d:=by simp [Za]
theorem zfQ {d:Nat}:∀ l:List Nd,(xA d l).length=(l.map fun a=>(shN a (d+1)).length).sum+(4 * (d+1)+1) * l.length
 |[]=>by simp [xA]
 |a::l=>by
  have ih:=zfQ (d:=d) l
  have hc:(lnB d a).length=(shN a (d+1)).length+(4 * (d+1)+1):=by simp [lnB,Y5];omega
  unfold xA at ih ⊢
  rw [List.map_cons,List.flatten_cons,List.length_append,ih,List.map_cons,List.sum_cons,List.length_cons,hc]
  generalize 4 * (d+1)+1=c
  rw [Nat.mul_succ]
  omega
theorem zlO {d:Nat}{l:List Nd}{a:Nd}:xA d (l++[a])=xA d l++lnB d a:=by simp [xA]
theorem zkr {h:ShF}{s:Sl Nd}{d:Nat}(K:KO h s (d+1)) (hd:d < 30000) (i:Nat):(xA d (s.xs.take i)).length≤1099511627776+3600300000:=by
 rw [zfQ]
 have h1:=zb6 (s.xs.map fun a=>(shN a (d+1)).length) i
 rw [← List.map_take] at h1
 have h2:=K.sm
 have h3:=K.len
 have h4:(4 * (d+1)+1) * (s.xs.take i).length≤120005 * 30000:=Nat.mul_le_mul (by omega) (by rw [List.length_take];omega)
 omega
theorem ziT {h:ShF}{s:Sl Nd}{d:Nat}(K:KO h s (d+1)) (hd:d < 30000) {g:ByteArray×Sl Unit→Option ByteArray}{z:Sl Unit}:∀ (n i:Nat),n+i=s.xs.length→
    lpO (q2o qg q1m h g) ((d:Int),s,s.len,(i:Int),lit ([123,10]++xA d (s.xs.take i)),z)=some ((d:Int),lit ([123,10]++xA d s.xs),z):=by
  intro n
  induction n with
  |zero=>
    intro i hi
    have hi:i=s.xs.length:=by omega
    subst hi
    rw [zQ]
    unfold q2o
    dsimp only
    rw [if_neg (by simp [Sl.len]),List.take_length]
    rfl
  |succ n ih=>
    intro i hi
    obtain ⟨x,hx,hdr⟩:=yR.drop_cons' (l:=s.xs) (i:=i) (by omega)
    have hm:x∈s.xs:=List.mem_of_getElem? hx
    have hlen:=K.len
    have l1:=K.one hm
    have l2:=zkr K hd i
    have ih:=ih (i+1) (by omega)
    rw [wz.take_succ'' hx,zlO] at ih
    have hw:qg (lit (lnB d x),lit ([123,10]++xA d (s.xs.take i)),z)=some (((lnB d x).length:Int),lit ([123,10]++xA d (s.xs.take i)++lnB d x),z):=zb7 (by
      simp only [lnB,List.length_append,List.length_cons,List.length_nil,Y5];omega)
    have hw:qg (lit (Za (d+1)++shN x (d+1)++[10]),lit ([123,10]++xA d (s.xs.take i)),z)=_:=hw
    rw [zQ]
    generalize hG:lpO (q2o qg q1m h g)=G at ih ⊢
    unfold q2o
    dsimp only
    rw [if_pos (by simp [Sl.len];omega),yX,hx,Option.bind_some,YM (by omega),zev (by omega),Option.bind_some,zW,K.kid x hm,Option.bind_some]
    have hsz:(Za (d+1)).length=4 * (d+1):=Y5 _
    simp (disch:=((try simp only [zg,List.length_append,List.length_cons,List.length_nil]);omega)) only [zJ,zP,zz,zg,hw,Option.bind_some]
    rw [YM (by omega)]
    rw [← List.append_assoc] at ih
    exact ih
theorem zks {h:ShF}{v p:Int}{t:List UInt8}{s:Sl Nd}{d:Nat}{S:List (List UInt8)}(K:KO h s (d+1)) (hd:d < 30000) :
    q1d h (⟨9,lit t,v,p,s⟩,(d:Int))=some (lit (shB 9 t v s.xs S (s.xs.map fun a=>shN a (d+1)) d)):=by
  have w0:qg (lit [123,10],lit [],⟨[],false⟩)=some (2,lit [123,10],⟨[],false⟩):=zb7 (x:=[123,10]) (b:=[]) (by simp)
  have hlp:=ziT K hd (g:=qt) (z:=⟨[],false⟩) s.xs.length 0 (by omega)
  have hlp:lpO (q2o qg q1m h qt) ((d:Int),s,s.len,0,lit [123,10],⟨[],false⟩)=_:=hlp
  have l2:=zkr K hd s.xs.length
  rw [List.take_length] at l2
  have hsz:(Za d).length=4 * d:=Y5 _
  have w1:qg (lit (Za d++[125]),lit ([123,10]++xA d s.xs),⟨[],false⟩)=some (((Za d++[125]).length:Int),lit ([123,10]++xA d s.xs++(Za d++[125])),⟨[],false⟩):=zb7 (by
    simp only [List.length_append,List.length_cons,List.length_nil];omega)
  have w2:qt (lit ([123,10]++xA d s.xs++(Za d++[125])),⟨[],false⟩)=some (lit ([123,10]++xA d s.xs++(Za d++[125]))):=zkq (by simp)
  have e9:shB 9 t v s.xs S (s.xs.map fun a=>shN a (d+1)) d=[123,10]++xA d s.xs++(Za d++[125]):=by
    unfold shB
    rw [if_neg (show ¬ ((9:Int)=0) by decide),if_neg (show ¬ ((9:Int)=1) by decide),if_neg (show ¬ ((9:Int)=2) by decide),if_neg (show ¬ ((9:Int)=3) by decide),if_neg (show ¬ ((9:Int)=4) by decide),if_neg (show ¬ ((9:Int)=5) by decide),if_neg (show ¬ ((9:Int)=6) by decide),if_neg (show ¬ ((9:Int)=7) by decide),if_neg (show ¬ ((9:Int)=8) by decide),if_pos rfl,List.map_map,List.append_assoc]
    rfl
  rw [e9]
  unfold q1d q3u
  dsimp only
  rw [w0,Option.bind_some,hlp,Option.bind_some,zev (Nat.le_of_lt hd),Option.bind_some]
  rw [zJ (by rw [zg];omega),zz]
  dsimp only
  rw [w1,Option.bind_some]
  dsimp only
  rw [w2]
  rfl
end Go.Px
namespace Go.Px
set_option linter.unusedVariables false
set_option linter.unusedSimpArgs false
theorem zho {k:Int}{ks:List Nd}(h:k < 0∨28 < k):zE k ks=false:=by
 have n:∀ c:Int,0≤c→c≤28→¬ k=c:=fun c h0 h1 e=>by omega
 unfold zE Z9
 simp [n]
theorem zlP {k:Int}{ks:List Nd}(hf:zE k ks=true) (h1:Xu k=false) (h2:xO k=false):k=0∨k=1∨k=2∨k=3∨k=4∨k=6∨k=7∨k=8∨k=9:=by
 have hr:¬ (k < 0∨28 < k):=fun e=>by rw [zho e] at hf;cases hf
 unfold Xu at h1
 unfold xO at h2
 simp at h1 h2
 omega
def WZ (d:Nat) (l:List Nd):List UInt8:=(l.map fun a=>shN a d++[10]).flatten
theorem zew {d:Nat}:∀ l:List Nd,(WZ d l).length=(l.map fun a=>(shN a d).length).sum+l.length
 |[]=>by simp [WZ]
 |a::l=>by
  have ih:=zew (d:=d) l
  unfold WZ at ih ⊢
  rw [List.map_cons,List.flatten_cons,List.length_append,ih,List.map_cons,List.sum_cons,List.length_cons]
  simp only [List.length_append,List.length_cons,List.length_nil]
  omega
theorem zkt {h:ShF}{s:Sl Nd}{d:Nat}{t:ByteArray}{v p:Int}(K:KO h s d) {a b c e f g j l m}:∀ (n i:Nat),n+i=s.xs.length→
    lpO (q3d a b c e f (qz h) g j l m) (lit (WZ d (s.xs.take i)),s.len,(i:Int),((0,t,v,p,s),(d:Int)))=some (lit (WZ d s.xs)):=by
  intro n
  induction n with
  |zero=>
    intro i hi
    have hi:i=s.xs.length:=by omega
    subst hi
    rw [zQ]
    unfold q3d
    dsimp only
    rw [if_neg (by simp [Sl.len]),List.take_length]
    rfl
  |succ n ih=>
    intro i hi
    obtain ⟨x,hx,hdr⟩:=yR.drop_cons' (l:=s.xs) (i:=i) (by omega)
    have hlen:=K.len
    have hsm:=K.sm
    have l1:=K.one (List.mem_of_getElem? hx)
    have l2:=zew (d:=d) (s.xs.take i)
    have h1:=zb6 (s.xs.map fun a=>(shN a d).length) i
    rw [← List.map_take] at h1
    have l3:(s.xs.take i).length≤30000:=by rw [List.length_take];omega
    have ih:=ih (i+1) (by omega)
    have hap:WZ d (s.xs.take (i+1))=WZ d (s.xs.take i)++(shN x d++[10]):=by
      rw [wz.take_succ'' hx]
      simp [WZ]
    rw [hap] at ih
    have hk:qz h ((i:Int),(0,t,v,p,s),(d:Int))=some (lit (shN x d),(0,t,v,p,s),(d:Int)):=K.at h hx
    rw [zQ]
    generalize hG:lpO (q3d a b c e f (qz h) g j l m)=G at ih ⊢
    unfold q3d
    dsimp only
    rw [if_pos (by simp [Sl.len];omega),hk,Option.bind_some]
    simp (disch:=((try simp only [zg,List.length_append,List.length_cons,List.length_nil]);omega)) only [zJ,zP,zz,zg,Option.bind_some]
    rw [YM (by omega)]
    exact ih
theorem zku {h:ShF}{k v p:Int}{t:List UInt8}{s:Sl Nd}{d:Nat}(K:KO h s d) (K':KO h s (d+1)) (hd:d < 30000) (ht:t.length≤1048576) (hv : -9223372036854775808≤v∧v≤9223372036854775807) :
    q4a h (⟨k,lit t,v,p,s⟩,(d:Int))=some (lit (shN ⟨k,lit t,v,p,s⟩ d)):=by
  rw [zaN]
  dsimp only
  rw [yd]
  unfold q4a q49
  dsimp only
  rw [zoH _ K.len,Option.bind_some]
  unfold shG
  by_cases hf:zE k s.xs=true
  case neg=>
    have hf:zE k s.xs=false:=by cases e:zE k s.xs <;> simp_all
    rw [hf]
    rfl
  rw [hf,if_pos rfl]
  rw [if_neg (show ¬ ((!true)=true) by decide),zaO,Option.bind_some]
  by_cases h1:Xu k=true
  · rw [if_pos h1,zlL (I:=s.xs.map fun a=>shN a (d+1)) K ht hv h1 hf]
    rfl
  rw [if_neg h1,VY,Option.bind_some]
  by_cases h2:xO k=true
  · rw [if_pos h2,zlK (I:=s.xs.map fun a=>shN a (d+1)) K ht hv h2 hf]
    rfl
  rw [if_neg h2]
  have h1:Xu k=false:=by cases e:Xu k <;> simp_all
  have h2:xO k=false:=by cases e:xO k <;> simp_all
  simp only [Option.bind_some,Sum.elim_inr]
  rcases zlP hf h1 h2 with rfl | rfl | rfl | rfl | rfl | rfl | rfl | rfl | rfl
  · have hlp:=zkt (t:=lit t) (v:=v) (p:=p) K (a:=q4j) (b:=qq) (c:=q1p h) (e:=qu) (f:=q1o h) (g:=q22 h) (j:=q2j h) (l:=q1n h) (m:=q1d h) s.xs.length 0 (by omega)
    have hlp:lpO (q3d q4j qq (q1p h) qu (q1o h) (qz h) (q22 h) (q2j h) (q1n h) (q1d h)) (lit [],s.len,0,((0,lit t,v,p,s),(d:Int)))=_:=hlp
    simp only [hlp,decide_true,if_true,Option.bind_some,Sum.elim_inl]
    unfold shB
    rw [if_pos rfl,List.map_map]
    rfl
  · have hx:∃ a r,s.xs=a::r:=by
      unfold zE at hf
      simp [Z9] at hf
      split at hf
      · cases hf
      · rename_i a r e;exact ⟨a,r,e⟩
    obtain ⟨a,r,e⟩:=hx
    have:=znr (v:=v) (p:=p) (I:=s.xs.map fun a=>shN a (d+1)) K ht e
    simp [this]
  · unfold shB
    by_cases hn:s.xs=[]
    · simp [hn,Sl.len]
    · obtain ⟨a,r,e⟩:=List.exists_cons_of_ne_nil hn
      have la:=K.one (a:=a) (by rw [e];simp)
      have hp:(0:Int) < (r.length:Int)+1:=by omega
      simp (disch:=((try simp only [zg,List.length_append,List.length_cons,List.length_nil]);omega)) [K.n0 e,Sl.len,hp,zJ,zP,zz,zg,e,at0,Zb]
  · unfold shB
    by_cases hn:s.xs=[]
    · simp [hn,Sl.len]
    · obtain ⟨a,r,e⟩:=List.exists_cons_of_ne_nil hn
      have la:=K.one (a:=a) (by rw [e];simp)
      have hp:(0:Int) < (r.length:Int)+1:=by omega
      simp (disch:=((try simp only [zg,List.length_append,List.length_cons,List.length_nil]);omega)) [K.n0 e,Sl.len,hp,zJ,zP,zz,zg,e,at0,Zb]
  · obtain ⟨a,b,e⟩:=kk2 (of_decide_eq_true hf:kK s.xs=[5,5])
    have la:=K.one (a:=a) (by rw [e];simp)
    have lb:=K.one (a:=b) (by rw [e];simp)
    unfold shB
    simp (disch:=((try simp only [zg,List.length_append,List.length_cons,List.length_nil]);omega)) [K.n0 e,K.n1 e,zJ,zP,zz,zg,e,at0,Zb]
  · have hx:2≤s.xs.length:=by
      unfold zE at hf
      simp [Z9] at hf
      exact hf.1.1
    have:=zoI (v:=v) (p:=p) (I:=s.xs.map fun a=>shN a (d+1)) K ht hx
    simp [this]
  · obtain ⟨a,e⟩:=kk1 (of_decide_eq_true hf:kK s.xs=[8])
    have la:=K.one (a:=a) (by rw [e];simp)
    unfold shB
    simp (disch:=((try simp only [zg,List.length_append,List.length_cons,List.length_nil]);omega)) [K.n0 e,zJ,zP,zz,zg,e,at0,Zb]
  · have:=zlN (v:=v) (p:=p) (I:=s.xs.map fun a=>shN a (d+1)) K ht
    simp [this]
  · have:=zks (t:=t) (v:=v) (p:=p) (S:=s.xs.map fun a=>shN a d) K' hd
    simp [this]
end Go.Px
namespace Go.Px
set_option linter.unusedVariables false
set_option linter.unusedSimpArgs false
mutual
def Zi:Nd→Prop
 |⟨_,t,v,_,ks⟩=>t.size≤1048576∧(-9223372036854775808≤v∧v≤9223372036854775807)∧zmE ks
def zmE:Sl Nd→Prop
 |⟨xs,_⟩=>WJ xs
def WJ:List Nd→Prop
 |[]=>True
 |a::r=>Zi a∧WJ r
end
theorem VF (n:Nd):Zi n↔n.Text_.size≤1048576∧(-9223372036854775808≤n.Num_∧n.Num_≤9223372036854775807)∧WJ n.Kids_.xs:=by
 obtain ⟨a,b,c,d,⟨xs,nn⟩⟩:=n
 simp [Zi,zmE]
theorem xP:∀ l:List Nd,WJ l↔∀ a∈l,Zi a
 |[]=>by simp [WJ]
 |a::l=>by simp [WJ,xP l]
def ZO (w:Nat) (l:List (List UInt8)):Nat:=(l.map fun x=>x.length+w).sum
theorem wN {w:Nat}{x:List UInt8}{l:List (List UInt8)}:ZO w (x::l)=x.length+w+ZO w l:=by simp [ZO]
theorem zc5 (w:Nat) (l:List (List UInt8)) (i:Nat):ZO w l=ZO w (l.take i)+ZO w (l.drop i):=by
 unfold ZO
 rw [List.map_take,List.map_drop,← List.sum_append,List.take_append_drop]
theorem vM (sep:List UInt8) (w:Nat) (hw:sep.length≤w) (l:List (List UInt8)):(X3 sep l).length≤ZO w l:=by
 have h:=VE sep l
 have:∀ l:List (List UInt8),(l.map (·.length)).sum+sep.length * l.length≤ZO w l:=by
  intro l
  induction l with
  |nil=>simp [ZO]
  |cons a r ih=>
   rw [wN,List.map_cons,List.sum_cons,List.length_cons,Nat.mul_succ]
   omega
 exact Nat.le_trans h (this l)
theorem zkv (w:Nat) (l:List (List UInt8)) (i:Nat):(at0 l i).length≤ZO w (l.drop i):=by
 unfold at0
 rw [List.getD_eq_getElem?_getD]
 cases e:l[i]? with
 |none=>simp
 |some x=>
  have hi:=(List.getElem?_eq_some_iff.1 e)
  obtain ⟨h1,h2⟩:=hi
  rw [List.drop_eq_getElem_cons h1,wN,h2]
  simp <;> try omega
theorem W0 (w:Nat) (l:List (List UInt8)) (i:Nat):(at0 l i).length+ZO w (l.drop (i+1))≤ZO w (l.drop i):=by
 unfold at0
 rw [List.getD_eq_getElem?_getD]
 cases e:l[i]? with
 |none=>
  have:l.length≤i:=List.getElem?_eq_none_iff.1 e
  rw [List.drop_eq_nil_of_le this,List.drop_eq_nil_of_le (by omega)]
  simp
 |some x=>
  obtain ⟨h1,h2⟩:=List.getElem?_eq_some_iff.1 e
  rw [List.drop_eq_getElem_cons h1,wN,h2]
  simp <;> try omega
theorem zdM (w:Nat) (f:List UInt8→List UInt8) (hf:∀ x,(f x).length≤x.length+w):∀ l:List (List UInt8),(l.map f).flatten.length≤ZO w l
 |[]=>by simp [ZO]
 |a::l=>by
  have:=zdM w f hf l
  have:=hf a
  rw [List.map_cons,List.flatten_cons,List.length_append,wN]
  omega
theorem zkw {t:List UInt8}{v:Int}(hl:(Lib.itoa v).length≤30):(w8 t v).length≤t.length+40:=by
 unfold w8
 repeat' split
 all_goals try simp only [List.length_append,List.length_cons,List.length_nil,List.length_drop]
 all_goals omega
theorem zns {k v:Int}{t:List UInt8}{ks:List Nd}{s i:List (List UInt8)}{d w:Nat}(hl:(Lib.itoa v).length≤30) (hw:4 * (d+1)+2≤w) (hf:zE k ks=true) :
    (shB k t v ks s i d).length≤t.length+100+4 * d+(ZO w s+(ZO w i - ZO w s)):=by
  have a0:(at0 s 0).length+ZO w (s.drop 1)≤ZO w s:=W0 w s 0
  have a1:(at0 s 1).length+ZO w (s.drop 2)≤ZO w (s.drop 1):=W0 w s 1
  have a2:(at0 s 2).length+ZO w (s.drop 3)≤ZO w (s.drop 2):=W0 w s 2
  have a3:(at0 s 3).length≤ZO w (s.drop 3):=zkv w s 3
  have c0:(ZT s).length≤ZO w s:=vM [44,32] w (by simp;omega) s
  have n0:(X3 [] s).length≤ZO w s:=vM [] w (by simp) s
  have t0:=zkw (t:=t) hl
  have c1:(ZT ((s.drop 1).take (zO ks.tail))).length+(ZT (s.drop (1+zO ks.tail))).length≤ZO w (s.drop 1):=by
    have h1:=zc5 w (s.drop 1) (zO ks.tail)
    have h2:(ZT ((s.drop 1).take (zO ks.tail))).length≤_:=vM [44,32] w (by simp;omega) _
    have h3:(ZT (s.drop (1+zO ks.tail))).length≤_:=vM [44,32] w (by simp;omega) _
    rw [List.drop_drop] at h1
    omega
  have f0:((s.map (·++[10])).flatten).length≤ZO w s:=zdM w (·++[10]) (fun x=>by simp;omega) s
  have f1:((i.map fun x=>Za (d+1)++x++[10]).flatten).length≤ZO w i:=zdM w (fun x=>Za (d+1)++x++[10]) (fun x=>by simp [Y5];omega) i
  have sp:=Y5 d
  by_cases h6:k=6
  · subst h6
    have hx:2≤ks.length:=by
      unfold zE at hf
      simp [Z9] at hf
      exact hf.1.1
    have h1:=zc5 w s (ks.length - 2)
    have h2:(ZT (s.take (ks.length - 2))).length≤_:=vM [44,32] w (by simp;omega) _
    have h3:=W0 w s (ks.length - 2)
    have h4:=zkv w s (ks.length - 1)
    have e:ks.length - 2+1=ks.length - 1:=by omega
    rw [e] at h3
    unfold shB
    rw [if_neg (show ¬ ((6:Int)=0) by decide),if_neg (show ¬ ((6:Int)=1) by decide),if_neg (show ¬ ((6:Int)=2) by decide),if_neg (show ¬ ((6:Int)=3) by decide),if_neg (show ¬ ((6:Int)=4) by decide),if_neg (show ¬ ((6:Int)=5) by decide),if_pos rfl]
    split
    all_goals try simp only [List.length_append,List.length_cons,List.length_nil]
    all_goals omega
  · rcases zbK k with h | h
    case inr=>rw [zho h] at hf;cases hf
    rcases h with rfl | rfl | rfl | rfl | rfl | rfl | rfl | rfl | rfl | rfl | rfl | rfl | rfl | rfl | rfl | rfl | rfl | rfl | rfl | rfl | rfl | rfl | rfl | rfl | rfl | rfl | rfl | rfl | rfl
    all_goals first | exact absurd rfl h6 | skip
    all_goals unfold shB
    all_goals simp only [Int.reduceEq,reduceIte,false_or,or_false]
    all_goals repeat' split
    all_goals try simp only [List.length_append,List.length_cons,List.length_nil]
    all_goals omega
end Go.Px
namespace Go.Px
set_option linter.unusedVariables false
set_option linter.unusedSimpArgs false
theorem Yb:∀ {l:List Nd}{a:Nd},a∈l→z8 a≤zi l
 |[],a,h=>by cases h
 |b::l,a,h=>by
  rw [zi]
  rcases List.mem_cons.1 h with rfl | h
  ·omega
  ·have:=Yb h;omega
theorem w9:∀ l:List Nd,l.length≤zi l
 |[]=>by simp
 |a::l=>by
  have:=w9 l
  have:=zk a
  rw [zi,List.length_cons]
  omega
theorem W1 {w c:Nat}{d:Nat}:∀ {l:List Nd},(∀ a∈l,(shN a d).length+w≤z8 a * c)→ZO w (l.map fun a=>shN a d)≤zi l * c
 |[],_=>by simp [ZO]
 |a::l,h=>by
  have h1:=h a (by simp)
  have h2:=W1 (l:=l) fun b hb=>h b (by simp [hb])
  rw [List.map_cons,wN,zi,Nat.add_mul]
  omega
theorem zhp {M:Nat}:∀ (m:Nat) (n:Nd) (d:Nat),z8 n≤m→Zi n→d+z8 n≤M→(shN n d).length+(4 * M+8)≤z8 n * (1048576+8 * M+200):=by
 intro m
 induction m with
 |zero=>intro n d h;have:=zk n;omega
 |succ m ih=>
  intro n d hm hg hd
  have hs:=zk n
  obtain ⟨g1,g2,g3⟩:=(VF n).1 hg
  rw [xP] at g3
  have k0:ZO (4 * M+8) (n.Kids_.xs.map fun a=>shN a d)≤zi n.Kids_.xs * (1048576+8 * M+200):=W1 fun a ha=>by
   have:=Yb ha
   exact ih a d (by omega) (g3 a ha) (by omega)
  have k1:ZO (4 * M+8) (n.Kids_.xs.map fun a=>shN a (d+1))≤zi n.Kids_.xs * (1048576+8 * M+200):=W1 fun a ha=>by
   have:=Yb ha
   exact ih a (d+1) (by omega) (g3 a ha) (by omega)
  rw [zaN,hs,Nat.succ_mul (zi n.Kids_.xs) (1048576+8 * M+200)]
  unfold shG
  have hbl:(bs n.Text_).length≤1048576:=by rw [Zu];exact g1
  by_cases hf:zE n.Kind_ n.Kids_.xs=true
  ·rw [if_pos hf]
   have:=zns (t:=bs n.Text_) (s:=n.Kids_.xs.map fun a=>shN a d) (i:=n.Kids_.xs.map fun a=>shN a (d+1)) (d:=d) (w:=4 * M+8) (WH g2) (by omega) hf
   omega
  ·rw [if_neg hf]
   simp only [List.length_cons,List.length_nil]
   omega
theorem zmF {h:ShF}{s:Sl Nd}{d:Nat}(hk:∀ a∈s.xs,h (a,(d:Int))=some (lit (shN a d))) (hg:WJ s.xs) (hd:d+zi s.xs≤5000):KO h s d where
 len:=by have:=w9 s.xs;omega
 kid:=hk
 sm:=by
  rw [xP] at hg
  have h1:ZO 0 (s.xs.map fun a=>shN a d)≤zi s.xs * (1048576+8 * 5000+200):=W1 fun a ha=>by
   have h2:=Yb ha
   have h3:=zhp (M:=5000) _ a d (Nat.le_refl _) (hg a ha) (by omega)
   omega
  have e:ZO 0 (s.xs.map fun a=>shN a d)=(s.xs.map fun a=>(shN a d).length).sum:=by
   unfold ZO
   rw [List.map_map]
   rfl
  rw [e] at h1
  have:zi s.xs * (1048576+8 * 5000+200)≤5000 * (1048576+8 * 5000+200):=Nat.mul_le_mul_right _ (by omega)
  omega
theorem zlQ:∀ (f:Nat) (n:Nd) (d:Nat),z8 n≤f→Zi n→d+z8 n≤5000→ql f (n,(d:Int))=some (lit (shN n d)):=by
 intro f
 induction f with
 |zero=>intro n d h;have:=zk n;omega
 |succ f ih=>
  intro n d hf hg hd
  have hs:=zk n
  obtain ⟨g1,g2,g3⟩:=(VF n).1 hg
  obtain ⟨k,t,v,p,s⟩:=n
  dsimp only at hs g1 g2 g3
  have g4:=(xP _).1 g3
  have K:KO (ql f) s d:=zmF (fun a ha=>by
   have:=Yb ha
   exact ih a d (by omega) (g4 a ha) (by omega)) g3 (by omega)
  have K':KO (ql f) s (d+1):=zmF (fun a ha=>by
   have:=Yb ha
   exact ih a (d+1) (by omega) (g4 a ha) (by omega)) g3 (by omega)
  have ht:t=lit (bs t):=(zc1 t).symm
  rw [ht]
  exact zku K K' (by omega) (by rw [Zu];exact g1) g2
theorem znt {n:Nd}(hg:Zi n) (hs:z8 n≤5000):q23 n=some (lit (shN n 0)):=by
 have:=zlQ 100000 n 0 (by omega) hg (by omega)
 have this:ql 100000 (n,0)=_:=this
 show ((q80 (_,0)).bind fun y=>some y)=_
 rw [zW]
 show ((ql 100000 (n,0)).bind fun y=>some y)=_
 rw [this]
 rfl
end Go.Px
namespace Go.Px
set_option linter.unusedVariables false
set_option linter.unusedSimpArgs false
def TkG (ts:List Tk):Prop:=∀ t∈ts,t.Text_.size≤1048576∧0≤t.Num_∧t.Num_≤9223372036854775807
theorem TkG.tl {ts:List Tk}(g:TkG ts):TkG ts.tail:=fun t h=>g t (List.mem_of_mem_tail h)
theorem TkG.hd {ts:List Tk}(g:TkG ts):(hd ts).Text_.size≤1048576∧0≤(hd ts).Num_∧(hd ts).Num_≤9223372036854775807:=by
 cases ts with
 |nil=>show (lit []).size≤_∧(0:Int)≤0∧(0:Int)≤_;rw [zg];simp
 |cons t r=>exact g t (by simp)
def Gd (p:List Tk→PR Nd):Prop:=∀ ts n t1,TkG ts→p ts = .ok (n,t1)→Zi n∧TkG t1
theorem yb {s:List UInt8}{ts t1:List Tk}{u:Unit}(g:TkG ts) (h:Zc s ts = .ok (u,t1)):TkG t1:=by
 unfold Zc at h
 split at h
 ·cases h;exact g.tl
 ·cases h
theorem zhq {k:Int}{ts t1:List Tk}{t:Tk}(g:TkG ts) (h:xp k ts = .ok (t,t1)):t=hd ts∧TkG t1:=by
 unfold xp at h
 split at h
 ·cases h;exact ⟨rfl,g.tl⟩
 ·cases h
theorem XI {sg:Int}(hs:sg=1∨sg = -1) {ts t1:List Tk}{v:Int}(g:TkG ts) (h:Yu sg ts = .ok (v,t1)):(-9223372036854775808≤v∧v≤9223372036854775807)∧TkG t1:=by
 obtain ⟨a,t,e,h⟩:=zb h
 cases h
 obtain ⟨rfl,g1⟩:=zhq g e
 have:=g.hd
 rcases hs with rfl | rfl <;> exact ⟨by omega,g1⟩
theorem zA {k v p:Int}{t:ByteArray}{s:Sl Nd}(ht:t.size≤1048576) (hv : -9223372036854775808≤v∧v≤9223372036854775807) (hs:∀ a∈s.xs,Zi a):Zi ⟨k,t,v,p,s⟩:=
 (VF _).2 ⟨ht,hv,(xP _).2 hs⟩
theorem Zs {n:Nd}(h:Zi n):n.Text_.size≤1048576∧(-9223372036854775808≤n.Num_∧n.Num_≤9223372036854775807)∧∀ a∈n.Kids_.xs,Zi a:=by
 obtain ⟨a,b,c⟩:=(VF n).1 h
 exact ⟨a,b,(xP _).1 c⟩
theorem Xv:(lit []).size≤1048576:=by rw [zg];simp
theorem yS:(-9223372036854775808:Int)≤0∧(0:Int)≤9223372036854775807:=by omega
theorem nok {s:Bool}:∀ a∈(⟨[],s⟩:Sl Nd).xs,Zi a:=fun a h=>by cases h
theorem VG {s:Bool}{n:Nd}(h:Zi n):∀ a∈(⟨[n],s⟩:Sl Nd).xs,Zi a:=fun a ha=>by simp at ha;rw [ha];exact h
theorem zc6 {s:Bool}{n m:Nd}(h:Zi n) (h2:Zi m):∀ a∈(⟨[n,m],s⟩:Sl Nd).xs,Zi a:=fun a ha=>by
 simp at ha
 rcases ha with rfl | rfl
 ·exact h
 ·exact h2
theorem ym:Gd Zn:=fun ts n t1 g h=>by
 obtain ⟨a,t,e,h⟩:=zb h
 cases h
 obtain ⟨rfl,g1⟩:=zhq g e
 exact ⟨zA g.hd.1 yS nok,g1⟩
theorem zhr {n:Nd}(hn:Zi n):Gd (Y4 n):=fun ts m t1 g h=>by
 obtain ⟨q1,q2,q3⟩:=Zs hn
 unfold Y4 at h
 split at h
 ·obtain ⟨a,t,e,h⟩:=zb h
  cases h
  obtain ⟨r,g1⟩:=XI (.inl rfl) g.tl e
  exact ⟨zA q1 r q3,g1⟩
 ·split at h
  ·obtain ⟨a,t,e,h⟩:=zb h
   cases h
   obtain ⟨r,g1⟩:=XI (.inr rfl) g.tl e
   exact ⟨zA q1 r q3,g1⟩
  ·cases h;exact ⟨hn,g⟩
theorem XJ:Gd Z2:=fun ts n t1 g h=>by
 unfold Z2 at h
 split at h
 ·obtain ⟨a,t,e,h⟩:=zb h
  cases h
  obtain ⟨r,g1⟩:=XI (.inl rfl) g e
  exact ⟨zA Xv r nok,g1⟩
 ·split at h
  ·obtain ⟨a,t,e,h⟩:=zb h
   cases h
   obtain ⟨r,g1⟩:=XI (.inr rfl) g.tl e
   exact ⟨zA Xv r nok,g1⟩
  ·obtain ⟨a,t,e,h⟩:=zb h
   obtain ⟨h1,g1⟩:=ym _ _ _ g e
   exact zhr h1 _ _ _ g1 h
theorem zc7 {one:List Tk→PR Nd}(ho:Gd one):∀ (k:Nat) (acc:List Nd) (ts:List Tk) (l:List Nd) (t1:List Tk),TkG ts→(∀ a∈acc,Zi a)→yk one k acc ts = .ok (l,t1)→(∀ a∈l,Zi a)∧TkG t1
 |0,acc,ts,l,t1,g,ha,h=>by cases h;exact ⟨ha,g⟩
 |k+1,acc,ts,l,t1,g,ha,h=>by
  unfold yk at h
  split at h
  ·obtain ⟨a,t,e,h⟩:=zb h
   obtain ⟨h1,g1⟩:=ho _ _ _ g.tl e
   exact zc7 ho k _ _ _ _ g1 (fun b hb=>by
    rcases List.mem_append.1 hb with hb | hb
    ·exact ha b hb
    ·simp at hb;rw [hb];exact h1) h
  ·cases h;exact ⟨ha,g⟩
theorem zbn {one:List Tk→PR Nd}(ho:Gd one) {ts t1:List Tk}{l:List Nd}(g:TkG ts) (h:yp one ts = .ok (l,t1)):(∀ a∈l,Zi a)∧TkG t1:=by
 obtain ⟨a,t,e,h⟩:=zb h
 obtain ⟨h1,g1⟩:=ho _ _ _ g e
 exact zc7 ho _ _ _ _ _ g1 (fun b hb=>by simp at hb;rw [hb];exact h1) h
theorem zdN {ts t1:List Tk}{ks:Sl Nd}(g:TkG ts) (h:wy ts = .ok (ks,t1)):(∀ a∈ks.xs,Zi a)∧TkG t1:=by
 obtain ⟨u,t,e,h⟩:=zb h
 have g1:=yb g e
 split at h
 ·cases h;exact ⟨nok,g1.tl⟩
 ·obtain ⟨l,t2,e2,h⟩:=zb h
  obtain ⟨u,t3,e3,h⟩:=zb h
  cases h
  obtain ⟨h1,g2⟩:=zbn XJ g1 e2
  exact ⟨h1,yb g2 e3⟩
theorem zlR:Gd Yj:=fun ts n t1 g h=>by
 obtain ⟨a,t,e,h⟩:=zb h
 obtain ⟨h0,g0⟩:=ym _ _ _ g e
 obtain ⟨q1,q2,q3⟩:=Zs h0
 split at h
 ·obtain ⟨k,t2,e2,h⟩:=zb h
  obtain ⟨u,t3,e3,h⟩:=zb h
  cases h
  obtain ⟨h1,g1⟩:=ym _ _ _ g0.tl e2
  exact ⟨zA q1 q2 (VG h1),yb g1 e3⟩
 ·cases h;exact ⟨zA q1 q2 nok,g0⟩
theorem zoJ {ts t1:List Tk}{s:ByteArray}(g:TkG ts) (h:WE ts = .ok (s,t1)):s.size≤1048576∧TkG t1:=by
 unfold WE at h
 split at h
 ·cases h;exact ⟨by rw [zg];simp,g.tl⟩
 ·split at h
  ·cases h;exact ⟨by rw [zg];simp,g.tl⟩
  ·split at h
   ·cases h;exact ⟨by rw [zg];simp,g.tl⟩
   ·cases h
theorem zhs:Gd YA:=fun ts n t1 g h=>by
 obtain ⟨a,t,e,h⟩:=zb h
 obtain ⟨op,t2,e2,h⟩:=zb h
 obtain ⟨b,t3,e3,h⟩:=zb h
 cases h
 obtain ⟨h0,g0⟩:=XJ _ _ _ g e
 obtain ⟨h1,g1⟩:=zoJ g0 e2
 obtain ⟨h2,g2⟩:=XJ _ _ _ g1 e3
 exact ⟨zA h1 yS (zc6 h0 h2),g2⟩
theorem Wl {k c d:Int}{a:ByteArray}{ts t1:List Tk}{n:Nd}(g:TkG ts) (ha:a.size≤1048576) (hc : -9223372036854775808≤c∧c≤9223372036854775807) (h:((Zn ts).bd fun m t=>(.ok (⟨k,a,c,d,⟨[m],true⟩⟩,t):PR Nd)) = .ok (n,t1)):Zi n∧TkG t1:=by
 obtain ⟨m,t,e,h⟩:=zb h
 cases h
 obtain ⟨h0,g0⟩:=ym _ _ _ g e
 exact ⟨zA ha hc (VG h0),g0⟩
theorem znu:Gd Xn:=fun ts n t1 g h=>by
 unfold Xn at h
 split at h
 ·cases h;exact ⟨zA g.hd.1 yS nok,g.tl⟩
 ·split at h
  ·cases h;exact ⟨zA g.hd.1 yS nok,g.tl⟩
  ·split at h
   ·exact Wl g.tl g.hd.1 yS h
   ·split at h
    ·exact Wl g.tl g.hd.1 yS h
    ·split at h
     ·exact Wl g.tl g.hd.1 yS h
     ·cases h
theorem Wa {l r:List Nd}(h:∀ a∈l,Zi a) (k:∀ a∈r,Zi a):∀ a∈l++r,Zi a:=fun a ha=>by
 rcases List.mem_append.1 ha with ha | ha
 ·exact h a ha
 ·exact k a ha
theorem zaP {n:Nd}(h:Zi n):∀ a∈[n],Zi a:=fun a ha=>by simp at ha;rw [ha];exact h
theorem zoK (a:Int):Gd (Vx a):=fun ts n t1 g h=>by
 obtain ⟨m,t,e,h⟩:=zb h
 obtain ⟨s,t2,e2,h⟩:=zb h
 obtain ⟨ks,t3,e3,h⟩:=zb h
 obtain ⟨ks2,t4,e4,h⟩:=zb h
 obtain ⟨u,t5,e5,h⟩:=zb h
 cases h
 obtain ⟨h0,g0⟩:=ym _ _ _ g e
 obtain ⟨q1,q2,q3⟩:=Zs h0
 obtain ⟨h1,g1⟩:=znu _ _ _ g0 e2
 have h3:(∀ a∈ks,Zi a)∧TkG t3:=by
  split at e3
  ·obtain ⟨l,t6,e6,e7⟩:=zb e3
   obtain ⟨u,t7,e7,e8⟩:=zb e7
   cases e8
   obtain ⟨h6,g6⟩:=zbn zlR g1.tl e6
   exact ⟨Wa (zaP h1) h6,yb g6 e7⟩
  ·cases e3;exact ⟨zaP h1,g1⟩
 have h4:(∀ a∈ks2,Zi a)∧TkG t4:=by
  split at e4
  ·obtain ⟨l,t6,e6,e7⟩:=zb e4
   cases e7
   obtain ⟨h6,g6⟩:=zbn zhs h3.2.tl e6
   exact ⟨Wa h3.1 h6,g6⟩
  ·cases e4;exact h3
 exact ⟨zA q1 q2 h4.1,yb h4.2 e5⟩
theorem zht:Gd YB:=fun ts n t1 g h=>by
 unfold YB at h
 split at h
 ·cases h;exact ⟨zA g.hd.1 yS nok,g.tl⟩
 ·split at h
  ·exact Wl g.tl g.hd.1 yS h
  ·obtain ⟨u,t,e,h⟩:=zb h
   have g0:=yb g e
   split at h
   ·exact Wl g0.tl (by rw [zg];simp) yS h
   ·exact Wl g0 g.hd.1 yS h
theorem zlS:Gd YC:=fun ts n t1 g h=>by
 obtain ⟨m,t,e,h⟩:=zb h
 obtain ⟨s,t2,e2,h⟩:=zb h
 obtain ⟨k,t3,e3,h⟩:=zb h
 cases h
 obtain ⟨h0,g0⟩:=ym _ _ _ g e
 obtain ⟨q1,q2,q3⟩:=Zs h0
 obtain ⟨h2,g2⟩:=zht _ _ _ (yb g0 e2) e3
 exact ⟨zA q1 q2 (VG h2),g2⟩
theorem zmG (k:Int):Gd (atP k):=fun ts n t1 g h=>by
 obtain ⟨m,t,e,h⟩:=zb h
 obtain ⟨s,t2,e2,h⟩:=zb h
 obtain ⟨v,t3,e3,h⟩:=zb h
 obtain ⟨u,t4,e4,h⟩:=zb h
 cases h
 obtain ⟨h0,g0⟩:=ym _ _ _ g e
 obtain ⟨q1,q2,q3⟩:=Zs h0
 obtain ⟨r,g3⟩:=XI (.inl rfl) (yb g0 e2) e3
 exact ⟨zA q1 r nok,yb g3 e4⟩
theorem znv:Gd yZ:=fun ts n t1 g h=>by
 unfold yZ at h
 split at h
 ·obtain ⟨a,t,e,h⟩:=zb h
  cases h
  obtain ⟨r,g1⟩:=XI (.inl rfl) g.tl e
  exact ⟨zA Xv r nok,g1⟩
 split at h
 ·obtain ⟨a,t,e,h⟩:=zb h
  cases h
  obtain ⟨h0,g0⟩:=ym _ _ _ g.tl e
  exact ⟨zA (Zs h0).1 yS nok,g0⟩
 split at h
 ·split at h
  ·obtain ⟨a,t,e,h⟩:=zb h
   cases h
   obtain ⟨h0,g0⟩:=ym _ _ _ g.tl.tl e
   exact ⟨zA (Zs h0).1 yS nok,g0⟩
  ·obtain ⟨a,t,e,h⟩:=zb h
   cases h
   obtain ⟨h0,g0⟩:=ym _ _ _ g.tl e
   exact ⟨zA (Zs h0).1 yS nok,g0⟩
 split at h
 ·exact XJ _ _ _ g h
 obtain ⟨m,t,e,h⟩:=zb h
 obtain ⟨h0,g0⟩:=ym _ _ _ g e
 obtain ⟨q1,q2,q3⟩:=Zs h0
 split at h
 ·obtain ⟨ks,t2,e2,h⟩:=zb h
  cases h
  obtain ⟨h1,g1⟩:=zdN g0 e2
  exact ⟨zA q1 q2 h1,g1⟩
 split at h
 ·obtain ⟨a,t2,e2,h⟩:=zb h
  obtain ⟨u,t3,e3,h⟩:=zb h
  cases h
  obtain ⟨h1,g1⟩:=XJ _ _ _ g0.tl e2
  exact ⟨zA q1 q2 (VG h1),yb g1 e3⟩
 split at h
 ·obtain ⟨a,t2,e2,h⟩:=zb h
  cases h
  obtain ⟨h1,g1⟩:=ym _ _ _ g0.tl e2
  exact ⟨zA Xv yS (zc6 h0 h1),g1⟩
 split at h
 ·obtain ⟨a,t2,e2,h⟩:=zb h
  cases h
  obtain ⟨h1,g1⟩:=ym _ _ _ g0.tl e2
  exact ⟨zA Xv yS (zc6 h0 h1),g1⟩
 ·exact zhr h0 _ _ _ g0 h
theorem zlT {m:Nd}(hm:Zi m):Gd (xc m):=fun ts n t1 g h=>by
 obtain ⟨q1,q2,q3⟩:=Zs hm
 unfold xc at h
 split at h
 ·obtain ⟨ks,t2,e2,h⟩:=zb h
  cases h
  obtain ⟨h1,g1⟩:=zdN g e2
  exact ⟨zA Xv yS (VG (zA q1 q2 h1)),g1⟩
 split at h
 ·obtain ⟨a,t2,e2,h⟩:=zb h
  obtain ⟨u,t3,e3,h⟩:=zb h
  obtain ⟨u,t4,e4,h⟩:=zb h
  obtain ⟨b,t5,e5,h⟩:=zb h
  cases h
  obtain ⟨h1,g1⟩:=XJ _ _ _ g.tl e2
  obtain ⟨h2,g2⟩:=XJ _ _ _ (yb (yb g1 e3) e4) e5
  exact ⟨zA q1 q2 (zc6 h1 h2),g2⟩
 ·obtain ⟨u,t4,e4,h⟩:=zb h
  obtain ⟨b,t5,e5,h⟩:=zb h
  cases h
  obtain ⟨h1,g1⟩:=znv _ _ _ (yb g e4) e5
  exact ⟨zA q1 q2 (VG h1),g1⟩
theorem wO {m:Nd}(hm:Zi m):Gd (Xs m):=fun ts n t1 g h=>by
 obtain ⟨u,t,e,h⟩:=zb h
 cases h;exact ⟨hm,yb g e⟩
theorem zex {blk:List Tk→PR Nd}(hb:Gd blk) (k a:Int):Gd (xL blk k a):=fun ts n t1 g h=>by
 obtain ⟨m,t,e,h⟩:=zb h
 obtain ⟨b,t2,e2,h⟩:=zb h
 cases h
 obtain ⟨h0,g0⟩:=zhs _ _ _ g e
 obtain ⟨q1,q2,q3⟩:=Zs h0
 obtain ⟨h1,g1⟩:=hb _ _ _ g0 e2
 exact ⟨zA q1 q2 (Wa q3 (zaP h1)),g1⟩
theorem znw {blk:List Tk→PR Nd}(hb:Gd blk):Gd (ZQ blk):=fun ts n t1 g h=>by
 unfold ZQ at h
 split at h
 ·obtain ⟨a,t,e,h⟩:=zb h
  obtain ⟨h0,g0⟩:=ym _ _ _ g.tl e
  obtain ⟨q1,q2,q3⟩:=Zs h0
  exact wO (zA q1 q2 nok) _ _ _ g0 h
 split at h
 ·obtain ⟨a,t,e,h⟩:=zb h
  obtain ⟨h0,g0⟩:=zmG _ _ _ _ g.tl e
  obtain ⟨q1,q2,q3⟩:=Zs h0
  exact wO (zA q1 q2 nok) _ _ _ g0 h
 split at h
 ·obtain ⟨a,t,e,h⟩:=zb h
  obtain ⟨h0,g0⟩:=zmG _ _ _ _ g.tl e
  obtain ⟨q1,q2,q3⟩:=Zs h0
  exact wO (zA q1 q2 nok) _ _ _ g0 h
 split at h
 ·obtain ⟨a,t,e,h⟩:=zb h
  obtain ⟨h0,g0⟩:=zex hb _ _ _ _ _ g.tl e
  obtain ⟨q1,q2,q3⟩:=Zs h0
  split at h
  ·obtain ⟨b,t2,e2,h⟩:=zb h
   cases h
   obtain ⟨h1,g1⟩:=hb _ _ _ g0.tl e2
   exact ⟨zA q1 q2 (Wa q3 (zaP h1)),g1⟩
  ·cases h
   exact ⟨zA q1 q2 (Wa q3 (zaP (zA Xv yS nok))),g0⟩
 split at h
 ·exact zex hb _ _ _ _ _ g.tl h
 split at h
 ·split at h
  ·exact wO (zA Xv yS nok) _ _ _ g.tl h
  ·obtain ⟨a,t,e,h⟩:=zb h
   obtain ⟨h0,g0⟩:=XJ _ _ _ g.tl e
   exact wO (zA Xv yS (VG h0)) _ _ _ g0 h
 split at h
 ·exact wO (zA Xv yS nok) _ _ _ g.tl h
 split at h
 ·obtain ⟨a,t,e,h⟩:=zb h
  obtain ⟨ks,t2,e2,h⟩:=zb h
  obtain ⟨h0,g0⟩:=ym _ _ _ g.tl e
  obtain ⟨q1,q2,q3⟩:=Zs h0
  obtain ⟨h1,g1⟩:=zdN g0 e2
  exact wO (zA q1 q2 h1) _ _ _ g1 h
 ·obtain ⟨a,t,e,h⟩:=zb h
  obtain ⟨m,t2,e2,h⟩:=zb h
  obtain ⟨h0,g0⟩:=ym _ _ _ g e
  obtain ⟨h1,g1⟩:=zlT h0 _ _ _ g0 e2
  exact wO h1 _ _ _ g1 h
theorem zfR {one:List Tk→PR Nd}(ho:Gd one):∀ (k:Nat) (acc:List Nd) (ts:List Tk) (l:List Nd) (t1:List Tk),TkG ts→(∀ a∈acc,Zi a)→Yk one k acc ts = .ok (l,t1)→(∀ a∈l,Zi a)∧TkG t1
 |0,acc,ts,l,t1,g,ha,h=>by cases h
 |k+1,acc,ts,l,t1,g,ha,h=>by
  unfold Yk at h
  split at h
  ·cases h;exact ⟨ha,g.tl⟩
  ·obtain ⟨a,t,e,h⟩:=zb h
   obtain ⟨h1,g1⟩:=ho _ _ _ g e
   exact zfR ho k _ _ _ _ g1 (Wa ha (zaP h1)) h
theorem zfS:∀ r,Gd (yE r)
 |0=>fun ts n t1 g h=>by unfold yE at h;split at h <;> cases h
 |r+1=>fun ts n t1 g h=>by
  obtain ⟨u,t,e,h⟩:=zb (show ((Zc [123] ts).bd _)=_ from h)
  obtain ⟨l,t2,e2,h⟩:=zb h
  cases h
  obtain ⟨h1,g1⟩:=zfR (znw (zfS r)) _ _ _ _ _ (yb g e) (fun a ha=>by cases ha) e2
  exact ⟨zA Xv yS h1,g1⟩
theorem zpI (a:Int):Gd (fnP a):=fun ts n t1 g h=>by
 obtain ⟨m,t,e,h⟩:=zb h
 obtain ⟨u,t2,e2,h⟩:=zb h
 obtain ⟨ps,t3,e3,h⟩:=zb h
 obtain ⟨u,t4,e4,h⟩:=zb h
 obtain ⟨ret,t5,e5,h⟩:=zb h
 obtain ⟨b,t6,e6,h⟩:=zb h
 cases h
 obtain ⟨h0,g0⟩:=ym _ _ _ g e
 obtain ⟨q1,q2,q3⟩:=Zs h0
 have g2:=yb g0 e2
 have h3:(∀ a∈ps,Zi a)∧TkG t3:=by
  split at e3
  ·cases e3;exact ⟨fun a ha=>(by cases ha),g2⟩
  ·exact zbn zlS g2 e3
 have g4:=yb h3.2 e4
 have h5:Zi ret∧TkG t5:=by
  split at e5
  ·split at e5
   ·cases e5
   ·exact zht _ _ _ g4.tl e5
  ·cases e5;exact ⟨zA Xv yS nok,g4⟩
 obtain ⟨h6,g6⟩:=zfS _ _ _ _ h5.2 e6
 exact ⟨zA q1 q2 (Wa h3.1 (zc6 (s:=true) h5.1 h6)),g6⟩
theorem zb8:∀ (k:Nat) (acc:List Nd) (ts:List Tk) (l:List Nd) (t1:List Tk),TkG ts→(∀ a∈acc,Zi a)→yF k acc ts = .ok (l,t1)→(∀ a∈l,Zi a)∧TkG t1
 |0,acc,ts,l,t1,g,ha,h=>by cases h
 |k+1,acc,ts,l,t1,g,ha,h=>by
  unfold yF at h
  split at h
  ·cases h;exact ⟨ha,g⟩
  split at h
  ·obtain ⟨a,t,e,h⟩:=zb h
   obtain ⟨h1,g1⟩:=zpI _ _ _ _ g.tl e
   exact zb8 k _ _ _ _ g1 (Wa ha (zaP h1)) h
  ·obtain ⟨u,t,e,h⟩:=zb h
   obtain ⟨a,t2,e2,h⟩:=zb h
   obtain ⟨h1,g1⟩:=zoK _ _ _ _ (yb g e) e2
   exact zb8 k _ _ _ _ g1 (Wa ha (zaP h1)) h
end Go.Px
namespace Go.Px
set_option linter.unusedVariables false
set_option linter.unusedSimpArgs false
theorem zaQ:∀ (f at_:Nat) (l:List UInt8) (ts:List Tk),xX f at_ l = .inr ts→∀ t∈ts,t.Text_.size≤l.length
 |0,at_,l,ts,h=>by cases h;simp
 |f+1,at_,l,ts,h=>by
  unfold xX at h
  split at h
  ·cases h;simp
  split at h
  ·rename_i n hn
   intro t ht
   have:=zaQ f _ _ ts h t ht
   rw [List.length_drop] at this
   omega
  ·cases h
  ·rename_i k n v hn
   split at h
   ·cases h
   ·rename_i ts' hts
    cases h
    intro t ht
    rcases List.mem_cons.1 ht with rfl | ht
    ·show (lit (l.take n)).size≤_
     rw [zg,List.length_take]
     omega
    ·have:=zaQ f _ _ ts' hts t ht
     rw [List.length_drop] at this
     omega
theorem zkx {s:ByteArray}:TkG (yQ s).2.2.xs:=by
 unfold yQ
 by_cases hs:16384 < s.size
 ·rw [if_pos hs];intro t ht;cases ht
 ·rw [if_neg hs]
  cases e:YI 0 (bs s) with
  |inl x=>intro t ht;cases ht
  |inr ts=>
   intro t ht
   simp only [List.mem_append,List.mem_singleton] at ht
   rcases ht with ht | rfl
   ·have h1:=zaQ _ _ _ _ e t ht
    have h2:=(VA _ _ _ _ e t ht).1
    rw [Zu] at h1
    exact ⟨by omega,h2.1,by omega⟩
   ·exact ⟨Xv,by simp,by simp⟩
theorem zaR:Zi VB∧z8 VB≤4096:=⟨zA Xv yS nok,by rw [zk];simp [VB,zi]⟩
theorem Wb (s:ByteArray):Zi (yH s).1∧z8 (yH s).1≤4096:=by
 unfold yH
 by_cases h:(yQ s).2.1≠0
 ·rw [if_pos h];exact zaR
 ·rw [if_neg h]
  split
  ·exact zaR
  ·rename_i ks r e
   split
   ·exact zaR
   ·rename_i hsz
    have:=(zb8 _ _ _ _ _ zkx (fun a ha=>by cases ha) e).1
    refine ⟨zA Xv yS this,?_⟩
    rw [zk]
    show zi (mkS ks).xs+1≤_
    unfold mkS
    simp only
    omega
theorem X5 (s:ByteArray):q23 (yH s).1=some (lit (shN (yH s).1 0)):=
 znt (Wb s).1 (Nat.le_trans (Wb s).2 (by omega))
end Go.Px
namespace Go.Px
set_option linter.unusedVariables false
set_option linter.unusedSimpArgs false
theorem zoL:∀ x:Fin 10,IntKind.u8.wrap (48+IntKind.u8.wrap (x.val:Int))=((48+x.val:Nat):Int)∧UInt8.ofNat ((48+x.val:Nat):Int).toNat=UInt8.ofNat (48+x.val):=by decide +kernel
theorem zky (u:Nat):XU [IntKind.u8.wrap (48+IntKind.u8.wrap (Int.tmod (u:Int) 10))]=lit [UInt8.ofNat (48+u % 10)]:=by
 have e:Int.tmod (u:Int) 10=((u % 10:Nat):Int):=rfl
 have h:=zoL ⟨u % 10,Nat.mod_lt _ (by omega)⟩
 simp only at h
 rw [e,h.1]
 show ByteArray.push ByteArray.empty _=_
 rw [h.2]
 rfl
theorem zoM {u:Nat}(h:u < 18446744073709551616):IntKind.u64.wrap (u:Int)=(u:Int):=by
 simp only [IntKind.wrap,IntKind.bits,IntKind.signed]
 simp
 omega
theorem zfT {v:Int}:∀ (n u:Nat) (acc:List UInt8),u < 10 ^ (n+1)→n≤19→acc.length+n≤100→u < 18446744073709551616→
    lpO q1q (v,(u:Int),lit acc)=some (v,lit (Lib.decDigits u++acc)):=by
  intro n
  induction n with
  |zero=>
    intro u acc h hn ha hu
    have h:u < 10:=h
    rw [zQ]
    unfold q1q
    have ed:Int.tdiv (u:Int) 10=((u / 10:Nat):Int):=rfl
    have e0:u / 10=0:=by omega
    have em:u % 10=u:=by omega
    dsimp only
    rw [zky,ed,e0,zz,zg,zg,zJ (by simp;omega),Lib.decDigits,dif_pos h,em]
    simp [IntKind.wrap,IntKind.bits,IntKind.signed]
  |succ n ih=>
    intro u acc h hn ha hu
    rw [zQ]
    generalize hG:lpO q1q=G at ih ⊢
    unfold q1q
    have ed:Int.tdiv (u:Int) 10=((u / 10:Nat):Int):=rfl
    dsimp only
    rw [zky,ed,zz,zg,zg,zJ (by simp;omega),zoM (by omega),Lib.decDigits]
    by_cases hs:u < 10
    · have e0:u / 10=0:=by omega
      have em:u % 10=u:=by omega
      rw [dif_pos hs,e0,em]
      simp
    · have e0:¬ (((u / 10:Nat):Int)=0):=by omega
      rw [dif_neg hs,if_neg (by simpa using e0)]
      dsimp only [Option.bind_some]
      have hd:u / 10 < 10 ^ (n+1):=by
        rw [Nat.div_lt_iff_lt_mul (by omega)]
        rw [Nat.pow_succ] at h
        exact h
      rw [ih (u / 10) _ hd (by omega) (by simp;omega) (by omega)]
      simp
theorem zpJ {v:Int}(h : -9223372036854775808≤v∧v≤9223372036854775807):q1z v=some (lit (Lib.itoa v)):=by
  have hl:=WH h
  unfold q1z q4b
  by_cases hv:v < 0
  · have e:IntKind.u64.wrap (0 - IntKind.u64.wrap v)=((v.natAbs:Nat):Int):=by
      simp only [IntKind.wrap,IntKind.bits,IntKind.signed]
      simp
      omega
    have hd:=zfT (v:=v) 19 v.natAbs [] (by have:(10:Nat) ^ (19+1)=100000000000000000000:=by decide
                                           omega) (by omega) (by simp) (by omega)
    have hi:Lib.itoa v=45::Lib.decDigits v.natAbs:=by unfold Lib.itoa;rw [if_pos hv]
    rw [hi] at hl ⊢
    simp only [List.length_cons] at hl
    rw [if_pos (by simpa using hv),e,Option.bind_some]
    dsimp only
    rw [hd,Option.bind_some]
    dsimp only
    rw [if_pos (by simpa using hv),List.append_nil,zg,zJ (by omega),zz]
    rfl
  · have e:IntKind.u64.wrap v=((v.toNat:Nat):Int):=by
      simp only [IntKind.wrap,IntKind.bits,IntKind.signed]
      simp
      omega
    have hd:=zfT (v:=v) 19 v.toNat [] (by have:(10:Nat) ^ (19+1)=100000000000000000000:=by decide
                                          omega) (by omega) (by simp) (by omega)
    have hi:Lib.itoa v=Lib.decDigits v.toNat:=by unfold Lib.itoa;rw [if_neg hv]
    rw [hi]
    rw [if_neg (by simpa using hv),e,Option.bind_some]
    dsimp only
    rw [hd,Option.bind_some]
    dsimp only
    rw [if_neg (by simpa using hv),List.append_nil]
theorem zgL (d:Nat):Za (d+1)=Za d++[32,32,32,32]:=by
 unfold Za
 rw [show 4 * (d+1)=4 * d+4 by omega,← List.replicate_append_replicate]
 rfl
theorem zpK {d:Nat}(hd:d≤30000):∀ (n i:Nat),n+i=d→lpO q1h ((d:Int),lit (Za i),(i:Int))=some (lit (Za d)):=by
 intro n
 induction n with
 |zero=>
  intro i hi
  have hi:i=d:=by omega
  subst hi
  rw [zQ]
  unfold q1h
  simp
 |succ n ih=>
  intro i hi
  have ih:=ih (i+1) (by omega)
  rw [zgL] at ih
  have hl:=Y5 i
  rw [zQ]
  generalize hG:lpO q1h=G at ih ⊢
  unfold q1h
  dsimp only
  rw [if_pos (by simp;omega),zg,zJ (by omega),zz,YM (by omega)]
  exact ih
end Go.Px
namespace Go.Px
set_option linter.unusedVariables false
set_option linter.unusedSimpArgs false
abbrev RNd:=qa
mutual
def toR:Nd→RNd
 |⟨k,t,v,p,ks⟩=>⟨k,t,v,p,zoN ks⟩
def zoN:Sl Nd→Sl RNd
 |⟨xs,_⟩=>mkS (zfU xs)
def zfU:List Nd→List RNd
 |[]=>[]
 |a::r=>toR a::zfU r
end
theorem zfV:∀ l:List Nd,zfU l=l.map toR
 |[]=>by simp [zfU]
 |a::r=>by simp [zfU,zfV r]
theorem WK (n:Nd):toR n=⟨n.Kind_,n.Text_,n.Num_,n.At_,mkS (n.Kids_.xs.map toR)⟩:=by
 obtain ⟨k,t,v,p,⟨xs,nn⟩⟩:=n
 simp [toR,zoN,zfV]
theorem zfW {h:Nd→Option ((Int×ByteArray×Int×Int)×Sl RNd)}{s:Sl Nd}{z q:Int×ByteArray×Int×Int}(hk:∀ a∈s.xs,h a=some ((a.Kind_,a.Text_,a.Num_,a.At_),mkS (a.Kids_.xs.map toR))) (hlen:s.xs.length≤30000):∀ (n i:Nat),n+i=s.xs.length→
    lpO (q18 h) (s,s.len,(i:Int),z,q,mkS ((s.xs.take i).map toR))=some (z,q,mkS (s.xs.map toR)):=by
  intro n
  induction n with
  |zero=>
    intro i hi
    have hi:i=s.xs.length:=by omega
    subst hi
    rw [zQ]
    unfold q18
    dsimp only
    rw [if_neg (by simp [Sl.len]),List.take_length]
    rfl
  |succ n ih=>
    intro i hi
    obtain ⟨x,hx,hd⟩:=yR.drop_cons' (l:=s.xs) (i:=i) (by omega)
    have ih:=ih (i+1) (by omega)
    rw [wz.take_succ'' hx] at ih
    rw [zQ]
    generalize hG:lpO (q18 h)=G at ih ⊢
    unfold q18
    dsimp only
    rw [if_pos (by simp [Sl.len];omega),yX,hx,Option.bind_some,zW,hk x (List.mem_of_getElem? hx),Option.bind_some,XF (by simp [mkS];omega) (by simp [mkS];omega),Option.bind_some,YM (by omega)]
    dsimp only [Option.bind_some]
    rw [← ih]
    have ne:∀ (l:List RNd) (y:RNd),(l++[y]).isEmpty=false:=fun l y=>by cases l <;> rfl
    simp [mkS,WK x,ne]
theorem zgM:∀ (f:Nat) (n:Nd),z8 n≤f→z8 n≤5000→q10 f n=some ((n.Kind_,n.Text_,n.Num_,n.At_),mkS (n.Kids_.xs.map toR)):=by
 intro f
 induction f with
 |zero=>intro n h;have:=zk n;omega
 |succ f ih=>
  intro n hf hs
  have e:=zk n
  have hl:=w9 n.Kids_.xs
  have hlp:=zfW (h:=q10 f) (s:=n.Kids_) (z:=(0,lit [],0,0)) (q:=(n.Kind_,n.Text_,n.Num_,n.At_)) (fun a ha=>by
   have:=Yb ha
   exact ih a (by omega) (by omega)) (by omega) n.Kids_.xs.length 0 (by omega)
  have hlp:lpO (q18 (q10 f)) (n.Kids_,n.Kids_.len,0,(0,lit [],0,0),(n.Kind_,n.Text_,n.Num_,n.At_),Sl.mk [] false)=_:=hlp
  show q19 (q10 f) n=_
  unfold q19
  rw [hlp]
  rfl
end Go.Px
