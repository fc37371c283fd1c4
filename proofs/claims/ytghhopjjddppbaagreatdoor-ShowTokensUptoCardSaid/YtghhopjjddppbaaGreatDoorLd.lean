/- Part Ld: Px03RA Px03RB Px03RC Px03RD Px03RE Px03RF Px0 -/
import Derived.Test.YtghhopjjddppbaaGreatDoorLc
import Derived.Test.YtghhopjjddppbaaGreatDoorLb
namespace Go.Px
set_option linter.unusedVariables false
set_option linter.unusedSimpArgs false
abbrev TQ:=Int×List UInt8×Int
def tq (t:Tk):TQ:=(t.Kind_,bs t.Text_,t.Num_)
def qOf (x:(Nat×Int)⊕List Tk):Option (List TQ):=match x with | .inl _=>none | .inr ts=>some (ts.map tq)
theorem zc8:∀ (m:Nat) (l:List UInt8) (a b:Nat),l.length≤m→qOf (YI a l)=qOf (YI b l)
 |0,l,a,b,h=>by
  have:l=[]:=List.eq_nil_of_length_eq_zero (by omega)
  subst this;rfl
 |m+1,l,a,b,h=>by
  by_cases hne:l=[]
  ·subst hne;rfl
  have hp:=Wi hne
  rw [wL a hne,wL b hne]
  cases hx:nxt l with
  |err e=>rfl
  |skip n=>
   rw [hx] at hp
   simp only [Xr] at hp
   exact zc8 m _ _ _ (by rw [List.length_drop];omega)
  |tok k n v=>
   rw [hx] at hp
   simp only [Xr] at hp
   have ih:=zc8 m (l.drop n) (a+n) (b+n) (by rw [List.length_drop];omega)
   simp only
   cases h1:YI (a+n) (l.drop n) <;> cases h2:YI (b+n) (l.drop n) <;> rw [h1,h2] at ih <;> simp only [qOf] at ih ⊢
   ·cases ih
   ·cases ih
   ·simp only [Option.some.injEq] at ih ⊢
    simp only [List.map_cons,ih,tq]
def yl (l:List UInt8):Option (List TQ):=qOf (YI 0 l)
theorem zlU:yl []=some []:=rfl
theorem XL {l:List UInt8}(h:l≠[]):yl l=match nxt l with
    | .skip n=>yl (l.drop n)
    | .err _=>none
    | .tok k n v=>(yl (l.drop n)).map fun q=>(k,l.take n,v)::q:=by
  unfold yl
  rw [wL 0 h]
  cases hx:nxt l with
  |err e=>rfl
  |skip n=>exact zc8 _ _ _ _ (Nat.le_refl _)
  |tok k n v=>
    simp only
    rw [← zc8 _ (l.drop n) (0+n) 0 (Nat.le_refl _)]
    cases YI (0+n) (l.drop n) <;> rfl
def zlV (c:UInt8):Bool:= !isW c && (decide (c≠61) && decide (c≠62))
def vj:List UInt8→Bool
 |[]=>false
 |c::_=>zlV c
def zaS (r:List UInt8):Prop:=r=[]∨vj r=true
theorem zaS.app {u:List UInt8}(h:vj u=true) (r:List UInt8):zaS (u++r) :=.inr (by
 cases u with
 |nil=>cases h
 |cons c u=>exact h)
def cl:Bool→List UInt8→Option Bool
 |p,[]=>some p
 |p,c::r=>if c=63∨c=9∨(c=10∧p=true) then none else cl (decide (c=10)) r
theorem wP:∀ (u w:List UInt8) (p:Bool),cl p (u++w)=(cl p u).bind fun q=>cl q w
 |[],w,p=>rfl
 |c::u,w,p=>by
  rw [List.cons_append,cl,cl]
  split
  ·rfl
  ·exact wP u w _
def Cw (w:List UInt8):Prop:=∀ p,cl p w=some (p && w.isEmpty)
theorem Cw.app {u w:List UInt8}(a:Cw u) (b:Cw w):Cw (u++w):=fun p=>by
 rw [wP,a,Option.bind_some,b]
 cases u <;> cases p <;> rfl
structure LO (w:List UInt8) (k:List TQ):Prop where
 lo:∀ r,yl (w++r)=(yl r).map fun q=>k++q
 cw:Cw w
structure LX (w:List UInt8) (k:List TQ):Prop where
 lx:∀ r,zaS r→yl (w++r)=(yl r).map fun q=>k++q
 cw:Cw w
theorem LO.x {w:List UInt8}{k:List TQ}(h:LO w k):LX w k:=⟨fun r _=>h.lo r,h.cw⟩
theorem LO.nil:LO [] []:=⟨fun r=>by cases h:yl r <;> simp [h],fun p=>by simp [cl]⟩
theorem LO.app {u w:List UInt8}{k l:List TQ}(a:LO u k) (b:LO w l):LO (u++w) (k++l):=⟨fun r=>by
 rw [List.append_assoc,a.lo,b.lo]
 cases yl r <;> simp,a.cw.app b.cw⟩
theorem LO.appx {u w:List UInt8}{k l:List TQ}(a:LO u k) (b:LX w l):LX (u++w) (k++l):=⟨fun r hr=>by
 rw [List.append_assoc,a.lo,b.lx r hr]
 cases yl r <;> simp,a.cw.app b.cw⟩
theorem LX.app {u w:List UInt8}{k l:List TQ}(a:LX u k) (b:LO w l) (h:vj w=true):LO (u++w) (k++l):=⟨fun r=>by
 rw [List.append_assoc,a.lx _ (zaS.app h r),b.lo]
 cases yl r <;> simp,a.cw.app b.cw⟩
theorem LX.appx {u w:List UInt8}{k l:List TQ}(a:LX u k) (b:LX w l) (h:vj w=true):LX (u++w) (k++l):=⟨fun r hr=>by
 rw [List.append_assoc,a.lx _ (zaS.app h r),b.lx r hr]
 cases yl r <;> simp,a.cw.app b.cw⟩
theorem cw1 {c:UInt8}(h:c≠63) (h2:c≠9) (h3:c≠10):Cw [c]:=fun p=>by
 simp only [cl]
 rw [if_neg (by simp [h,h2,h3])]
 simp [h3]
theorem Cw.all {w:List UInt8}(h:∀ c∈w,c≠63∧c≠9∧c≠10):Cw w:=by
 induction w with
 |nil=>exact fun p=>by simp [cl]
 |cons c w ih=>
  obtain ⟨a,b,d⟩:=h c (by simp)
  exact (cw1 a b d).app (ih fun x hx=>h x (by simp [hx]))
theorem Z3:LO [32] []:=⟨fun r=>by
 rw [XL (by simp)]
 have:nxt ([32]++r) = .skip 1:=by simp [nxt]
 rw [this]
 simp,cw1 (by decide) (by decide) (by decide)⟩
theorem zdO (r:List UInt8):yl (10::r)=yl r:=by
 rw [XL (by simp)]
 have:nxt (10::r) = .skip 1:=by simp [nxt]
 rw [this]
 simp
theorem zfX {c:UInt8}{r:List UInt8}(h:[123,125,40,41,91,93,44,58,59,43,38,61,45,60].contains c=true):nxt (c::r)=xz (c::r):=by
 simp only [List.contains_cons,List.contains_nil,Bool.or_false,Bool.or_eq_true,beq_iff_eq] at h
 rcases h with h | h | h | h | h | h | h | h | h | h | h | h | h | h <;> subst h <;> simp [nxt,isD,isL]
theorem zaT {c:UInt8}{r:List UInt8}(h:[123,125,40,41,91,93,44,58,59,43,38,61,45,60].contains c=true) (h2:two (c::r)=false) (hs:sgn c=true):yl (c::r)=(yl r).map fun q=>(4,[c],0)::q:=by
 rw [XL (by simp),zfX h]
 have e:Yt (c::r)=1:=by
  unfold Yt
  rw [if_neg (by rw [h2];decide)]
  simp only
  rw [if_pos hs]
 unfold xz
 rw [if_neg (by omega),e]
 rfl
theorem Zd {c:UInt8}(h:[123,125,40,41,91,93,44,58,59,43,38].contains c=true):LO [c] [(4,[c],0)]:=by
 simp only [List.contains_cons,List.contains_nil,Bool.or_false,Bool.or_eq_true,beq_iff_eq] at h
 refine ⟨fun r=>?_,?_⟩
 ·rcases h with h | h | h | h | h | h | h | h | h | h | h <;> subst h <;> exact zaT (by decide) (by simp [two]) (by decide)
 ·rcases h with h | h | h | h | h | h | h | h | h | h | h <;> subst h <;> exact cw1 (by decide) (by decide) (by decide)
theorem zdP {c:UInt8}(h:[61,45,60].contains c=true):LX [c] [(4,[c],0)]:=by
 simp only [List.contains_cons,List.contains_nil,Bool.or_false,Bool.or_eq_true,beq_iff_eq] at h
 have key:∀ (d:UInt8) (r:List UInt8),zaS r→(d≠61∨d≠62)→two (d::r)=false:=fun d r hr _=>by
  unfold two
  cases r with
  |nil=>simp
  |cons x r=>
   rcases hr with hr | hr
   ·cases hr
   ·simp only [vj,zlV,Bool.and_eq_true,decide_eq_true_eq] at hr
    simp [hr.2.1,hr.2.2]
 refine ⟨fun r hr=>?_,?_⟩
 ·rcases h with h | h | h <;> subst h <;> exact zaT (by decide) (key _ r hr (by decide)) (by decide)
 ·rcases h with h | h | h <;> subst h <;> exact cw1 (by decide) (by decide) (by decide)
theorem zfY {a b:UInt8}(h:[a,b]=[45,62]∨[a,b]=[60,61]∨[a,b]=[61,61]):LO [a,b] [(4,[a,b],0)]:=by
 have e:∀ r,two (a::b::r)=true:=fun r=>by
  unfold two
  rcases h with h | h | h <;> simp at h <;> obtain ⟨rfl,rfl⟩:=h <;> simp
 refine ⟨fun r=>?_,?_⟩
 ·show yl (a::b::r)=_
  have hc:[123,125,40,41,91,93,44,58,59,43,38,61,45,60].contains a=true:=by
   rcases h with h | h | h <;> simp at h <;> obtain ⟨rfl,rfl⟩:=h <;> decide
  rw [XL (by simp),zfX hc]
  have s2:Yt (a::b::r)=2:=by unfold Yt;rw [if_pos (e r)]
  unfold xz
  rw [if_neg (by omega),s2]
  rfl
 ·rcases h with h | h | h <;> simp at h <;> obtain ⟨rfl,rfl⟩:=h <;> exact Cw.all (by decide)
theorem zb9 {p:UInt8→Bool}:∀ (w r:List UInt8),(∀ c∈w,p c=true)→(∀ c r',r=c::r'→p c=false)→ZS p (w++r)=w.length
 |[],r,_,h=>by
  cases r with
  |nil=>rfl
  |cons c r=>rw [List.nil_append,Yd,h c r rfl];rfl
 |c::w,r,hw,h=>by
  rw [List.cons_append,Yd,hw c (by simp),if_pos rfl,zb9 w r (fun x hx=>hw x (by simp [hx])) h]
  rfl
structure isWord (w:List UInt8):Prop where
 hd:∃ c r,w=c::r∧isL c=true
 all:∀ c∈w,isW c=true
 len:w.length≤16
theorem notW {c:UInt8}(h:isW c=true):c≠63∧c≠9∧c≠10:=by
 refine ⟨fun e=>?_,fun e=>?_,fun e=>?_⟩ <;> subst e <;> revert h <;> decide
theorem zaS.notW {r:List UInt8}(h:zaS r):∀ c r',r=c::r'→isW c=false:=fun c r' e=>by
 subst e
 rcases h with h | h
 ·cases h
 ·simp only [vj,zlV,Bool.and_eq_true,Bool.not_eq_true'] at h
  exact h.1
theorem zhu {w:List UInt8}(h:isWord w):LX w [(if xo w then 2 else 1,w,0)]:=by
 obtain ⟨⟨c,r,e,hc⟩,ha,hl⟩:=h
 refine ⟨fun q hq=>?_,Cw.all fun c hc=>notW (ha c hc)⟩
 have hn:=zb9 w q ha hq.notW
 have hc1:¬ (c.toNat=32∨c.toNat=10):=by
  simp only [isL,Bool.or_eq_true,Bool.and_eq_true,decide_eq_true_eq] at hc;omega
 have hc2:¬ c.toNat=35:=by
  simp only [isL,Bool.or_eq_true,Bool.and_eq_true,decide_eq_true_eq] at hc;omega
 have hc3:isD c=false:=by
  simp only [isL,isD,Bool.or_eq_true,Bool.and_eq_true,decide_eq_true_eq] at hc ⊢
  simp only [Bool.and_eq_false_imp,decide_eq_true_eq,decide_eq_false_iff_not];omega
 have hx:nxt (w++q)=Xh (w++q):=by
  subst e
  show (if _ then _ else if _ then _ else if _ then _ else if _ then _ else _)=_
  rw [if_neg hc1,if_neg hc2,hc3,if_neg (by decide),hc,if_pos rfl]
  rfl
 rw [XL (by subst e;simp),hx]
 unfold Xh
 have ht:(w++q).take w.length=w:=List.take_left' rfl
 have hd:(w++q).drop w.length=q:=List.drop_left' rfl
 rw [hn,if_neg (by omega),ht]
 simp only [ht,hd]
 rfl
theorem zfZ:∀ (l:List UInt8) (a:Nat) (c:UInt8),vh a (l++[c])=vh a l * 10+(c.toNat - 48)
 |[],a,c=>rfl
 |x::l,a,c=>zfZ l _ c
theorem zbo {n:Nat}(h:n < 10):(UInt8.ofNat (48+n)).toNat=48+n:=by
 have:∀ x:Fin 10,(UInt8.ofNat (48+x.val)).toNat=48+x.val:=by decide
 exact this ⟨n,h⟩
theorem zhv {n:Nat}(h:n < 10):isD (UInt8.ofNat (48+n))=true:=by
 unfold isD
 rw [zbo h]
 simp;omega
theorem zaU:∀ (m n:Nat),n≤m→yW (Lib.decDigits n)=n∧(∀ c∈Lib.decDigits n,isD c=true)∧∃ c r,Lib.decDigits n=c::r∧(0 < n→c≠48)∧(n=0→r=[])
 |0,n,h=>by
  have h0:n=0:=by omega
  subst h0
  rw [Lib.decDigits,dif_pos (by omega)]
  refine ⟨by decide,by decide,_,_,rfl,by omega,fun _=>rfl⟩
 |m+1,n,h=>by
  by_cases hs:n < 10
  ·rw [Lib.decDigits,dif_pos hs]
   refine ⟨?_,fun c hc=>?_,_,_,rfl,fun h0 e=>?_,fun _=>rfl⟩
   ·show 0 * 10+((UInt8.ofNat (48+n)).toNat - 48)=n
    rw [zbo hs];omega
   ·rw [List.mem_singleton.1 hc];exact zhv hs
   ·have:=congrArg UInt8.toNat e
    rw [zbo hs] at this
    have h48:(48:UInt8).toNat=48:=rfl
    omega
  ·obtain ⟨h1,h2,c,r,e,h3,h4⟩:=zaU m (n / 10) (by omega)
   rw [Lib.decDigits,dif_neg hs]
   refine ⟨?_,fun x hx=>?_,c,r++[UInt8.ofNat (48+n % 10)],by rw [e];rfl,fun _=>h3 (by omega),fun h0=>by omega⟩
   ·unfold yW at h1 ⊢
    rw [zfZ,h1,zbo (by omega)];omega
   ·rcases List.mem_append.1 hx with hx | hx
    ·exact h2 x hx
    ·rw [List.mem_singleton.1 hx];exact zhv (by omega)
theorem zpL {c:UInt8}(h:isD c=true):isW c=true:=by simp [isW,h]
theorem WL {n:Nat}(h:n≤1099511627776):LX (Lib.decDigits n) [(3,Lib.decDigits n,n)]:=by
 obtain ⟨h1,h2,c,r,e,h3,h4⟩:=zaU n n (Nat.le_refl _)
 generalize Lib.decDigits n=w at *
 refine ⟨fun q hq=>?_,Cw.all fun c hc=>notW (zpL (h2 c hc))⟩
 have hq':∀ c r',q=c::r'→isD c=false:=fun c r' e=>by
  have:=hq.notW c r' e
  simp only [isW,Bool.or_eq_false_iff] at this
  exact this.2
 have hn:=zb9 w q h2 hq'
 have hc:isD c=true:=h2 c (by rw [e];simp)
 have hc1:¬ (c.toNat=32∨c.toNat=10):=by
  simp only [isD,Bool.and_eq_true,decide_eq_true_eq] at hc;omega
 have hc2:¬ c.toNat=35:=by
  simp only [isD,Bool.and_eq_true,decide_eq_true_eq] at hc;omega
 have hx:nxt (w++q)=wx (w++q):=by
  subst e
  show (if _ then _ else if _ then _ else if _ then _ else if _ then _ else _)=_
  rw [if_neg hc1,if_neg hc2,hc,if_pos rfl]
  rfl
 have ht:(w++q).take w.length=w:=List.take_left' rfl
 have hd:(w++q).drop w.length=q:=List.drop_left' rfl
 have hb:Xg (w++q)=false:=by
  unfold Xg
  rw [hn,ht,h1,Bool.or_eq_false_iff,Bool.or_eq_false_iff,Bool.and_eq_false_iff]
  refine ⟨by simp;omega,?_,?_⟩
  ·rw [e]
   by_cases h0:n=0
   ·left;rw [h4 h0];simp
   ·right
    have:=h3 (by omega)
    simpa using this
  ·rw [List.getElem?_append_right (Nat.le_refl _),Nat.sub_self]
   cases q with
   |nil=>rfl
   |cons x q=>
    have:=hq.notW x q rfl
    simp only [isW,Bool.or_eq_false_iff] at this
    exact this.1
 rw [XL (by subst e;simp),hx]
 unfold wx
 rw [hb,if_neg (by decide),hn,ht,h1]
 simp only [ht,hd]
 rfl
end Go.Px
namespace Go.Px
set_option linter.unusedVariables false
set_option linter.unusedSimpArgs false
mutual
def zN:Nd→Nd
 |⟨k,t,v,_,ks⟩=>⟨k,t,v,0,zS ks⟩
def zS:Sl Nd→Sl Nd
 |⟨xs,_⟩=>⟨zL xs,true⟩
def zL:List Nd→List Nd
 |[]=>[]
 |a::r=>zN a::zL r
end
theorem zkz:∀ l:List Nd,zL l=l.map zN
 |[]=>by simp [zL]
 |a::r=>by simp [zL,zkz r]
theorem ZH (k:Int) (t:ByteArray) (v p:Int) (xs:List Nd) (b:Bool):zN ⟨k,t,v,p,⟨xs,b⟩⟩=⟨k,t,v,0,⟨xs.map zN,true⟩⟩:=by
 rw [zN,zS,zkz]
theorem zbp (n:Nd):zN n=⟨n.Kind_,n.Text_,n.Num_,0,⟨n.Kids_.xs.map zN,true⟩⟩:=by
 obtain ⟨k,t,v,p,⟨xs,b⟩⟩:=n
 exact ZH k t v p xs b
theorem Y6 (k:Int) (t:ByteArray) (v p q:Int) (s:Sl Nd):zN ⟨k,t,v,p,s⟩=zN ⟨k,t,v,q,s⟩:=by
 rw [zN,zN]
theorem zc9 {k:Int}{t:ByteArray}{v p q:Int}{s s':Sl Nd}(h:s.xs.map zN=s'.xs.map zN):zN ⟨k,t,v,p,s⟩=zN ⟨k,t,v,q,s'⟩:=by
 obtain ⟨xs,b⟩:=s
 obtain ⟨xs',b'⟩:=s'
 rw [ZH,ZH,show xs.map zN=xs'.map zN from h]
theorem wj (n:Nd):(zN n).Kind_=n.Kind_:=by rw [zbp]
theorem zhw (n:Nd):(zN n).Text_=n.Text_:=by rw [zbp]
theorem zoO (n:Nd):(zN n).Num_=n.Num_:=by rw [zbp]
theorem zdQ (n:Nd):(zN n).Kids_.xs=n.Kids_.xs.map zN:=by rw [zbp]
theorem zoP (l:List Nd):kK (l.map zN)=kK l:=by simp [kK,wj,Function.comp_def]
theorem zf0 (k:Int) (l:List Nd):xm k (l.map zN)=xm k l:=by simp [xm,wj,Function.comp_def,List.all_map]
theorem zf1:∀ l:List Nd,zO (l.map zN)=zO l
 |[]=>rfl
 |a::l=>by simp [zO,wj,zf1 l]
theorem zoQ (l:List Nd):(match l.map zN with | []=>false | s::r=>decide (s.Kind_=2) && xm 4 (r.drop (zO r)))=(match l with | []=>false | s::r=>decide (s.Kind_=2) && xm 4 (r.drop (zO r))):=by
 cases l with
 |nil=>rfl
 |cons a l=>simp only [List.map_cons,wj,zf1,← List.map_drop,zf0]
theorem znx (l:List Nd):(match l.map zN with | [a]=>xO a.Kind_ | _=>false)=(match l with | [a]=>xO a.Kind_ | _=>false):=by
 match l with
 |[]=>rfl
 |[a]=>simp only [List.map_cons,List.map_nil,wj]
 |a::b::l=>rfl
theorem zkA (f:Int→Bool) (l:List Nd):((l.map zN).all fun n=>f n.Kind_)=l.all fun n=>f n.Kind_:=by simp [List.all_map,wj,Function.comp_def]
theorem zoR (k:Int) (l:List Nd):zE k (l.map zN)=zE k l:=by
 unfold zE
 cases Z9 k with
 |some w=>simp only [zoP]
 |none=>
  simp only
  rw [zkA (fun k=>decide (k=1) || decide (k=6)),zkA Xu,← List.map_drop,← List.map_take,zoP,zf0,zf0,List.length_map]
  have h2:=zoQ l
  have h3:=znx l
  split
  ·rfl
  split
  ·exact h2
  split
  ·rfl
  split
  ·rfl
  split
  ·rfl
  split
  ·exact h3
  ·rfl
theorem zlW (l:List Nd):Xi (l.map zN)=Xi l:=by
 cases l with
 |nil=>rfl
 |cons a l=>simp [Xi,zdQ]
theorem zlX (l:List Nd):X4 (l.map zN)=X4 l:=by
 cases l with
 |nil=>rfl
 |cons a l=>simp [X4,zhw]
theorem zpM (k:Int) (t:List UInt8) (v:Int) (l:List Nd) (s i:List (List UInt8)) (d:Nat):shB k t v (l.map zN) s i d=shB k t v l s i d:=by
 have h1:(l.map zN).isEmpty=l.isEmpty:=by cases l <;> rfl
 have h2:(l.map zN).tail=l.tail.map zN:=by cases l <;> rfl
 unfold shB
 rw [h1,h2,zf1,← List.map_drop,← List.map_drop,zlW,zlX,List.length_map]
theorem ziU:∀ (m:Nat) (n:Nd) (d:Nat),z8 n≤m→shN (zN n) d=shN n d
 |0,n,d,h=>by have:=zk n;omega
 |m+1,n,d,h=>by
  have hs:=zk n
  rw [zaN (zN n),zaN n,zdQ,wj,zhw,zoO]
  have e:∀ d,(n.Kids_.xs.map zN).map (fun a=>shN a d)=n.Kids_.xs.map fun a=>shN a d:=fun d=>by
   rw [List.map_map]
   refine List.map_congr_left fun a ha=>?_
   have:=Yb ha
   exact ziU m a d (by omega)
  unfold shG
  rw [zoR,zpM,e,e]
theorem zhx {n m:Nd}(h:zN n=zN m) (d:Nat):shN n d=shN m d:=by
 rw [← ziU _ n d (Nat.le_refl _),← ziU _ m d (Nat.le_refl _),h]
theorem zdR:∀ (m:Nat) (n:Nd),z8 n≤m→z8 (zN n)=z8 n
 |0,n,h=>by have:=zk n;omega
 |m+1,n,h=>by
  have hs:=zk n
  rw [zk (zN n),zk n,zdQ]
  have:∀ l:List Nd,zi l≤m→zi (l.map zN)=zi l:=by
   intro l
   induction l with
   |nil=>intro _;rfl
   |cons a l ih=>
    intro hl
    simp only [zi] at hl
    simp only [List.map_cons,zi]
    rw [ih (by omega),zdR m a (by omega)]
  rw [this _ (by omega)]
def hq (q:List TQ):TQ:=q.headD (0,[],0)
theorem ziV (ts:List Tk):tq (hd ts)=hq (ts.map tq):=by
 cases ts <;> rfl
def isQ (s:List UInt8) (q:List TQ):Bool:=(decide ((hq q).1=2) || decide ((hq q).1=4)) && decide ((hq q).2.1=s)
theorem Yp (s:List UInt8) (ts:List Tk):isP s ts=isQ s (ts.map tq):=by
 unfold isP isQ
 rw [← ziV,zha]
 rfl
theorem XM {s:List UInt8}{k:List TQ}(h:k≠[]) (r:List TQ):isQ s (k++r)=isQ s k:=by
 cases k with
 |nil=>exact absurd rfl h
 |cons x k=>rfl
theorem Ym (ts:List Tk):(hd ts).Kind_=(hq (ts.map tq)).1:=by rw [← ziV];rfl
theorem vN {ts:List Tk}{x:TQ}{r:List TQ}(h:ts.map tq=x::r):(hd ts).Text_=lit x.2.1:=by
 have:=ziV ts
 rw [h] at this
 have:bs (hd ts).Text_=x.2.1:=congrArg (fun q:TQ=>q.2.1) this
 rw [← this,zc1]
theorem zpN {ts:List Tk}{x:TQ}{r:List TQ}(h:ts.map tq=x::r):(hd ts).Num_=x.2.2:=by
 have:=ziV ts
 rw [h] at this
 exact congrArg (fun q:TQ=>q.2.2) this
theorem zm {ts:List Tk}{x:TQ}{r:List TQ}(h:ts.map tq=x::r):ts.tail.map tq=r:=by
 cases ts with
 |nil=>cases h
 |cons t ts=>simp only [List.map_cons,List.cons.injEq] at h;exact h.2
theorem zR {ts:List Tk}{x:TQ}{k r:List TQ}(h:ts.map tq=(x::k)++r):ts.tail.map tq=k++r:=zm h
def zf2 {α:Type}(P:List Tk→PR α) (k r:List TQ) (Q:α→Prop):Prop:=∀ ts,ts.map tq=k++r→∃ a t1,P ts = .ok (a,t1)∧Q a∧t1.map tq=r
theorem yn {s:List UInt8}{ts:List Tk}{x:TQ}{r:List TQ}(h:ts.map tq=x::r) (hx:(x.1=2∨x.1=4)∧x.2.1=s):Zc s ts = .ok ((),ts.tail):=by
 unfold Zc
 rw [Yp,h,if_pos]
 show ((decide (x.1=2) || decide (x.1=4)) && decide (x.2.1=s))=true
 simp
 exact hx
structure LA (q:List TQ):Prop where
 add:isQ [43] q=false
 sub:isQ [45] q=false
 par:isQ [40] q=false
 idx:isQ [91] q=false
 els:isQ [101,108,115,101] q=false
theorem LA.mk1 {k:Int}{w:List UInt8}{v:Int}{r:List TQ}(h:w≠[43]∧w≠[45]∧w≠[40]∧w≠[91]∧w≠[101,108,115,101]):LA ((k,w,v)::r):=by
 obtain ⟨a,b,c,d,e⟩:=h
 constructor <;> simp only [isQ,hq,List.headD_cons] <;> simp [a,b,c,d,e]
theorem LA.kind1 {w:List UInt8}{v:Int}{r:List TQ}:LA ((1,w,v)::r):=by
 constructor <;> simp [isQ,hq]
theorem LA.nil:LA []:=by constructor <;> decide
theorem LA.app {k:List TQ}(h:LA k) (hk:k≠[]) (r:List TQ):LA (k++r):=by
 cases k with
 |nil=>exact absurd rfl hk
 |cons x k=>exact ⟨h.add,h.sub,h.par,h.idx,h.els⟩
def Rt (P:List Tk→PR Nd) (S:List TQ→Prop) (n:Nd):Prop:=∀ d,∃ k,LX (shN n d) k∧k≠[]∧S k∧∀ r,LA r→zf2 P k r fun m=>zN m=zN n
theorem zX {k v p:Int}{t:ByteArray}{xs:List Nd}{b:Bool}{d:Nat}(h:zE k xs=true):shN ⟨k,t,v,p,⟨xs,b⟩⟩ d=shB k (bs t) v xs (xs.map fun a=>shN a d) (xs.map fun a=>shN a (d+1)) d:=by
 rw [zaN]
 unfold shG
 rw [if_pos h]
structure isName (w:List UInt8):Prop extends isWord w where
 key:xo w=false
def Big (v:Int):Prop:= -1099511627776≤v∧v≤1099511627776
def ziW (t:Tk):Prop:=(t.Kind_=1→isName (bs t.Text_))∧(t.Kind_=3→0≤t.Num_∧t.Num_≤1099511627776)
def GT (ts:List Tk):Prop:=∀ t∈ts,ziW t
theorem GT.tl {ts:List Tk}(g:GT ts):GT ts.tail:=fun t h=>g t (List.mem_of_mem_tail h)
theorem GT.hd {ts:List Tk}(g:GT ts):ziW (hd ts):=by
 cases ts with
 |nil=>
  unfold ziW
  exact ⟨fun h=>absurd h (by decide),fun h=>absurd h (by decide)⟩
 |cons t ts=>exact g t (by simp)
theorem Zm {w:List UInt8}(h:isName w):LX w [(1,w,0)]:=by
 have:=zhu h.toisWord
 rw [h.key] at this
 exact this
theorem wQ {w:List UInt8}(h:isWord w) (hk:xo w=true):LX w [(2,w,0)]:=by
 have:=zhu h
 rw [hk] at this
 exact this
theorem YV {w:List UInt8}(h:isWord w) (hk:xo w=true):LO (w++[32]) [(2,w,0)]:=(wQ h hk).app Z3 rfl
theorem ZY {c:UInt8}{r:List UInt8}(h:isL c=true) (h2:(r.all isW)=true) (h3:r.length≤15):isWord (c::r):=
 ⟨⟨c,r,rfl,h⟩,fun x hx=>by
  rcases List.mem_cons.1 hx with rfl | hx
  ·simp [isW,h]
  ·exact List.all_eq_true.1 h2 x hx,by simp;omega⟩
theorem ZP {s:List UInt8}{ts t1:List Tk}{u:Unit}(g:GT ts) (h:Zc s ts = .ok (u,t1)):GT t1:=by
 unfold Zc at h
 split at h
 ·cases h;exact g.tl
 ·cases h
theorem zf3 {k:Int}{ts t1:List Tk}{t:Tk}(g:GT ts) (h:xp k ts = .ok (t,t1)):t.Kind_=k∧ziW t∧GT t1:=by
 unfold xp at h
 split at h
 ·rename_i e;cases h;exact ⟨e,g.hd,g.tl⟩
 ·cases h
theorem Zr {ts t1:List Tk}{n:Nd}(g:GT ts) (h:Zn ts = .ok (n,t1)):(∃ w p,isName w∧n=⟨5,lit w,0,p,zq⟩)∧GT t1:=by
 obtain ⟨a,t,e,h⟩:=zb h
 cases h
 obtain ⟨e1,e2,e3⟩:=zf3 g e
 exact ⟨⟨bs a.Text_,a.At_,e2.1 e1,by rw [zc1]⟩,e3⟩
theorem xQ {sg:Int}{ts t1:List Tk}{v:Int}(g:GT ts) (h:Yu sg ts = .ok (v,t1)):(∃ n:Nat,n≤1099511627776∧v=sg * n)∧GT t1:=by
 obtain ⟨a,t,e,h⟩:=zb h
 cases h
 obtain ⟨e1,e2,e3⟩:=zf3 g e
 have:=e2.2 e1
 exact ⟨⟨a.Num_.toNat,by omega,by rw [Int.toNat_of_nonneg this.1]⟩,e3⟩
theorem Zz {ts:List Tk}{w:List UInt8}{v:Int}{r:List TQ}(h:ts.map tq=(1,w,v)::r):Zn ts = .ok (⟨5,lit w,0,(hd ts).At_,zq⟩,ts.tail):=by
 unfold Zn xp
 rw [Ym,h,if_pos (by rfl)]
 simp only [PR.bd]
 rw [vN h]
theorem wk {sg:Int}{ts:List Tk}{w:List UInt8}{v:Int}{r:List TQ}(h:ts.map tq=(3,w,v)::r):Yu sg ts = .ok (sg * v,ts.tail):=by
 unfold Yu xp
 rw [Ym,h,if_pos (by rfl)]
 simp only [PR.bd]
 rw [zpN h]
theorem zny {w:List UInt8}(h:isName w):w≠[]:=by
 obtain ⟨c,r,e,_⟩:=h.hd
 rw [e];simp
structure IsT (n:Nd):Prop where
 ex:∃ t v p,n=⟨5,lit t,v,p,zq⟩∧(t=[]∨isName t)∧Big v
theorem IsT.kind {n:Nd}(h:IsT n):n.Kind_=5:=by
 obtain ⟨t,v,p,rfl,_⟩:=h.ex
 rfl
theorem zf4 {ts t1:List Tk}{w:List UInt8}{p:Int}{n:Nd}(hw:isName w) (g:GT ts) (h:Y4 ⟨5,lit w,0,p,zq⟩ ts = .ok (n,t1)):IsT n∧GT t1:=by
 unfold Y4 at h
 split at h
 ·obtain ⟨a,t,e,h⟩:=zb h
  cases h
  obtain ⟨⟨m,hm,rfl⟩,g1⟩:=xQ g.tl e
  exact ⟨⟨w,_,p,rfl,.inr hw,by unfold Big;omega⟩,g1⟩
 ·split at h
  ·obtain ⟨a,t,e,h⟩:=zb h
   cases h
   obtain ⟨⟨m,hm,rfl⟩,g1⟩:=xQ g.tl e
   exact ⟨⟨w,_,p,rfl,.inr hw,by unfold Big;omega⟩,g1⟩
  ·cases h
   exact ⟨⟨w,0,p,rfl,.inr hw,by unfold Big;omega⟩,g⟩
theorem xB {ts t1:List Tk}{n:Nd}(g:GT ts) (h:Z2 ts = .ok (n,t1)):IsT n∧GT t1:=by
 unfold Z2 at h
 split at h
 ·obtain ⟨a,t,e,h⟩:=zb h
  cases h
  obtain ⟨⟨m,hm,rfl⟩,g1⟩:=xQ g e
  exact ⟨⟨[],_,_,rfl,.inl rfl,by unfold Big;omega⟩,g1⟩
 ·split at h
  ·obtain ⟨a,t,e,h⟩:=zb h
   cases h
   obtain ⟨⟨m,hm,rfl⟩,g1⟩:=xQ g.tl e
   exact ⟨⟨[],_,_,rfl,.inl rfl,by unfold Big;omega⟩,g1⟩
  ·obtain ⟨a,t,e,h⟩:=zb h
   obtain ⟨⟨w,p,hw,rfl⟩,g1⟩:=Zr g e
   exact zf4 hw g1 h
def X6 (v:Int):List TQ:=if 0 < v then [(4,[43],0),(3,Lib.decDigits v.toNat,v)] else if v < 0 then [(4,[45],0),(3,Lib.decDigits v.natAbs, -v)] else []
def VH (v:Int):List TQ:=if v < 0 then [(4,[45],0),(3,Lib.decDigits v.natAbs, -v)] else [(3,Lib.decDigits v.toNat,v)]
theorem zhy:LO [32,43,32] [(4,[43],0)]:=(Z3.app (Zd (c:=43) rfl)).app Z3
theorem zf5:LO [32,45,32] [(4,[45],0)]:=(Z3.appx (zdP (c:=45) rfl)).app Z3 rfl
theorem znz {v:Int}(h:Big v):LX (Lib.itoa v) (VH v):=by
 unfold Big at h
 unfold Lib.itoa VH
 by_cases hv:v < 0
 ·rw [if_pos hv,if_pos hv]
  have e : -v=(v.natAbs:Int):=by omega
  rw [e]
  refine ⟨fun r hr=>?_,(cw1 (c:=45) (by decide) (by decide) (by decide)).app (WL (n:=v.natAbs) (by omega)).cw⟩
  have h2:two (45::(Lib.decDigits v.natAbs++r))=false:=by
   obtain ⟨_,hd,c,q,e,_⟩:=zaU v.natAbs v.natAbs (Nat.le_refl _)
   have hc:isD c=true:=hd c (by rw [e];simp)
   have:c≠62:=fun e=>by subst e;cases hc
   rw [e]
   simp [two,this]
  rw [List.cons_append,zaT (by decide) h2 (by decide),(WL (n:=v.natAbs) (by omega)).lx r hr]
  cases yl r <;> rfl
 ·rw [if_neg hv,if_neg hv]
  have:=WL (n:=v.toNat) (by omega)
  rw [Int.toNat_of_nonneg (by omega)] at this
  exact this
theorem zhz {t:List UInt8}{v:Int}(ht:t=[]∨isName t) (hv:Big v):LX (w8 t v) (if t=[] then VH v else (1,t,0)::X6 v):=by
 have hv':=hv
 unfold Big at hv'
 unfold w8
 by_cases e:t=[]
 ·rw [if_pos e,if_pos e];exact znz hv
 ·rw [if_neg e,if_neg e]
  have hn:isName t:=ht.resolve_left e
  unfold X6
  by_cases h1:0 < v
  ·rw [if_pos h1,if_pos h1]
   have:=WL (n:=v.toNat) (by omega)
   rw [Int.toNat_of_nonneg (by omega)] at this
   have ei:Lib.itoa v=Lib.decDigits v.toNat:=by unfold Lib.itoa;rw [if_neg (by omega)]
   rw [ei]
   exact ((Zm hn).app zhy rfl).appx this
  ·rw [if_neg h1,if_neg h1]
   by_cases h2:v < 0
   ·rw [if_pos h2,if_pos h2]
    have:=WL (n:=v.natAbs) (by omega)
    have ei:(Lib.itoa v).drop 1=Lib.decDigits v.natAbs:=by unfold Lib.itoa;rw [if_pos h2];rfl
    have e2 : -v=(v.natAbs:Int):=by omega
    rw [ei,e2]
    exact ((Zm hn).app zf5 rfl).appx this
   ·rw [if_neg h2,if_neg h2]
    exact Zm hn
def TS (k:List TQ):Prop:=isQ [41] k=false∧isQ [59] k=false
theorem zbq (v:Int):∃ x r,VH v=x::r∧x.1≠1∧(x.1=3∨x=(4,[45],0)):=by
 unfold VH
 split
 ·exact ⟨_,_,rfl,by show (4:Int)≠1;decide,.inr rfl⟩
 ·exact ⟨_,_,rfl,by show (3:Int)≠1;decide,.inl rfl⟩
theorem zkB {n:Nd}{v:Int}{r:List TQ}(hr:LA r) (h0:n.Num_=0) {ts:List Tk}(h:ts.map tq=X6 v++r):∃ t1,Y4 n ts = .ok (Nd.num n v,t1)∧t1.map tq=r:=by
 unfold X6 at h
 unfold Y4
 rw [Yp,Yp,h]
 by_cases h1:0 < v
 ·rw [if_pos h1] at h ⊢
  refine ⟨ts.tail.tail,?_,zm (zm h)⟩
  rw [if_pos (by rfl),wk (zm h)]
  simp only [PR.bd,Int.one_mul]
 ·rw [if_neg h1] at h ⊢
  by_cases h2:v < 0
  ·rw [if_pos h2] at h ⊢
   refine ⟨ts.tail.tail,?_,zm (zm h)⟩
   rw [if_neg (by simp [isQ,hq]),if_pos (by rfl),wk (zm h)]
   simp only [PR.bd]
   rw [show -1 * -v=v by omega]
  ·rw [if_neg h2] at h ⊢
   refine ⟨ts,?_,h⟩
   rw [List.nil_append,hr.add,hr.sub,if_neg (by decide),if_neg (by decide)]
   have:v=0:=by omega
   subst this
   unfold Nd.num
   rw [← h0,zW]
theorem zkC {t:List UInt8}{v:Int}{r:List TQ}(hr:LA r) (ht:t=[]∨isName t) {ts:List Tk}(h:ts.map tq=(if t=[] then VH v else (1,t,0)::X6 v)++r):∃ p t1,Z2 ts = .ok (⟨5,lit t,v,p,zq⟩,t1)∧t1.map tq=r:=by
 unfold Z2
 rw [Ym,Yp,h]
 by_cases e:t=[]
 ·subst e
  rw [if_pos rfl] at h ⊢
  unfold VH at h ⊢
  by_cases hv:v < 0
  ·rw [if_pos hv] at h ⊢
   refine ⟨(hd ts).At_,ts.tail.tail,?_,zm (zm h)⟩
   rw [if_neg (by simp [hq]),if_pos (by rfl),wk (zm h)]
   simp only [PR.bd]
   rw [show -1 * -v=v by omega]
  ·rw [if_neg hv] at h ⊢
   refine ⟨(hd ts).At_,ts.tail,?_,zm h⟩
   rw [if_pos (by rfl),wk h]
   simp only [PR.bd,Int.one_mul]
 ·rw [if_neg e] at h ⊢
  obtain ⟨t1,h1,h2⟩:=zkB (n:=⟨5,lit t,0,(hd ts).At_,zq⟩) (v:=v) hr rfl (zm h)
  refine ⟨(hd ts).At_,t1,?_,h2⟩
  rw [if_neg (by simp [hq]),if_neg (by simp [isQ,hq]),Zz h]
  exact h1
theorem wl {n:Nd}(h:IsT n):Rt Z2 TS n:=by
 obtain ⟨t,v,p,rfl,ht,hv⟩:=h.ex
 intro d
 have hf:zE 5 ([]:List Nd)=true:=rfl
 refine ⟨if t=[] then VH v else (1,t,0)::X6 v,?_,?_,?_,?_⟩
 ·rw [zX hf]
  exact zhz ht hv
 ·split
  ·obtain ⟨x,r,e,_⟩:=zbq v
   rw [e];simp
  ·simp
 ·split
  ·obtain ⟨x,r,e,_,h⟩:=zbq v
   rw [e]
   rcases h with h | h
   ·constructor <;> simp [isQ,hq,h]
   ·subst h;constructor <;> rfl
  ·constructor <;> simp [isQ,hq]
 ·intro r hr ts e
  obtain ⟨p',t1,h1,h2⟩:=zkC hr ht e
  exact ⟨_,t1,h1,by show zN _=zN _;rw [ZH,ZH],h2⟩
end Go.Px
namespace Go.Px
set_option linter.unusedVariables false
set_option linter.unusedSimpArgs false
def VI (s:List UInt8) (x:TQ):Bool:=(decide (x.1=2) || decide (x.1=4)) && decide (x.2.1=s)
theorem zj {s:List UInt8}{ts:List Tk}{x:TQ}{r:List TQ}(h:ts.map tq=x::r):isP s ts=VI s x:=by
 rw [Yp,h];rfl
theorem LX.appE {u w:List UInt8}{k l:List TQ}(a:LX u k) (b:LX w l) (h:(w=[]∧l=[])∨vj w=true):LX (u++w) (k++l):=by
 rcases h with ⟨rfl,rfl⟩ | h
 ·rw [List.append_nil,List.append_nil];exact a
 ·exact a.appx b h
def vk (w:List UInt8):Prop:=w=[60]∨w=[60,61]∨w=[61,61]
theorem znA {ts t1:List Tk}{s:ByteArray}(g:GT ts) (h:WE ts = .ok (s,t1)):(∃ w,vk w∧s=lit w)∧GT t1:=by
 unfold WE at h
 split at h
 ·cases h;exact ⟨⟨_,.inl rfl,rfl⟩,g.tl⟩
 ·split at h
  ·cases h;exact ⟨⟨_,.inr (.inl rfl),rfl⟩,g.tl⟩
  ·split at h
   ·cases h;exact ⟨⟨_,.inr (.inr rfl),rfl⟩,g.tl⟩
   ·cases h
theorem zpO {w:List UInt8}(h:vk w):LX w [(4,w,0)]:=by
 rcases h with rfl | rfl | rfl
 ·exact zdP (c:=60) rfl
 ·exact (zfY (a:=60) (b:=61) (.inr (.inl rfl))).x
 ·exact (zfY (a:=61) (b:=61) (.inr (.inr rfl))).x
theorem zpP {w:List UInt8}(hw:vk w) {ts:List Tk}{r:List TQ}(h:ts.map tq=(4,w,0)::r):WE ts = .ok (lit w,ts.tail):=by
 unfold WE
 simp only [zj h,VI]
 rcases hw with rfl | rfl | rfl <;> simp
theorem LA.op {w:List UInt8}(hw:vk w) {v:Int}{r:List TQ}:LA ((4,w,v)::r):=by
 rcases hw with rfl | rfl | rfl <;> exact LA.mk1 (by decide)
structure IsF (n:Nd):Prop where
 ex:∃ a b w p,n=⟨4,lit w,0,p,⟨[a,b],true⟩⟩∧IsT a∧IsT b∧vk w
theorem IsF.kind {n:Nd}(h:IsF n):n.Kind_=4:=by
 obtain ⟨a,b,w,p,rfl,_⟩:=h.ex
 rfl
theorem zf6 {ts t1:List Tk}{n:Nd}(g:GT ts) (h:YA ts = .ok (n,t1)):IsF n∧GT t1:=by
 obtain ⟨a,t2,e2,h⟩:=zb h
 obtain ⟨s,t3,e3,h⟩:=zb h
 obtain ⟨b,t4,e4,h⟩:=zb h
 cases h
 obtain ⟨ha,g2⟩:=xB g e2
 obtain ⟨⟨w,hw,rfl⟩,g3⟩:=znA g2 e3
 obtain ⟨hb,g4⟩:=xB g3 e4
 exact ⟨⟨a,b,w,_,rfl,ha,hb,hw⟩,g4⟩
theorem zkD {a b:Nd}{w:List UInt8}(ha:IsT a) (hb:IsT b) (hw:vk w) (d:Nat):∃ k,LX (shN a d++[32]++w++[32]++shN b d) k∧k≠[]∧TS k∧
    ∀ r,LA r→∀ ts,ts.map tq=k++r→∃ a' b' t1,YA ts = .ok (⟨4,lit w,0,a'.At_,⟨[a',b'],true⟩⟩,t1)∧zN a'=zN a∧zN b'=zN b∧t1.map tq=r:=by
  obtain ⟨ka,la,na,sa,ea⟩:=wl ha d
  obtain ⟨kb,lb,nb,sb,eb⟩:=wl hb d
  refine ⟨ka++(4,w,0)::kb,?_,by simp,?_,?_⟩
  · have:=(((la.app Z3 rfl).appx (zpO hw)).app Z3 rfl).appx lb
    simpa only [List.append_nil,List.append_assoc,List.cons_append,List.nil_append] using this
  · exact ⟨by rw [XM na];exact sa.1,by rw [XM na];exact sa.2⟩
  · intro r hr ts e
    obtain ⟨a',t1,h1,z1,e1⟩:=ea ((4,w,0)::(kb++r)) (LA.op hw) ts (by rw [e];simp)
    obtain ⟨b',t2,h2,z2,e2⟩:=eb r hr t1.tail (zm e1)
    refine ⟨a',b',t2,?_,z1,z2,e2⟩
    simp only [YA,h1,PR.bd,zpP hw e1,h2]
theorem znB {n:Nd}(h:IsF n):Rt YA TS n:=by
 obtain ⟨a,b,w,p,rfl,ha,hb,hw⟩:=h.ex
 intro d
 obtain ⟨k,l,ne,s,e⟩:=zkD ha hb hw d
 have hf:zE 4 [a,b]=true:=by unfold zE;simp [Z9,kK,ha.kind,hb.kind]
 refine ⟨k,by rw [zX hf];exact l,ne,s,fun r hr ts h=>?_⟩
 obtain ⟨a',b',t1,h1,z1,z2,e1⟩:=e r hr ts h
 exact ⟨_,t1,h1,by simp only [ZH,List.map_cons,List.map_nil,z1,z2],e1⟩
theorem xR {w:List UInt8}{p:Int}(h:isName w) (d:Nat):shN ⟨5,lit w,0,p,zq⟩ d=w:=by
 have hf:zE 5 ([]:List Nd)=true:=rfl
 rw [zX hf]
 show w8 w 0=w
 unfold w8
 rw [if_neg (zny h),if_neg (by omega),if_neg (by omega)]
inductive IsS:Nd→Prop where
 |a (w p) (h:w=[111,119,110]∨w=[99,101,108,108]):IsS ⟨2,lit w,0,p,zq⟩
 |b (w p m q) (h:w=[99,111,117,110,116,101,100]∨w=[108,111,99,107]∨w=[103,117,97,114,100]) (hm:isName m):IsS ⟨2,lit w,0,p,⟨[⟨5,lit m,0,q,zq⟩],true⟩⟩
theorem IsS.kind {n:Nd}(h:IsS n):n.Kind_=2:=by cases h <;> rfl
theorem wR {s:List UInt8}{ts:List Tk}(h:isP s ts=true):(hd ts).Text_=lit s:=by
 unfold isP at h
 simp only [Bool.and_eq_true,decide_eq_true_eq] at h
 exact h.2
theorem zlY {ts t1:List Tk}{n:Nd}(g:GT ts) (h:Xn ts = .ok (n,t1)):IsS n∧GT t1:=by
 unfold Xn at h
 split at h
 ·rename_i e;cases h;rw [wR e];exact ⟨.a _ _ (.inl rfl),g.tl⟩
 split at h
 ·rename_i e;cases h;rw [wR e];exact ⟨.a _ _ (.inr rfl),g.tl⟩
 split at h
 ·rename_i e
  obtain ⟨k,t2,e2,h⟩:=zb h
  cases h
  obtain ⟨⟨m,q,hm,rfl⟩,g2⟩:=Zr g.tl e2
  rw [wR e];exact ⟨.b _ _ _ _ (.inl rfl) hm,g2⟩
 split at h
 ·rename_i e
  obtain ⟨k,t2,e2,h⟩:=zb h
  cases h
  obtain ⟨⟨m,q,hm,rfl⟩,g2⟩:=Zr g.tl e2
  rw [wR e];exact ⟨.b _ _ _ _ (.inr (.inl rfl)) hm,g2⟩
 split at h
 ·rename_i e
  obtain ⟨k,t2,e2,h⟩:=zb h
  cases h
  obtain ⟨⟨m,q,hm,rfl⟩,g2⟩:=Zr g.tl e2
  rw [wR e];exact ⟨.b _ _ _ _ (.inr (.inr rfl)) hm,g2⟩
 ·cases h
theorem znC {n:Nd}(h:IsS n):Rt Xn (fun _=>True) n:=by
 intro d
 cases h with
 |a w p h=>
  have hf:zE 2 ([]:List Nd)=true:=rfl
  refine ⟨[(2,w,0)],?_,by simp,trivial,fun r hr ts e=>?_⟩
  ·rw [zX hf]
   show LX w _
   rcases h with rfl | rfl <;> exact wQ (ZY (by decide) (by decide) (by decide)) (by decide)
  ·refine ⟨⟨2,lit w,0,(hd ts).At_,zq⟩,ts.tail,?_,Y6 _ _ _ _ _ _,zm e⟩
   have et:=vN e
   simp only [List.cons_append] at e
   unfold Xn
   simp only [zj e,VI,et]
   rcases h with rfl | rfl <;> simp
 |b w p m q h hm=>
  have hf:zE 2 [(⟨5,lit m,0,q,zq⟩:Nd)]=true:=rfl
  refine ⟨[(2,w,0),(1,m,0)],?_,by simp,trivial,fun r hr ts e=>?_⟩
  ·rw [zX hf]
   show LX (w++[32]++shN ⟨5,lit m,0,q,zq⟩ d) _
   rw [xR hm]
   have hk:LX w [(2,w,0)]:=by rcases h with rfl | rfl | rfl <;> exact wQ (ZY (by decide) (by decide) (by decide)) (by decide)
   exact (hk.app Z3 rfl).appx (Zm hm)
  ·refine ⟨⟨2,lit w,0,(hd ts).At_,⟨[⟨5,lit m,0,(hd ts.tail).At_,zq⟩],true⟩⟩,ts.tail.tail,?_,by simp only [ZH,List.map_cons,List.map_nil],zm (zm e)⟩
   have et:=vN e
   simp only [List.cons_append] at e
   unfold Xn
   simp only [zj e,VI,et,Zz (zm e),PR.bd]
   rcases h with rfl | rfl | rfl <;> simp
inductive IsFd:Nd→Prop where
 |a (w p) (h:isName w):IsFd ⟨3,lit w,0,p,zq⟩
 |b (w p m q) (h:isName w) (hm:isName m):IsFd ⟨3,lit w,0,p,⟨[⟨5,lit m,0,q,zq⟩],true⟩⟩
theorem IsFd.kind {n:Nd}(h:IsFd n):n.Kind_=3:=by cases h <;> rfl
theorem zkE {ts t1:List Tk}{n:Nd}(g:GT ts) (h:Yj ts = .ok (n,t1)):IsFd n∧GT t1:=by
 obtain ⟨a,t2,e2,h⟩:=zb h
 obtain ⟨⟨w,p,hw,rfl⟩,g2⟩:=Zr g e2
 split at h
 ·obtain ⟨k,t3,e3,h⟩:=zb h
  obtain ⟨u,t4,e4,h⟩:=zb h
  cases h
  obtain ⟨⟨m,q,hm,rfl⟩,g3⟩:=Zr g2.tl e3
  exact ⟨.b _ _ _ _ hw hm,ZP g3 e4⟩
 ·cases h;exact ⟨.a _ _ hw,g2⟩
theorem zlZ {n:Nd}(h:IsFd n):Rt Yj (fun _=>True) n:=by
 intro d
 cases h with
 |a w p h=>
  have hf:zE 3 ([]:List Nd)=true:=rfl
  refine ⟨[(1,w,0)],?_,by simp,trivial,fun r hr ts e=>?_⟩
  ·rw [zX hf];exact Zm h
  ·refine ⟨⟨3,lit w,0,(hd ts).At_,zq⟩,ts.tail,?_,Y6 _ _ _ _ _ _,zm e⟩
   unfold Yj
   rw [Zz e]
   simp only [PR.bd]
   rw [Yp,show ts.tail.map tq=r from zm e,hr.idx,if_neg (by decide)]
 |b w p m q h hm=>
  have hf:zE 3 [(⟨5,lit m,0,q,zq⟩:Nd)]=true:=rfl
  refine ⟨[(1,w,0),(4,[91],0),(1,m,0),(4,[93],0)],?_,by simp,trivial,fun r hr ts e=>?_⟩
  ·rw [zX hf]
   show LX (w++[91]++shN ⟨5,lit m,0,q,zq⟩ d++[93]) _
   rw [xR hm]
   exact ((((Zm h).app (Zd (c:=91) rfl) rfl).appx (Zm hm)).app (Zd (c:=93) rfl) rfl).x
  ·have e1:=zm e
   have e2:=zm e1
   have e3:=zm e2
   refine ⟨⟨3,lit w,0,(hd ts).At_,⟨[⟨5,lit m,0,(hd ts.tail.tail).At_,zq⟩],true⟩⟩,ts.tail.tail.tail.tail,?_,by simp only [ZH,List.map_cons,List.map_nil],zm e3⟩
   unfold Yj
   rw [Zz e]
   simp only [PR.bd]
   rw [zj e1,if_pos (by rfl),Zz e2]
   simp only
   rw [yn e3 ⟨.inr rfl,rfl⟩]
theorem zl0:LO [44,32] [(4,[44],0)]:=(Zd (c:=44) rfl).app Z3
theorem zey {one:List Tk→PR Nd}{S:List TQ→Prop}(d:Nat):∀ items:List Nd,(∀ n∈items,Rt one S n)→∃ q,LX (Lib.joinTail [44,32] (items.map fun a=>shN a d)) q∧
    ((Lib.joinTail [44,32] (items.map fun a=>shN a d)=[]∧q=[])∨vj (Lib.joinTail [44,32] (items.map fun a=>shN a d))=true)∧items.length≤q.length∧(∀ r,LA r→LA (q++r))∧
    ∀ r,LA r→isQ [44] r=false→∀ fuel,items.length≤fuel→∀ acc:List Nd,zf2 (yk one fuel acc) q r fun l=>l.map zN=acc.map zN++items.map zN
  |[],h=>by
    refine ⟨[],LO.nil.x,.inl ⟨rfl,rfl⟩,Nat.le_refl _,fun r hr=>hr,fun r hr hc fuel hf acc ts e=>?_⟩
    refine ⟨acc,ts,?_,by simp,e⟩
    cases fuel with
    |zero=>rfl
    |succ f=>
      unfold yk
      rw [Yp,e,List.nil_append,hc,if_neg (by decide)]
  |a::items,h=>by
    obtain ⟨q,l,sp,len,la,ea⟩:=zey d items fun n hn=>h n (by simp [hn])
    obtain ⟨k,lk,nk,sk,ek⟩:=h a (by simp) d
    have et:Lib.joinTail [44,32] ((a::items).map fun a=>shN a d)=[44,32]++(shN a d++Lib.joinTail [44,32] (items.map fun a=>shN a d)):=by
      simp [Lib.joinTail]
    refine ⟨(4,[44],0)::(k++q),?_,.inr (by rw [et];rfl),?_,fun r hr=>LA.mk1 (by decide),?_⟩
    · rw [et]
      exact zl0.appx (lk.appE l sp)
    · have:1≤k.length:=by cases k with
        |nil=>exact absurd rfl nk
        |cons x k=>simp
      simp;omega
    · intro r hr hc fuel hf acc ts e
      cases fuel with
      |zero=>simp at hf
      |succ f=>
        have e1:=zR e
        obtain ⟨a',t1,h1,z1,e2⟩:=ek (q++r) (la r hr) ts.tail (by rw [e1,List.append_assoc])
        obtain ⟨l',t2,h2,z2,e3⟩:=ea r hr hc f (by simp at hf;omega) (acc++[a']) t1 e2
        refine ⟨l',t2,?_,?_,e3⟩
        · unfold yk
          rw [zj e,if_pos (by rfl),h1]
          exact h2
        · show l'.map zN=_
          rw [z2];simp [z1]
theorem zbr {one:List Tk→PR Nd}{S:List TQ→Prop}(d:Nat) (a:Nd) (items:List Nd) (h:∀ n∈a::items,Rt one S n):∃ k q,LX (ZT ((a::items).map fun a=>shN a d)) (k++q)∧k≠[]∧S k∧
    ∀ r,LA r→isQ [44] r=false→zf2 (yp one) (k++q) r fun l=>l.map zN=(a::items).map zN:=by
  obtain ⟨q,l,sp,len,la,ea⟩:=zey d items fun n hn=>h n (by simp [hn])
  obtain ⟨k,lk,nk,sk,ek⟩:=h a (by simp) d
  refine ⟨k,q,?_,nk,sk,fun r hr hc ts e=>?_⟩
  · unfold ZT X3
    rw [List.map_cons,Lib.join_cons]
    exact lk.appE l sp
  · obtain ⟨a',t1,h1,z1,e2⟩:=ek (q++r) (la r hr) ts (by rw [e,List.append_assoc])
    have hl:q.length≤ts.length:=by
      have:=congrArg List.length e
      rw [List.length_map] at this
      simp at this;omega
    obtain ⟨l',t2,h2,z2,e3⟩:=ea r hr hc ts.length (by omega) [a'] t1 e2
    refine ⟨l',t2,?_,by show l'.map zN=_;rw [z2];simp [z1],e3⟩
    unfold yp
    rw [h1]
    exact h2
theorem zf7 {one:List Tk→PR Nd}{K:Nd→Prop}(ho:∀ ts n t1,GT ts→one ts = .ok (n,t1)→K n∧GT t1):∀ (k:Nat) (acc:List Nd) (ts:List Tk) (l:List Nd) (t1:List Tk),GT ts→acc≠[]→(∀ a∈acc,K a)→yk one k acc ts = .ok (l,t1)→(l≠[]∧∀ a∈l,K a)∧GT t1
 |0,acc,ts,l,t1,g,hn,ha,h=>by cases h;exact ⟨⟨hn,ha⟩,g⟩
 |k+1,acc,ts,l,t1,g,hn,ha,h=>by
  unfold yk at h
  split at h
  ·obtain ⟨a,t,e,h⟩:=zb h
   obtain ⟨h1,g1⟩:=ho _ _ _ g.tl e
   exact zf7 ho k _ _ _ _ g1 (by simp) (fun b hb=>by
    rcases List.mem_append.1 hb with hb | hb
    ·exact ha b hb
    ·simp at hb;rw [hb];exact h1) h
  ·cases h;exact ⟨⟨hn,ha⟩,g⟩
theorem VJ {one:List Tk→PR Nd}{K:Nd→Prop}(ho:∀ ts n t1,GT ts→one ts = .ok (n,t1)→K n∧GT t1) {ts t1:List Tk}{l:List Nd}(g:GT ts) (h:yp one ts = .ok (l,t1)):(l≠[]∧∀ a∈l,K a)∧GT t1:=by
 obtain ⟨a,t,e,h⟩:=zb h
 obtain ⟨h1,g1⟩:=ho _ _ _ g e
 exact zf7 ho _ _ _ _ _ g1 (by simp) (fun b hb=>by simp at hb;rw [hb];exact h1) h
theorem zca {ts t1:List Tk}{ks:Sl Nd}(g:GT ts) (h:wy ts = .ok (ks,t1)):(∀ a∈ks.xs,IsT a)∧GT t1:=by
 obtain ⟨u,t,e,h⟩:=zb h
 have g1:=ZP g e
 split at h
 ·cases h;exact ⟨fun a h=>(by cases h),g1.tl⟩
 ·obtain ⟨l,t2,e2,h⟩:=zb h
  obtain ⟨u,t3,e3,h⟩:=zb h
  cases h
  obtain ⟨h1,g2⟩:=VJ (K:=IsT) (fun ts n t1 g h=>xB g h) g1 e2
  exact ⟨h1.2,ZP g2 e3⟩
theorem zf8 (d:Nat) (l:List Nd) (h:∀ n∈l,IsT n):∃ q,LO ([40]++ZT (l.map fun a=>shN a d)++[41]) ((4,[40],0)::q)∧
    ∀ r ts,ts.map tq=((4,[40],0)::q)++r→∃ ks t1,wy ts = .ok (ks,t1)∧ks.xs.map zN=l.map zN∧t1.map tq=r:=by
  cases l with
  |nil=>
    refine ⟨[(4,[41],0)],?_,fun r ts e=>⟨zq,ts.tail.tail,?_,rfl,zm (zm e)⟩⟩
    · exact (Zd (c:=40) rfl).app (Zd (c:=41) rfl)
    · unfold wy
      rw [yn e ⟨.inr rfl,rfl⟩]
      simp only [PR.bd]
      rw [zj (zm e),if_pos (by rfl)]
  |cons a items=>
    obtain ⟨k,q,lx,nk,sk,ek⟩:=zbr (one:=Z2) (S:=TS) d a items fun n hn=>wl (h n hn)
    refine ⟨(k++q)++[(4,[41],0)],?_,fun r ts e=>?_⟩
    · have:=((Zd (c:=40) rfl).appx lx).app (Zd (c:=41) rfl) rfl
      simpa only [List.append_assoc,List.cons_append,List.nil_append] using this
    · have e1:ts.tail.map tq=(k++q)++((4,[41],0)::r):=by rw [zm e];simp
      obtain ⟨l',t2,h2,z2,e3⟩:=ek ((4,[41],0)::r) (LA.mk1 (by decide)) rfl ts.tail e1
      refine ⟨⟨l',true⟩,t2.tail,?_,z2,zm e3⟩
      unfold wy
      rw [yn e ⟨.inr rfl,rfl⟩]
      simp only [PR.bd]
      rw [Yp,e1,XM (by simp [nk]),XM nk,sk.1,if_neg (by decide),h2]
      simp only
      rw [yn e3 ⟨.inr rfl,rfl⟩]
inductive IsM:Nd→Prop where
 |a (p):IsM ⟨8,lit [105,110,116],0,p,zq⟩
 |b (p m q) (hm:isName m):IsM ⟨8,lit [111,119,110],0,p,⟨[⟨5,lit m,0,q,zq⟩],true⟩⟩
 |c (p m q) (hm:isName m):IsM ⟨8,lit [38,109,117,116],0,p,⟨[⟨5,lit m,0,q,zq⟩],true⟩⟩
 |d (p m q) (hm:isName m):IsM ⟨8,lit [38],0,p,⟨[⟨5,lit m,0,q,zq⟩],true⟩⟩
theorem IsM.kind {n:Nd}(h:IsM n):n.Kind_=8:=by cases h <;> rfl
theorem zf9 {ts t1:List Tk}{n:Nd}(g:GT ts) (h:YB ts = .ok (n,t1)):IsM n∧GT t1∧(isP [38] ts=false→(bs n.Text_).head?≠some 38):=by
 unfold YB at h
 split at h
 ·rename_i e;cases h;rw [wR e];exact ⟨.a _,g.tl,fun _=>by simp [yd]⟩
 split at h
 ·rename_i e
  obtain ⟨k,t2,e2,h⟩:=zb h
  cases h
  obtain ⟨⟨m,q,hm,rfl⟩,g2⟩:=Zr g.tl e2
  rw [wR e];exact ⟨.b _ _ _ hm,g2,fun _=>by simp [yd]⟩
 obtain ⟨u,t2,e2,h⟩:=zb h
 have hp:isP [38] ts=true:=by
  unfold Zc at e2
  split at e2
  ·assumption
  ·cases e2
 have g2:=ZP g e2
 split at h
 ·obtain ⟨k,t3,e3,h⟩:=zb h
  cases h
  obtain ⟨⟨m,q,hm,rfl⟩,g3⟩:=Zr g2.tl e3
  exact ⟨.c _ _ _ hm,g3,fun e=>by rw [hp] at e;cases e⟩
 ·obtain ⟨k,t3,e3,h⟩:=zb h
  cases h
  obtain ⟨⟨m,q,hm,rfl⟩,g3⟩:=Zr g2 e3
  rw [wR hp]
  exact ⟨.d _ _ _ hm,g3,fun e=>by rw [hp] at e;cases e⟩
theorem zoS:LX [111,119,110] [(2,[111,119,110],0)]:=wQ (ZY (by decide) (by decide) (by decide)) (by decide)
theorem zoT:LX [109,117,116] [(2,[109,117,116],0)]:=wQ (ZY (by decide) (by decide) (by decide)) (by decide)
theorem zoU:LX [105,110,116] [(2,[105,110,116],0)]:=wQ (ZY (by decide) (by decide) (by decide)) (by decide)
theorem zhA {n:Nd}(h:IsM n):Rt YB (fun k=>(bs n.Text_).head?≠some 38→isQ [38] k=false) n:=by
 intro d
 cases h with
 |a p=>
  have hf:zE 8 ([]:List Nd)=true:=rfl
  refine ⟨[(2,[105,110,116],0)],?_,by simp,fun _=>rfl,fun r hr ts e=>?_⟩
  ·rw [zX hf];exact zoU
  ·refine ⟨⟨8,lit [105,110,116],0,(hd ts).At_,zq⟩,ts.tail,?_,Y6 _ _ _ _ _ _,zm e⟩
   have et:=vN e
   simp only [List.cons_append] at e
   unfold YB
   rw [zj e,if_pos (by rfl),et]
 |b p m q hm=>
  have hf:zE 8 [(⟨5,lit m,0,q,zq⟩:Nd)]=true:=rfl
  refine ⟨[(2,[111,119,110],0),(1,m,0)],?_,by simp,fun _=>rfl,fun r hr ts e=>?_⟩
  ·rw [zX hf]
   show LX ([111,119,110]++[32]++X3 [] [shN ⟨5,lit m,0,q,zq⟩ d]) _
   rw [xR hm]
   unfold X3
   rw [Lib.join_one]
   exact (zoS.app Z3 rfl).appx (Zm hm)
  ·refine ⟨⟨8,lit [111,119,110],0,(hd ts).At_,⟨[⟨5,lit m,0,(hd ts.tail).At_,zq⟩],true⟩⟩,ts.tail.tail,?_,by simp only [ZH,List.map_cons,List.map_nil],zm (zm e)⟩
   have et:=vN e
   simp only [List.cons_append] at e
   unfold YB
   rw [zj e,zj e,if_neg (by decide),if_pos (by rfl),et,Zz (zm e)]
   rfl
 |c p m q hm=>
  have hf:zE 8 [(⟨5,lit m,0,q,zq⟩:Nd)]=true:=rfl
  refine ⟨[(4,[38],0),(2,[109,117,116],0),(1,m,0)],?_,by simp,fun h=>absurd rfl h,fun r hr ts e=>?_⟩
  ·rw [zX hf]
   show LX ([38,109,117,116]++[32]++X3 [] [shN ⟨5,lit m,0,q,zq⟩ d]) _
   rw [xR hm]
   unfold X3
   rw [Lib.join_one]
   exact (((Zd (c:=38) rfl).appx zoT).app Z3 rfl).appx (Zm hm)
  ·have e1:=zm e
   have e2:=zm e1
   refine ⟨⟨8,lit [38,109,117,116],0,(hd ts).At_,⟨[⟨5,lit m,0,(hd ts.tail.tail).At_,zq⟩],true⟩⟩,ts.tail.tail.tail,?_,by simp only [ZH,List.map_cons,List.map_nil],zm e2⟩
   unfold YB
   simp only [List.cons_append] at e
   rw [zj e,zj e,if_neg (by decide),if_neg (by decide),yn e ⟨.inr rfl,rfl⟩]
   simp only [PR.bd]
   rw [zj e1,if_pos (by rfl),Zz e2]
 |d p m q hm=>
  have hf:zE 8 [(⟨5,lit m,0,q,zq⟩:Nd)]=true:=rfl
  refine ⟨[(4,[38],0),(1,m,0)],?_,by simp,fun h=>absurd rfl h,fun r hr ts e=>?_⟩
  ·rw [zX hf]
   show LX ([38]++X3 [] [shN ⟨5,lit m,0,q,zq⟩ d]) _
   rw [xR hm]
   unfold X3
   rw [Lib.join_one]
   exact (Zd (c:=38) rfl).appx (Zm hm)
  ·have e1:=zm e
   refine ⟨⟨8,lit [38],0,(hd ts).At_,⟨[⟨5,lit m,0,(hd ts.tail).At_,zq⟩],true⟩⟩,ts.tail.tail,?_,by simp only [ZH,List.map_cons,List.map_nil],zm e1⟩
   have et:=vN e
   unfold YB
   simp only [List.cons_append] at e
   rw [zj e,zj e,if_neg (by decide),if_neg (by decide),yn e ⟨.inr rfl,rfl⟩]
   simp only [PR.bd]
   rw [zj e1,if_neg (by simp [VI]),Zz e1]
   simp only
   rw [et]
structure IsPm (n:Nd):Prop where
 ex:∃ w p m,n=⟨7,lit w,0,p,⟨[m],true⟩⟩∧isName w∧IsM m
theorem IsPm.kind {n:Nd}(h:IsPm n):n.Kind_=7:=by
 obtain ⟨w,p,m,rfl,_⟩:=h.ex
 rfl
theorem zkF {ts t1:List Tk}{n:Nd}(g:GT ts) (h:YC ts = .ok (n,t1)):IsPm n∧GT t1:=by
 obtain ⟨a,t2,e2,h⟩:=zb h
 obtain ⟨⟨w,p,hw,rfl⟩,g2⟩:=Zr g e2
 obtain ⟨u,t3,e3,h⟩:=zb h
 have g3:=ZP g2 e3
 obtain ⟨m,t4,e4,h⟩:=zb h
 cases h
 obtain ⟨hm,g4,_⟩:=zf9 g3 e4
 exact ⟨⟨w,p,m,rfl,hw,hm⟩,g4⟩
theorem zl1:LO [58,32] [(4,[58],0)]:=(Zd (c:=58) rfl).app Z3
theorem zl2 {n:Nd}(h:IsPm n):Rt YC TS n:=by
 obtain ⟨w,p,m,rfl,hw,hm⟩:=h.ex
 intro d
 obtain ⟨k,lk,nk,sk,ek⟩:=zhA hm d
 have hf:zE 7 [m]=true:=by unfold zE;simp [Z9,kK,hm.kind]
 refine ⟨(1,w,0)::(4,[58],0)::k,?_,by simp,⟨rfl,rfl⟩,fun r hr ts e=>?_⟩
 ·rw [zX hf]
  exact ((Zm hw).app zl1 rfl).appx lk
 ·have e1:=zm e
  have e2:=zm e1
  obtain ⟨m',t1,h1,z1,e3⟩:=ek r hr _ e2
  refine ⟨⟨7,lit w,0,(hd ts).At_,⟨[m'],true⟩⟩,t1,?_,by simp only [ZH,List.map_cons,List.map_nil,z1],e3⟩
  unfold YC
  rw [Zz e]
  simp only [PR.bd]
  rw [yn e1 ⟨.inr rfl,rfl⟩]
  simp only
  rw [h1]
end Go.Px
namespace Go.Px
set_option linter.unusedVariables false
set_option linter.unusedSimpArgs false
inductive IsE:Nd→Prop where
 |t (n) (h:IsT n):IsE n
 |two (k a b p q q') (hk:k=21∨k=22) (ha:isName a) (hb:isName b):IsE ⟨k,lit [],0,p,⟨[⟨5,lit a,0,q,zq⟩,⟨5,lit b,0,q',zq⟩],true⟩⟩
 |new (n:Nat) (p) (h:n≤1099511627776):IsE ⟨23,lit [],n,p,zq⟩
 |arr (w p) (h:isName w):IsE ⟨24,lit w,0,p,zq⟩
 |idx (w p a) (h:isName w) (ha:IsT a):IsE ⟨25,lit w,0,p,⟨[a],true⟩⟩
 |ref (w p) (h:isName w):IsE ⟨26,lit w,0,p,zq⟩
 |mref (w p) (h:isName w):IsE ⟨27,lit w,0,p,zq⟩
 |call (w p l b) (h:isName w) (ha:∀ a∈l,IsT a):IsE ⟨28,lit w,0,p,⟨l,b⟩⟩
theorem IsE.kind {n:Nd}(h:IsE n):xO n.Kind_=true:=by
 cases h with
 |t n h=>rw [h.kind];rfl
 |two k a b p q q' hk ha hb=>rcases hk with rfl | rfl <;> rfl
 |_=>rfl
theorem zl3 {ts t1:List Tk}{n:Nd}(g:GT ts) (h:yZ ts = .ok (n,t1)):IsE n∧GT t1:=by
 unfold yZ at h
 split at h
 ·obtain ⟨v,t2,e2,h⟩:=zb h
  cases h
  obtain ⟨⟨m,hm,rfl⟩,g2⟩:=xQ g.tl e2
  rw [Int.one_mul]
  exact ⟨.new m _ hm,g2⟩
 split at h
 ·obtain ⟨k,t2,e2,h⟩:=zb h
  cases h
  obtain ⟨⟨w,p,hw,rfl⟩,g2⟩:=Zr g.tl e2
  exact ⟨.arr _ _ hw,g2⟩
 split at h
 ·split at h
  ·obtain ⟨k,t2,e2,h⟩:=zb h
   cases h
   obtain ⟨⟨w,p,hw,rfl⟩,g2⟩:=Zr g.tl.tl e2
   exact ⟨.mref _ _ hw,g2⟩
  ·obtain ⟨k,t2,e2,h⟩:=zb h
   cases h
   obtain ⟨⟨w,p,hw,rfl⟩,g2⟩:=Zr g.tl e2
   exact ⟨.ref _ _ hw,g2⟩
 split at h
 ·obtain ⟨h1,g1⟩:=xB g h
  exact ⟨.t _ h1,g1⟩
 obtain ⟨k,t2,e2,h⟩:=zb h
 obtain ⟨⟨w,p,hw,rfl⟩,g2⟩:=Zr g e2
 split at h
 ·obtain ⟨ks,t3,e3,h⟩:=zb h
  cases h
  obtain ⟨ha,g3⟩:=zca g2 e3
  exact ⟨.call w p ks.xs ks.nn hw ha,g3⟩
 split at h
 ·obtain ⟨a,t3,e3,h⟩:=zb h
  obtain ⟨u,t4,e4,h⟩:=zb h
  cases h
  obtain ⟨ha,g3⟩:=xB g2.tl e3
  exact ⟨.idx w p a hw ha,ZP g3 e4⟩
 split at h
 ·obtain ⟨b,t3,e3,h⟩:=zb h
  cases h
  obtain ⟨⟨w',p',hw',rfl⟩,g3⟩:=Zr g2.tl e3
  exact ⟨.two 21 w w' p p p' (.inl rfl) hw hw',g3⟩
 split at h
 ·obtain ⟨b,t3,e3,h⟩:=zb h
  cases h
  obtain ⟨⟨w',p',hw',rfl⟩,g3⟩:=Zr g2.tl e3
  exact ⟨.two 22 w w' p p p' (.inr rfl) hw hw',g3⟩
 ·obtain ⟨h1,g1⟩:=zf4 hw g2 h
  exact ⟨.t _ h1,g1⟩
theorem zoV:LO [110,101,119,32] [(2,[110,101,119],0)]:=YV (w:=[110,101,119]) (ZY (by decide) (by decide) (by decide)) (by decide)
theorem zl4:LO [97,114,114,97,121,32] [(2,[97,114,114,97,121],0)]:=YV (w:=[97,114,114,97,121]) (ZY (by decide) (by decide) (by decide)) (by decide)
theorem znD:LO [38,109,117,116,32] [(4,[38],0),(2,[109,117,116],0)]:=(Zd (c:=38) rfl).app (YV (w:=[109,117,116]) (ZY (by decide) (by decide) (by decide)) (by decide))
theorem zga (n:Nat):Lib.itoa (n:Int)=Lib.decDigits n:=by
 unfold Lib.itoa
 rw [if_neg (by omega)]
 rfl
theorem zkG {v:Int}{r:List TQ}(hr:LA r):isQ [40] (X6 v++r)=false∧isQ [91] (X6 v++r)=false∧
    ∀ ts:List Tk,ts.map tq=X6 v++r→¬ (isP [43] ts=true∧(hd ts.tail).Kind_=1)∧¬ (isP [45] ts=true∧(hd ts.tail).Kind_=1):=by
  unfold X6
  by_cases h1:0 < v
  · rw [if_pos h1]
    refine ⟨rfl,rfl,fun ts e=>?_⟩
    rw [Ym ts.tail,zm e]
    exact ⟨fun h=>by simp [hq] at h,fun h=>by simp [hq] at h⟩
  · rw [if_neg h1]
    by_cases h2:v < 0
    · rw [if_pos h2]
      refine ⟨rfl,rfl,fun ts e=>?_⟩
      rw [Ym ts.tail,zm e]
      exact ⟨fun h=>by simp [hq] at h,fun h=>by simp [hq] at h⟩
    · rw [if_neg h2]
      refine ⟨hr.par,hr.idx,fun ts e=>?_⟩
      rw [Yp,Yp,e,List.nil_append,hr.add,hr.sub]
      simp
theorem zw (s w:List UInt8) (v:Int):VI s (1,w,v)=false:=by simp [VI]
theorem znE {n:Nd}(h:IsE n):Rt yZ (fun _=>True) n:=by
 intro d
 cases h with
 |t n h=>
  obtain ⟨t,v,p,rfl,ht,hv⟩:=h.ex
  have hf:zE 5 ([]:List Nd)=true:=rfl
  refine ⟨if t=[] then VH v else (1,t,0)::X6 v,?_,?_,trivial,?_⟩
  ·rw [zX hf]
   exact zhz ht hv
  ·split
   ·obtain ⟨x,r,e,_⟩:=zbq v
    rw [e];simp
   ·simp
  ·intro r hr ts e
   unfold yZ
   by_cases h0:t=[]
   ·obtain ⟨p',t1,h1,h2⟩:=zkC hr ht e
    refine ⟨⟨5,lit t,v,p',zq⟩,t1,?_,Y6 _ _ _ _ _ _,h2⟩
    subst h0
    rw [if_pos rfl] at e
    obtain ⟨x,q,ex,hx,hx2⟩:=zbq v
    rw [ex] at e
    have hk:∀ s:List UInt8,s≠[45]→isP s ts=false:=fun s hs=>by
     rw [zj e]
     rcases hx2 with hx2 | hx2
     ·simp [VI,hx2]
     ·subst hx2;simp [VI];exact fun h=>hs h.symm
    rw [hk _ (by decide),hk _ (by decide),hk _ (by decide),Ym,e,if_neg (by decide),if_neg (by decide),if_neg (by decide),if_pos (show (hq (x::q++r)).1≠1 from hx)]
    exact h1
   ·rw [if_neg h0] at e
    have e1:=zR e
    obtain ⟨m1,m2,m3⟩:=zkG (v:=v) hr
    obtain ⟨m3,m4⟩:=m3 _ e1
    obtain ⟨t1,h1,h2⟩:=zkB (n:=⟨5,lit t,0,(hd ts).At_,zq⟩) (v:=v) hr rfl e1
    refine ⟨⟨5,lit t,v,(hd ts).At_,zq⟩,t1,?_,?_,h2⟩
    ·simp only [List.cons_append] at e
     rw [zj e,zj e,zj e,zw,zw,zw,Ym,e,if_neg (by decide),if_neg (by decide),if_neg (by decide),if_neg (by simp [hq]),Zz e]
     simp only [PR.bd]
     rw [Yp,Yp,e1,m1,m2,if_neg (by decide),if_neg (by decide),if_neg m3,if_neg m4]
     exact h1
    ·exact Y6 _ _ _ _ _ _
 |two k a b p q q' hk ha hb=>
  have hf:zE k [(⟨5,lit a,0,q,zq⟩:Nd),⟨5,lit b,0,q',zq⟩]=true:=by rcases hk with rfl | rfl <;> rfl
  rcases hk with rfl | rfl
  ·refine ⟨[(1,a,0),(4,[43],0),(1,b,0)],?_,by simp,trivial,fun r hr ts e=>?_⟩
   ·rw [zX hf]
    show LX (shN ⟨5,lit a,0,q,zq⟩ d++[32,43,32]++shN ⟨5,lit b,0,q',zq⟩ d) _
    rw [xR ha,xR hb]
    exact ((Zm ha).app zhy rfl).appx (Zm hb)
   ·have e1:=zR e
    have e2:=zm e1
    refine ⟨⟨21,lit [],0,(hd ts).At_,⟨[⟨5,lit a,0,(hd ts).At_,zq⟩,⟨5,lit b,0,(hd ts.tail.tail).At_,zq⟩],true⟩⟩,ts.tail.tail.tail,?_,by simp only [ZH,List.map_cons,List.map_nil],zm e2⟩
    unfold yZ
    simp only [List.cons_append] at e
    rw [zj e,zj e,zj e,zw,zw,zw,Ym,e,if_neg (by decide),if_neg (by decide),if_neg (by decide),if_neg (by simp [hq]),Zz e]
    simp only [PR.bd]
    rw [zj e1,zj e1,zj e1,if_neg (by decide),if_neg (by decide),Ym,e2,if_pos ⟨by rfl,by rfl⟩,Zz e2]
  ·refine ⟨[(1,a,0),(4,[45],0),(1,b,0)],?_,by simp,trivial,fun r hr ts e=>?_⟩
   ·rw [zX hf]
    show LX (shN ⟨5,lit a,0,q,zq⟩ d++[32,45,32]++shN ⟨5,lit b,0,q',zq⟩ d) _
    rw [xR ha,xR hb]
    exact ((Zm ha).app zf5 rfl).appx (Zm hb)
   ·have e1:=zR e
    have e2:=zm e1
    refine ⟨⟨22,lit [],0,(hd ts).At_,⟨[⟨5,lit a,0,(hd ts).At_,zq⟩,⟨5,lit b,0,(hd ts.tail.tail).At_,zq⟩],true⟩⟩,ts.tail.tail.tail,?_,by simp only [ZH,List.map_cons,List.map_nil],zm e2⟩
    unfold yZ
    simp only [List.cons_append] at e
    rw [zj e,zj e,zj e,zw,zw,zw,Ym,e,if_neg (by decide),if_neg (by decide),if_neg (by decide),if_neg (by simp [hq]),Zz e]
    simp only [PR.bd]
    rw [zj e1,zj e1,zj e1,zj e1,if_neg (by decide),if_neg (by decide),if_neg (fun h=>absurd h.1 (by decide)),Ym,e2,if_pos ⟨by rfl,by rfl⟩,Zz e2]
 |new m p h=>
  have hf:zE 23 ([]:List Nd)=true:=rfl
  refine ⟨[(2,[110,101,119],0),(3,Lib.decDigits m,m)],?_,by simp,trivial,fun r hr ts e=>?_⟩
  ·rw [zX hf]
   show LX ([110,101,119,32]++Lib.itoa m) _
   rw [zga]
   exact zoV.appx (WL h)
  ·have e1:=zR e
   refine ⟨⟨23,lit [],m,(hd ts).At_,zq⟩,ts.tail.tail,?_,Y6 _ _ _ _ _ _,zm e1⟩
   unfold yZ
   simp only [List.cons_append] at e
   rw [zj e,if_pos (by rfl),wk e1]
   simp only [PR.bd,Int.one_mul]
 |arr w p h=>
  have hf:zE 24 ([]:List Nd)=true:=rfl
  refine ⟨[(2,[97,114,114,97,121],0),(1,w,0)],?_,by simp,trivial,fun r hr ts e=>?_⟩
  ·rw [zX hf]
   exact zl4.appx (Zm h)
  ·have e1:=zR e
   refine ⟨⟨24,lit w,0,(hd ts).At_,zq⟩,ts.tail.tail,?_,Y6 _ _ _ _ _ _,zm e1⟩
   unfold yZ
   simp only [List.cons_append] at e
   rw [zj e,zj e,if_neg (by decide),if_pos (by rfl),Zz e1]
   rfl
 |idx w p a h ha=>
  have hf:zE 25 [a]=true:=by unfold zE;simp [Z9,kK,ha.kind]
  obtain ⟨k,lk,nk,sk,ek⟩:=wl ha d
  refine ⟨(1,w,0)::(4,[91],0)::(k++[(4,[93],0)]),?_,by simp,trivial,fun r hr ts e=>?_⟩
  ·rw [zX hf]
   have:=(((Zm h).app (Zd (c:=91) rfl) rfl).appx lk).app (Zd (c:=93) rfl) rfl
   exact this.x
  ·have e1:=zR e
   have e2:=zm e1
   obtain ⟨a',t1,h1,z1,e3⟩:=ek ((4,[93],0)::r) (LA.mk1 (by decide)) ts.tail.tail (by rw [e2];simp)
   refine ⟨⟨25,lit w,0,(hd ts).At_,⟨[a'],true⟩⟩,t1.tail,?_,by simp only [ZH,List.map_cons,List.map_nil,z1],zm e3⟩
   unfold yZ
   simp only [List.cons_append] at e
   rw [zj e,zj e,zj e,zw,zw,zw,Ym,e,if_neg (by decide),if_neg (by decide),if_neg (by decide),if_neg (by simp [hq]),Zz e]
   simp only [PR.bd]
   rw [zj e1,zj e1,if_neg (by decide),if_pos (by rfl),h1]
   simp only
   rw [yn e3 ⟨.inr rfl,rfl⟩]
 |ref w p h=>
  have hf:zE 26 ([]:List Nd)=true:=rfl
  refine ⟨[(4,[38],0),(1,w,0)],?_,by simp,trivial,fun r hr ts e=>?_⟩
  ·rw [zX hf]
   exact (Zd (c:=38) rfl).appx (Zm h)
  ·have e1:=zR e
   refine ⟨⟨26,lit w,0,(hd ts).At_,zq⟩,ts.tail.tail,?_,Y6 _ _ _ _ _ _,zm e1⟩
   unfold yZ
   simp only [List.cons_append] at e
   rw [zj e,zj e,zj e,if_neg (by decide),if_neg (by decide),if_pos (by rfl),zj e1,zw,if_neg (by decide),Zz e1]
   rfl
 |mref w p h=>
  have hf:zE 27 ([]:List Nd)=true:=rfl
  refine ⟨[(4,[38],0),(2,[109,117,116],0),(1,w,0)],?_,by simp,trivial,fun r hr ts e=>?_⟩
  ·rw [zX hf]
   exact znD.appx (Zm h)
  ·have e1:=zR e
   have e2:=zm e1
   refine ⟨⟨27,lit w,0,(hd ts).At_,zq⟩,ts.tail.tail.tail,?_,Y6 _ _ _ _ _ _,zm e2⟩
   unfold yZ
   simp only [List.cons_append] at e
   rw [zj e,zj e,zj e,if_neg (by decide),if_neg (by decide),if_pos (by rfl),zj e1,if_pos (by rfl),Zz e2]
   rfl
 |call w p l b h ha=>
  have hf:zE 28 l=true:=by
   unfold zE
   simp [Z9,xm]
   exact fun x hx=>(ha x hx).kind
  obtain ⟨q,lq,eq⟩:=zf8 d l ha
  refine ⟨(1,w,0)::(4,[40],0)::q,?_,by simp,trivial,fun r hr ts e=>?_⟩
  ·rw [zX hf]
   have:=(Zm h).app lq rfl
   show LX (w++[40]++ZT (l.map fun a=>shN a d)++[41]) _
   simpa only [List.append_assoc,List.cons_append,List.nil_append] using this.x
  ·have e1:=zR e
   obtain ⟨ks,t1,h1,z1,e3⟩:=eq r ts.tail e1
   refine ⟨⟨28,lit w,0,(hd ts).At_,ks⟩,t1,?_,zc9 z1,e3⟩
   unfold yZ
   simp only [List.cons_append] at e
   rw [zj e,zj e,zj e,zw,zw,zw,Ym,e,if_neg (by decide),if_neg (by decide),if_neg (by decide),if_neg (by simp [hq]),Zz e]
   simp only [PR.bd]
   rw [zj e1,if_pos (by rfl),h1]
end Go.Px
namespace Go.Px
set_option linter.unusedVariables false
set_option linter.unusedSimpArgs false
structure BOK (blk:List Tk→PR Nd) (B:Nd→Prop):Prop where
 out:∀ ts n t1,GT ts→blk ts = .ok (n,t1)→B n∧GT t1
 form:∀ n,B n→∃ p l,n=⟨9,lit [],0,p,mkS l⟩
 rt:∀ n,B n→∀ d,∃ k,LX (shN n d) k∧k.head?=some (4,[123],0)∧∀ r,zf2 blk k r fun m=>zN m=zN n
inductive IsSt (B:Nd→Prop):Nd→Prop where
 |free (w p) (h:isName w):IsSt B ⟨12,lit w,0,p,zq⟩
 |lock (k w p) (m:Nat) (hk:k=13∨k=14) (h:isName w) (hm:m≤1099511627776):IsSt B ⟨k,lit w,m,p,zq⟩
 |ifs (a b w p b1 b2) (ha:IsT a) (hb:IsT b) (hw:vk w) (h1:B b1) (h2:B b2∨∃ q,b2=⟨9,lit [],0,q,zq⟩):IsSt B ⟨15,lit w,0,p,⟨[a,b,b1,b2],true⟩⟩
 |whl (a b w p b1) (ha:IsT a) (hb:IsT b) (hw:vk w) (h1:B b1):IsSt B ⟨16,lit w,0,p,⟨[a,b,b1],true⟩⟩
 |ret0 (p):IsSt B ⟨17,lit [],0,p,zq⟩
 |ret1 (p a) (ha:IsT a):IsSt B ⟨17,lit [],0,p,⟨[a],true⟩⟩
 |abort (p):IsSt B ⟨18,lit [],0,p,zq⟩
 |fork (w p l b) (h:isName w) (ha:∀ a∈l,IsT a):IsSt B ⟨19,lit w,0,p,⟨l,b⟩⟩
 |act (w p q l b) (h:isName w) (ha:∀ a∈l,IsT a):IsSt B ⟨20,lit [],0,p,⟨[⟨28,lit w,0,q,⟨l,b⟩⟩],true⟩⟩
 |store (w p a b) (h:isName w) (ha:IsT a) (hb:IsT b):IsSt B ⟨11,lit w,0,p,⟨[a,b],true⟩⟩
 |set (w p e) (h:isName w) (he:IsE e):IsSt B ⟨10,lit w,0,p,⟨[e],true⟩⟩
theorem IsSt.kind {B:Nd→Prop}{n:Nd}(h:IsSt B n):Xu n.Kind_=true:=by
 cases h with
 |lock k w p m hk h hm=>rcases hk with rfl | rfl <;> rfl
 |_=>rfl
theorem XN {ts t1:List Tk}{m n:Nd}(g:GT ts) (h:Xs m ts = .ok (n,t1)):n=m∧GT t1:=by
 obtain ⟨u,t2,e2,h⟩:=zb h
 cases h
 exact ⟨rfl,ZP g e2⟩
theorem zkH {k:Int}{ts t1:List Tk}{n:Nd}(g:GT ts) (h:atP k ts = .ok (n,t1)):(∃ w p,∃ m:Nat,isName w∧m≤1099511627776∧n=⟨k,lit w,m,p,zq⟩)∧GT t1:=by
 obtain ⟨a,t2,e2,h⟩:=zb h
 obtain ⟨⟨w,p,hw,rfl⟩,g2⟩:=Zr g e2
 obtain ⟨u,t3,e3,h⟩:=zb h
 have g3:=ZP g2 e3
 obtain ⟨v,t4,e4,h⟩:=zb h
 obtain ⟨⟨m,hm,rfl⟩,g4⟩:=xQ g3 e4
 obtain ⟨u,t5,e5,h⟩:=zb h
 cases h
 rw [Int.one_mul]
 exact ⟨⟨w,p,m,hw,hm,rfl⟩,ZP g4 e5⟩
theorem zda {blk:List Tk→PR Nd}{B:Nd→Prop}(hb:BOK blk B) {k a0:Int}{ts t1:List Tk}{n:Nd}(g:GT ts) (h:xL blk k a0 ts = .ok (n,t1)) :
    (∃ a b w b1,IsT a∧IsT b∧vk w∧B b1∧n=⟨k,lit w,0,a0,⟨[a,b,b1],true⟩⟩)∧GT t1:=by
  obtain ⟨f,t2,e2,h⟩:=zb h
  obtain ⟨hf,g2⟩:=zf6 g e2
  obtain ⟨a,b,w,p,rfl,ha,hb',hw⟩:=hf.ex
  obtain ⟨c,t3,e3,h⟩:=zb h
  cases h
  obtain ⟨hc,g3⟩:=hb.out _ _ _ g2 e3
  exact ⟨⟨a,b,w,c,ha,hb',hw,hc,rfl⟩,g3⟩
theorem zkI {B:Nd→Prop}{w:List UInt8}{p:Int}(hw:isName w) {ts t1:List Tk}{n:Nd}(g:GT ts) (h:xc ⟨5,lit w,0,p,zq⟩ ts = .ok (n,t1)):IsSt B n∧GT t1:=by
 unfold xc at h
 split at h
 ·obtain ⟨ks,t2,e2,h⟩:=zb h
  cases h
  obtain ⟨ha,g2⟩:=zca g e2
  exact ⟨.act w p p ks.xs ks.nn hw ha,g2⟩
 split at h
 ·obtain ⟨a,t2,e2,h⟩:=zb h
  obtain ⟨u,t3,e3,h⟩:=zb h
  obtain ⟨u,t4,e4,h⟩:=zb h
  obtain ⟨b,t5,e5,h⟩:=zb h
  cases h
  obtain ⟨ha,g2⟩:=xB g.tl e2
  obtain ⟨hb,g5⟩:=xB (ZP (ZP g2 e3) e4) e5
  exact ⟨.store w p a b hw ha hb,g5⟩
 ·obtain ⟨u,t2,e2,h⟩:=zb h
  obtain ⟨e,t3,e3,h⟩:=zb h
  cases h
  obtain ⟨he,g3⟩:=zl3 (ZP g e2) e3
  exact ⟨.set w p e hw he,g3⟩
theorem zl5 {blk:List Tk→PR Nd}{B:Nd→Prop}(hb:BOK blk B) {ts t1:List Tk}{n:Nd}(g:GT ts) (h:ZQ blk ts = .ok (n,t1)):IsSt B n∧GT t1:=by
 unfold ZQ at h
 split at h
 ·obtain ⟨a,t2,e2,h⟩:=zb h
  obtain ⟨⟨w,p,hw,rfl⟩,g2⟩:=Zr g.tl e2
  obtain ⟨rfl,g3⟩:=XN g2 h
  exact ⟨.free _ _ hw,g3⟩
 split at h
 ·obtain ⟨a,t2,e2,h⟩:=zb h
  obtain ⟨⟨w,p,m,hw,hm,rfl⟩,g2⟩:=zkH g.tl e2
  obtain ⟨rfl,g3⟩:=XN g2 h
  exact ⟨.lock 13 _ _ m (.inl rfl) hw hm,g3⟩
 split at h
 ·obtain ⟨a,t2,e2,h⟩:=zb h
  obtain ⟨⟨w,p,m,hw,hm,rfl⟩,g2⟩:=zkH g.tl e2
  obtain ⟨rfl,g3⟩:=XN g2 h
  exact ⟨.lock 14 _ _ m (.inr rfl) hw hm,g3⟩
 split at h
 ·obtain ⟨a,t2,e2,h⟩:=zb h
  obtain ⟨⟨x,y,w,b1,hx,hy,hw,h1,rfl⟩,g2⟩:=zda hb g.tl e2
  split at h
  ·obtain ⟨b2,t3,e3,h⟩:=zb h
   cases h
   obtain ⟨h2,g3⟩:=hb.out _ _ _ g2.tl e3
   exact ⟨.ifs x y w _ b1 b2 hx hy hw h1 (.inl h2),g3⟩
  ·cases h
   exact ⟨.ifs x y w _ b1 _ hx hy hw h1 (.inr ⟨_,rfl⟩),g2⟩
 split at h
 ·obtain ⟨⟨x,y,w,b1,hx,hy,hw,h1,rfl⟩,g2⟩:=zda hb g.tl h
  exact ⟨.whl x y w _ b1 hx hy hw h1,g2⟩
 split at h
 ·split at h
  ·obtain ⟨rfl,g3⟩:=XN g.tl h
   exact ⟨.ret0 _,g3⟩
  ·obtain ⟨a,t2,e2,h⟩:=zb h
   obtain ⟨ha,g2⟩:=xB g.tl e2
   obtain ⟨rfl,g3⟩:=XN g2 h
   exact ⟨.ret1 _ a ha,g3⟩
 split at h
 ·obtain ⟨rfl,g3⟩:=XN g.tl h
  exact ⟨.abort _,g3⟩
 split at h
 ·obtain ⟨a,t2,e2,h⟩:=zb h
  obtain ⟨⟨w,p,hw,rfl⟩,g2⟩:=Zr g.tl e2
  obtain ⟨ks,t3,e3,h⟩:=zb h
  obtain ⟨ha,g3⟩:=zca g2 e3
  obtain ⟨rfl,g4⟩:=XN g3 h
  exact ⟨.fork w _ ks.xs ks.nn hw ha,g4⟩
 ·obtain ⟨a,t2,e2,h⟩:=zb h
  obtain ⟨⟨w,p,hw,rfl⟩,g2⟩:=Zr g e2
  obtain ⟨b,t3,e3,h⟩:=zb h
  obtain ⟨hs,g3⟩:=zkI (B:=B) hw g2 e3
  obtain ⟨rfl,g4⟩:=XN g3 h
  exact ⟨hs,g4⟩
theorem znF:LO [102,114,101,101,32] [(2,[102,114,101,101],0)]:=YV (w:=[102,114,101,101]) (ZY (by decide) (by decide) (by decide)) (by decide)
theorem znG:LO [108,111,99,107,32] [(2,[108,111,99,107],0)]:=YV (w:=[108,111,99,107]) (ZY (by decide) (by decide) (by decide)) (by decide)
theorem zkJ:LO [117,110,108,111,99,107,32] [(2,[117,110,108,111,99,107],0)]:=YV (w:=[117,110,108,111,99,107]) (ZY (by decide) (by decide) (by decide)) (by decide)
theorem zmH:LO [105,102,32] [(2,[105,102],0)]:=YV (w:=[105,102]) (ZY (by decide) (by decide) (by decide)) (by decide)
theorem zl6:LO [119,104,105,108,101,32] [(2,[119,104,105,108,101],0)]:=YV (w:=[119,104,105,108,101]) (ZY (by decide) (by decide) (by decide)) (by decide)
theorem znH:LO [32,101,108,115,101,32] [(2,[101,108,115,101],0)]:=Z3.app (YV (w:=[101,108,115,101]) (ZY (by decide) (by decide) (by decide)) (by decide))
theorem zkK:LX [114,101,116,117,114,110] [(2,[114,101,116,117,114,110],0)]:=wQ (ZY (by decide) (by decide) (by decide)) (by decide)
theorem zl7:LX [97,98,111,114,116] [(2,[97,98,111,114,116],0)]:=wQ (ZY (by decide) (by decide) (by decide)) (by decide)
theorem znI:LO [102,111,114,107,32] [(2,[102,111,114,107],0)]:=YV (w:=[102,111,114,107]) (ZY (by decide) (by decide) (by decide)) (by decide)
theorem xj:LO [59] [(4,[59],0)]:=Zd (c:=59) rfl
theorem zkL:LO [32,61,32] [(4,[61],0)]:=(Z3.appx (zdP (c:=61) rfl)).app Z3 rfl
theorem zkM:LO [93,32,61,32] [(4,[93],0),(4,[61],0)]:=(Zd (c:=93) rfl).app zkL
theorem wA {n:Nd}{ts:List Tk}{x:TQ}{r:List TQ}(h:ts.map tq=(4,[59],0)::r):Xs n ts = .ok (n,ts.tail):=by
 unfold Xs
 rw [yn h ⟨.inr rfl,rfl⟩]
 rfl
theorem LA.semi {r:List TQ}:LA ((4,[59],0)::r):=LA.mk1 (by decide)
theorem LA.rsq {r:List TQ}:LA ((4,[93],0)::r):=LA.mk1 (by decide)
theorem LA.lbr {r:List TQ}:LA ((4,[123],0)::r):=LA.mk1 (by decide)
def SS (k:List TQ):Prop:=LA k∧isQ [125] k=false
theorem SS.kw {w:List UInt8}{r:List TQ}(h:w≠[43]∧w≠[45]∧w≠[40]∧w≠[91]∧w≠[101,108,115,101]) (h2:w≠[125]):SS ((2,w,0)::r):=⟨LA.mk1 h,by simp [isQ,hq,h2]⟩
theorem SS.nm {w:List UInt8}{r:List TQ}:SS ((1,w,0)::r):=⟨LA.kind1,by simp [isQ,hq]⟩
theorem zoW {k:Int}{ts:List Tk}{w w':List UInt8}{v:Int}{r:List TQ}(h:ts.map tq=(1,w,0)::(4,[91],0)::(3,w',v)::(4,[93],0)::r) :
    atP k ts = .ok (⟨k,lit w,v,(hd ts).At_,zq⟩,ts.tail.tail.tail.tail):=by
  have e1:=zm h
  have e2:=zm e1
  have e3:=zm e2
  unfold atP
  rw [Zz h]
  simp only [PR.bd]
  rw [yn e1 ⟨.inr rfl,rfl⟩]
  simp only
  rw [wk e2]
  simp only
  rw [yn e3 ⟨.inr rfl,rfl⟩]
  simp only [Int.one_mul]
theorem zoX {k r:List TQ}(h:k.head?=some (4,[123],0)):LA (k++r):=by
 cases k with
 |nil=>cases h
 |cons x k=>simp at h;subst h;exact LA.lbr
theorem zgb {blk:List Tk→PR Nd}{B:Nd→Prop}(hB:BOK blk B) {a b b1:Nd}{w:List UInt8}(ha:IsT a) (hb:IsT b) (hw:vk w) (h1:B b1) (d:Nat) :
    ∃ k,LX (shN a d++[32]++w++[32]++shN b d++[32]++shN b1 d) k∧
      ∀ k0 a0 r ts,ts.map tq=k++r→∃ a' b' c' t1,xL blk k0 a0 ts = .ok (⟨k0,lit w,0,a0,⟨[a',b',c'],true⟩⟩,t1)∧zN a'=zN a∧zN b'=zN b∧zN c'=zN b1∧t1.map tq=r:=by
  obtain ⟨k,l,ne,s,e⟩:=zkD ha hb hw d
  obtain ⟨kc,lc,sc,ec⟩:=hB.rt _ h1 d
  refine ⟨k++kc,?_,?_⟩
  · have:=(l.app Z3 rfl).appx lc
    simpa only [List.append_nil] using this
  · intro k0 a0 r ts h
    obtain ⟨a',b',t1,h1,z1,z2,e1⟩:=e (kc++r) (zoX sc) ts (by rw [h,List.append_assoc])
    obtain ⟨c',t2,h2,z3,e2⟩:=ec r t1 e1
    refine ⟨a',b',c',t2,?_,z1,z2,z3,e2⟩
    unfold xL
    rw [h1]
    simp only [PR.bd]
    rw [h2]
    rfl
theorem znJ {blk:List Tk→PR Nd}{B:Nd→Prop}(hB:BOK blk B) {n:Nd}(h:IsSt B n):Rt (ZQ blk) SS n:=by
 intro d
 cases h with
 |free w p h=>
  have hf:zE 12 ([]:List Nd)=true:=rfl
  refine ⟨[(2,[102,114,101,101],0),(1,w,0),(4,[59],0)],?_,by simp,SS.kw (by decide) (by decide),fun r hr ts e=>?_⟩
  ·rw [zX hf]
   exact ((znF.appx (Zm h)).app xj rfl).x
  ·have e1:=zR e
   have e2:=zm e1
   refine ⟨⟨12,lit w,0,(hd ts).At_,zq⟩,ts.tail.tail.tail,?_,Y6 _ _ _ _ _ _,zm e2⟩
   simp only [List.cons_append] at e
   unfold ZQ
   rw [zj e,if_pos (by rfl),Zz e1]
   simp only [PR.bd]
   exact wA (x:=(4,[59],0)) e2
 |lock k w p m hk h hm=>
  have hf:zE k ([]:List Nd)=true:=by rcases hk with rfl | rfl <;> rfl
  have lq:LO (w++[91]++Lib.itoa m++[93,59]) [(1,w,0),(4,[91],0),(3,Lib.decDigits m,m),(4,[93],0),(4,[59],0)]:=by
   rw [zga]
   exact (((Zm h).app (Zd (c:=91) rfl) rfl).appx (WL hm)).app ((Zd (c:=93) rfl).app xj) rfl
  rcases hk with rfl | rfl
  ·refine ⟨[(2,[108,111,99,107],0),(1,w,0),(4,[91],0),(3,Lib.decDigits m,m),(4,[93],0),(4,[59],0)],?_,by simp,SS.kw (by decide) (by decide),fun r hr ts e=>?_⟩
   ·rw [zX hf]
    exact (znG.app lq).x
   ·have e1:=zR e
    have e5:=zm (zm (zm (zm e1)))
    refine ⟨⟨13,lit w,m,(hd ts).At_,zq⟩,ts.tail.tail.tail.tail.tail.tail,?_,Y6 _ _ _ _ _ _,zm e5⟩
    simp only [List.cons_append] at e
    unfold ZQ
    rw [zj e,zj e,if_neg (by decide),if_pos (by rfl),zoW e1]
    simp only [PR.bd]
    exact wA (x:=(4,[59],0)) e5
  ·refine ⟨[(2,[117,110,108,111,99,107],0),(1,w,0),(4,[91],0),(3,Lib.decDigits m,m),(4,[93],0),(4,[59],0)],?_,by simp,SS.kw (by decide) (by decide),fun r hr ts e=>?_⟩
   ·rw [zX hf]
    exact (zkJ.app lq).x
   ·have e1:=zR e
    have e5:=zm (zm (zm (zm e1)))
    refine ⟨⟨14,lit w,m,(hd ts).At_,zq⟩,ts.tail.tail.tail.tail.tail.tail,?_,Y6 _ _ _ _ _ _,zm e5⟩
    simp only [List.cons_append] at e
    unfold ZQ
    rw [zj e,zj e,zj e,if_neg (by decide),if_neg (by decide),if_pos (by rfl),zoW e1]
    simp only [PR.bd]
    exact wA (x:=(4,[59],0)) e5
 |ifs a b w p b1 b2 ha hb hw h1 h2=>
  have k1:b1.Kind_=9:=by obtain ⟨p,l,rfl⟩:=hB.form _ h1;rfl
  have k2:b2.Kind_=9:=by
   rcases h2 with h2 | ⟨q,rfl⟩
   ·obtain ⟨p,l,rfl⟩:=hB.form _ h2;rfl
   ·rfl
  have hf:zE 15 [a,b,b1,b2]=true:=by unfold zE;simp [Z9,kK,ha.kind,hb.kind,k1,k2]
  obtain ⟨k,lk,ek⟩:=zgb hB ha hb hw h1 d
  by_cases hn:b2.Kids_.xs=[]
  ·have hz:zN b2=zN ⟨9,lit [],0,0,zq⟩:=by
    rcases h2 with h2 | ⟨q,rfl⟩
    ·obtain ⟨p,l,rfl⟩:=hB.form _ h2
     have:l=[]:=hn
     subst this
     rw [ZH,mkS,ZH]
    ·rw [ZH,ZH]
   refine ⟨(2,[105,102],0)::k,?_,by simp,SS.kw (by decide) (by decide),fun r hr ts e=>?_⟩
   ·rw [zX hf]
    have hk:Xi ([a,b,b1,b2].drop 3)=true:=by show b2.Kids_.xs.isEmpty=true;rw [hn];rfl
    show LX ([105,102]++[32]++shN a d++[32]++w++[32]++shN b d++[32]++shN b1 d++(if Xi ([a,b,b1,b2].drop 3)=true then [] else [32,101,108,115,101,32]++shN b2 d)) _
    rw [if_pos hk,List.append_nil]
    have:=zmH.appx lk
    simpa only [List.append_assoc,List.cons_append,List.nil_append] using this
   ·have e1:=zR e
    obtain ⟨a',b',c',t1,h1',z1,z2,z3,e2⟩:=ek 15 (hd ts).At_ r ts.tail e1
    refine ⟨⟨15,lit w,0,(hd ts).At_,⟨[a',b',c',⟨9,lit [],0,(hd ts).At_,zq⟩],true⟩⟩,t1,?_,?_,e2⟩
    ·simp only [List.cons_append] at e
     unfold ZQ
     rw [zj e,zj e,zj e,zj e,if_neg (by decide),if_neg (by decide),if_neg (by decide),if_pos (by rfl),h1']
     simp only [PR.bd]
     rw [Yp,e2,hr.els,if_neg (by decide)]
     rfl
    ·simp only [ZH,List.map_cons,List.map_nil,z1,z2,z3,hz]
  ·have h2:B b2:=by
    rcases h2 with h2 | ⟨q,rfl⟩
    ·exact h2
    ·exact absurd rfl hn
   obtain ⟨kc,lc,sc,ec⟩:=hB.rt _ h2 d
   refine ⟨(2,[105,102],0)::(k++(2,[101,108,115,101],0)::kc),?_,by simp,SS.kw (by decide) (by decide),fun r hr ts e=>?_⟩
   ·rw [zX hf]
    have hk:¬ Xi ([a,b,b1,b2].drop 3)=true:=by
     show ¬ b2.Kids_.xs.isEmpty=true
     simpa using hn
    show LX ([105,102]++[32]++shN a d++[32]++w++[32]++shN b d++[32]++shN b1 d++(if Xi ([a,b,b1,b2].drop 3)=true then [] else [32,101,108,115,101,32]++shN b2 d)) _
    rw [if_neg hk]
    have:=zmH.appx ((lk.app znH rfl).appx lc)
    simpa only [List.append_assoc,List.cons_append,List.nil_append] using this
   ·have e1:=zR e
    obtain ⟨a',b',c',t1,h1',z1,z2,z3,e2⟩:=ek 15 (hd ts).At_ ((2,[101,108,115,101],0)::(kc++r)) ts.tail (by rw [e1];simp)
    obtain ⟨d',t2,h2',z4,e3⟩:=ec r t1.tail (zm e2)
    refine ⟨⟨15,lit w,0,(hd ts).At_,⟨[a',b',c',d'],true⟩⟩,t2,?_,?_,e3⟩
    ·simp only [List.cons_append] at e
     unfold ZQ
     rw [zj e,zj e,zj e,zj e,if_neg (by decide),if_neg (by decide),if_neg (by decide),if_pos (by rfl),h1']
     simp only [PR.bd]
     rw [zj e2,if_pos (by rfl),h2']
     rfl
    ·simp only [ZH,List.map_cons,List.map_nil,z1,z2,z3,z4]
 |whl a b w p b1 ha hb hw h1=>
  have k1:b1.Kind_=9:=by obtain ⟨p,l,rfl⟩:=hB.form _ h1;rfl
  have hf:zE 16 [a,b,b1]=true:=by unfold zE;simp [Z9,kK,ha.kind,hb.kind,k1]
  obtain ⟨k,lk,ek⟩:=zgb hB ha hb hw h1 d
  refine ⟨(2,[119,104,105,108,101],0)::k,?_,by simp,SS.kw (by decide) (by decide),fun r hr ts e=>?_⟩
  ·rw [zX hf]
   show LX ([119,104,105,108,101]++[32]++shN a d++[32]++w++[32]++shN b d++[32]++shN b1 d) _
   have:=zl6.appx lk
   simpa only [List.append_assoc,List.cons_append,List.nil_append] using this
  ·have e1:=zR e
   obtain ⟨a',b',c',t1,h1',z1,z2,z3,e2⟩:=ek 16 (hd ts).At_ r ts.tail e1
   refine ⟨⟨16,lit w,0,(hd ts).At_,⟨[a',b',c'],true⟩⟩,t1,?_,by simp only [ZH,List.map_cons,List.map_nil,z1,z2,z3],e2⟩
   simp only [List.cons_append] at e
   unfold ZQ
   rw [zj e,zj e,zj e,zj e,zj e,if_neg (by decide),if_neg (by decide),if_neg (by decide),if_neg (by decide),if_pos (by rfl)]
   exact h1'
 |ret0 p=>
  have hf:zE 17 ([]:List Nd)=true:=rfl
  refine ⟨[(2,[114,101,116,117,114,110],0),(4,[59],0)],?_,by simp,SS.kw (by decide) (by decide),fun r hr ts e=>?_⟩
  ·rw [zX hf]
   exact (zkK.app xj rfl).x
  ·have e1:=zR e
   refine ⟨⟨17,lit [],0,(hd ts).At_,zq⟩,ts.tail.tail,?_,Y6 _ _ _ _ _ _,zm e1⟩
   simp only [List.cons_append] at e e1
   unfold ZQ
   rw [zj e,zj e,zj e,zj e,zj e,zj e,if_neg (by decide),if_neg (by decide),if_neg (by decide),if_neg (by decide),if_neg (by decide),if_pos (by rfl),zj e1,if_pos (by rfl)]
   exact wA (x:=(4,[59],0)) e1
 |ret1 p a ha=>
  have hf:zE 17 [a]=true:=by unfold zE;simp [Z9,xm,ha.kind]
  obtain ⟨k,lk,nk,sk,ek⟩:=wl ha d
  refine ⟨(2,[114,101,116,117,114,110],0)::(k++[(4,[59],0)]),?_,by simp,SS.kw (by decide) (by decide),fun r hr ts e=>?_⟩
  ·rw [zX hf]
   show LX ([114,101,116,117,114,110]++[32]++shN a d++[59]) _
   have:=((zkK.app Z3 rfl).appx lk).app xj rfl
   exact this.x
  ·have e1:=zR e
   obtain ⟨a',t1,h1,z1,e3⟩:=ek ((4,[59],0)::r) LA.semi ts.tail (by rw [e1];simp)
   refine ⟨⟨17,lit [],0,(hd ts).At_,⟨[a'],true⟩⟩,t1.tail,?_,by simp only [ZH,List.map_cons,List.map_nil,z1],zm e3⟩
   simp only [List.cons_append] at e
   unfold ZQ
   rw [zj e,zj e,zj e,zj e,zj e,zj e,if_neg (by decide),if_neg (by decide),if_neg (by decide),if_neg (by decide),if_neg (by decide),if_pos (by rfl),Yp,e1,List.append_assoc,XM nk,sk.2,if_neg (by decide),h1]
   exact wA (x:=(4,[59],0)) e3
 |abort p=>
  have hf:zE 18 ([]:List Nd)=true:=rfl
  refine ⟨[(2,[97,98,111,114,116],0),(4,[59],0)],?_,by simp,SS.kw (by decide) (by decide),fun r hr ts e=>?_⟩
  ·rw [zX hf]
   exact (zl7.app xj rfl).x
  ·have e1:=zR e
   refine ⟨⟨18,lit [],0,(hd ts).At_,zq⟩,ts.tail.tail,?_,Y6 _ _ _ _ _ _,zm e1⟩
   simp only [List.cons_append] at e
   unfold ZQ
   rw [zj e,zj e,zj e,zj e,zj e,zj e,zj e,if_neg (by decide),if_neg (by decide),if_neg (by decide),if_neg (by decide),if_neg (by decide),if_neg (by decide),if_pos (by rfl)]
   exact wA (x:=(4,[59],0)) e1
 |fork w p l b h ha=>
  have hf:zE 19 l=true:=by
   unfold zE
   simp [Z9,xm]
   exact fun x hx=>(ha x hx).kind
  obtain ⟨q,lq,eq⟩:=zf8 d l ha
  refine ⟨(2,[102,111,114,107],0)::(1,w,0)::(((4,[40],0)::q)++[(4,[59],0)]),?_,by simp,SS.kw (by decide) (by decide),fun r hr ts e=>?_⟩
  ·rw [zX hf]
   have:=(znI.appx (Zm h)).app (lq.app xj) rfl
   show LX ([102,111,114,107,32]++w++[40]++ZT (l.map fun a=>shN a d)++[41,59]) _
   simpa only [List.append_assoc,List.cons_append,List.nil_append] using this.x
  ·have e1:=zR e
   have e2:=zR e1
   obtain ⟨ks,t1,h1,z1,e3⟩:=eq ((4,[59],0)::r) ts.tail.tail (by rw [e2];simp)
   refine ⟨⟨19,lit w,0,(hd ts).At_,ks⟩,t1.tail,?_,zc9 z1,zm e3⟩
   simp only [List.cons_append] at e
   unfold ZQ
   rw [zj e,zj e,zj e,zj e,zj e,zj e,zj e,zj e,if_neg (by decide),if_neg (by decide),if_neg (by decide),if_neg (by decide),if_neg (by decide),if_neg (by decide),if_neg (by decide),if_pos (by rfl),Zz e1]
   simp only [PR.bd]
   rw [h1]
   exact wA (x:=(4,[59],0)) e3
 |act w p q l b h ha=>
  have hf:zE 20 [(⟨28,lit w,0,q,⟨l,b⟩⟩:Nd)]=true:=rfl
  have hf2:zE 28 l=true:=by
   unfold zE
   simp [Z9,xm]
   exact fun x hx=>(ha x hx).kind
  obtain ⟨k,lq,eq⟩:=zf8 d l ha
  refine ⟨(1,w,0)::(((4,[40],0)::k)++[(4,[59],0)]),?_,by simp,SS.nm,fun r hr ts e=>?_⟩
  ·rw [zX hf]
   show LX (shN ⟨28,lit w,0,q,⟨l,b⟩⟩ d++[59]) _
   rw [zX hf2]
   have:=(Zm h).app (lq.app xj) rfl
   show LX (w++[40]++ZT (l.map fun a=>shN a d)++[41]++[59]) _
   simpa only [List.append_assoc,List.cons_append,List.nil_append] using this.x
  ·have e1:=zR e
   obtain ⟨ks,t1,h1,z1,e3⟩:=eq ((4,[59],0)::r) ts.tail (by rw [e1];simp)
   refine ⟨⟨20,lit [],0,(hd ts).At_,⟨[⟨28,lit w,0,(hd ts).At_,ks⟩],true⟩⟩,t1.tail,?_,?_,zm e3⟩
   ·simp only [List.cons_append] at e e1
    unfold ZQ
    rw [zj e,zj e,zj e,zj e,zj e,zj e,zj e,zj e,zw,zw,zw,zw,zw,zw,zw,zw,if_neg (by decide),if_neg (by decide),if_neg (by decide),if_neg (by decide),if_neg (by decide),if_neg (by decide),if_neg (by decide),if_neg (by decide),Zz e]
    simp only [PR.bd]
    unfold xc
    rw [zj e1,if_pos (by rfl),h1]
    exact wA (x:=(4,[59],0)) e3
   ·show zN _=zN _
    rw [ZH,ZH]
    simp only [List.map_cons,List.map_nil]
    rw [show zN ⟨28,lit w,0,(hd ts).At_,ks⟩=zN ⟨28,lit w,0,q,⟨l,b⟩⟩ from zc9 z1]
 |store w p a b h ha hb=>
  have hf:zE 11 [a,b]=true:=by unfold zE;simp [Z9,kK,ha.kind,hb.kind]
  obtain ⟨ka,la,na,sa,ea⟩:=wl ha d
  obtain ⟨kb,lb,nb,sb,eb⟩:=wl hb d
  refine ⟨(1,w,0)::(4,[91],0)::(ka++(4,[93],0)::(4,[61],0)::(kb++[(4,[59],0)])),?_,by simp,SS.nm,fun r hr ts e=>?_⟩
  ·rw [zX hf]
   show LX (w++[91]++shN a d++[93,32,61,32]++shN b d++[59]) _
   have:=(((((Zm h).app (Zd (c:=91) rfl) rfl).appx la).app zkM rfl).appx lb).app xj rfl
   simpa only [List.append_assoc,List.cons_append,List.nil_append] using this.x
  ·have e1:=zR e
   have e2:=zR e1
   obtain ⟨a',t1,h1,z1,e3⟩:=ea ((4,[93],0)::(4,[61],0)::(kb++(4,[59],0)::r)) LA.rsq ts.tail.tail (by rw [e2];simp)
   obtain ⟨b',t2,h2,z2,e4⟩:=eb ((4,[59],0)::r) LA.semi t1.tail.tail (zm (zm e3))
   refine ⟨⟨11,lit w,0,(hd ts).At_,⟨[a',b'],true⟩⟩,t2.tail,?_,by simp only [ZH,List.map_cons,List.map_nil,z1,z2],zm e4⟩
   simp only [List.cons_append] at e e1
   unfold ZQ
   rw [zj e,zj e,zj e,zj e,zj e,zj e,zj e,zj e,zw,zw,zw,zw,zw,zw,zw,zw,if_neg (by decide),if_neg (by decide),if_neg (by decide),if_neg (by decide),if_neg (by decide),if_neg (by decide),if_neg (by decide),if_neg (by decide),Zz e]
   simp only [PR.bd]
   unfold xc
   rw [zj e1,zj e1,if_neg (by decide),if_pos (by rfl),h1]
   simp only [PR.bd]
   rw [yn e3 ⟨.inr rfl,rfl⟩]
   simp only
   rw [yn (zm e3) ⟨.inr rfl,rfl⟩]
   simp only
   rw [h2]
   exact wA (x:=(4,[59],0)) e4
 |set w p a h ha=>
  have hf:zE 10 [a]=true:=by unfold zE;simp [Z9,ha.kind]
  obtain ⟨ka,la,na,sa,ea⟩:=znE ha d
  refine ⟨(1,w,0)::(4,[61],0)::(ka++[(4,[59],0)]),?_,by simp,SS.nm,fun r hr ts e=>?_⟩
  ·rw [zX hf]
   show LX (w++[32,61,32]++shN a d++[59]) _
   have:=(((Zm h).app zkL rfl).appx la).app xj rfl
   simpa only [List.append_assoc,List.cons_append,List.nil_append] using this.x
  ·have e1:=zR e
   have e2:=zR e1
   obtain ⟨a',t1,h1,z1,e3⟩:=ea ((4,[59],0)::r) LA.semi ts.tail.tail (by rw [e2];simp)
   refine ⟨⟨10,lit w,0,(hd ts).At_,⟨[a'],true⟩⟩,t1.tail,?_,by simp only [ZH,List.map_cons,List.map_nil,z1],zm e3⟩
   simp only [List.cons_append] at e e1
   unfold ZQ
   rw [zj e,zj e,zj e,zj e,zj e,zj e,zj e,zj e,zw,zw,zw,zw,zw,zw,zw,zw,if_neg (by decide),if_neg (by decide),if_neg (by decide),if_neg (by decide),if_neg (by decide),if_neg (by decide),if_neg (by decide),if_neg (by decide),Zz e]
   simp only [PR.bd]
   unfold xc
   rw [zj e1,zj e1,if_neg (by decide),if_neg (by decide),yn e1 ⟨.inr rfl,rfl⟩]
   simp only [PR.bd]
   rw [h1]
   exact wA (x:=(4,[59],0)) e3
end Go.Px
namespace Go.Px
set_option linter.unusedVariables false
set_option linter.unusedSimpArgs false
def IsB:Nat→Nd→Prop
 |0,_=>False
 |r+1,n=>∃ p l,n=⟨9,lit [],0,p,mkS l⟩∧∀ a∈l,IsSt (IsB r) a
theorem zdS:∀ (n:Nat) (r:List UInt8),yl (List.replicate n 32++r)=yl r
 |0,r=>rfl
 |n+1,r=>by
  rw [List.replicate_succ,List.cons_append]
  have:=Z3.lo (List.replicate n 32++r)
  rw [show (32::(List.replicate n 32++r))=[32]++(List.replicate n 32++r) from rfl,this,zdS n r]
  cases yl r <;> rfl
theorem ziX:∀ (n:Nat) (p:Bool),cl p (List.replicate n 32)=some (p && decide (n=0))
 |0,p=>by simp [cl]
 |n+1,p=>by
  rw [List.replicate_succ,cl,if_neg (by simp)]
  have:=ziX n false
  simp only [Bool.false_and] at this
  simp [this]
def YW (d:Nat) (l:List Nd):List UInt8:=((l.map fun a=>shN a d).map fun x=>Za d++x++[10]).flatten
theorem zhB {one:List Tk→PR Nd}(d:Nat) (hd:0 < d):∀ items:List Nd,(∀ n∈items,Rt one SS n)→∃ q,(∀ r,yl (YW d items++r)=(yl r).map fun x=>q++x)∧cl true (YW d items)=some true∧
    items.length≤q.length∧(∀ r,LA r→LA (q++r))∧∀ r fuel,items.length < fuel→∀ acc:List Nd,zf2 (Yk one fuel acc) (q++[(4,[125],0)]) r fun l=>l.map zN=acc.map zN++items.map zN
  |[],h=>by
    refine ⟨[],fun r=>?_,rfl,Nat.le_refl _,fun r hr=>hr,fun r fuel hf acc ts e=>⟨acc,ts.tail,?_,?_,zm e⟩⟩
    · show yl r=_
      cases yl r <;> rfl
    · cases fuel with
      |zero=>simp at hf
      |succ f=>
        unfold Yk
        rw [zj (x:=(4,[125],0)) e,if_pos (by rfl)]
    · show acc.map zN=_
      simp
  |a::items,h=>by
    obtain ⟨q,l,cq,len,la,ea⟩:=zhB d hd items fun n hn=>h n (by simp [hn])
    obtain ⟨k,lk,nk,sk,ek⟩:=h a (by simp) d
    have et:YW d (a::items)=Za d++(shN a d++([10]++YW d items)):=by
      unfold YW
      simp
    refine ⟨k++q,fun r=>?_,?_,?_,fun r hr=>?_,?_⟩
    · rw [et]
      have e1:Za d++(shN a d++([10]++YW d items))++r=List.replicate (4 * d) 32++(shN a d++(10::(YW d items++r))):=by simp [Za]
      rw [e1,zdS,lk.lx _ (.inr rfl),zdO,l]
      cases yl r <;> simp
    · rw [et,wP]
      unfold Za
      rw [ziX,show decide (4 * d=0)=false by simp;omega,Option.bind_some,wP,lk.cw]
      simp only [Bool.and_false,Bool.false_and,Option.bind_some]
      show cl true (YW d items)=_
      exact cq
    · have:1≤k.length:=by cases k with
        |nil=>exact absurd rfl nk
        |cons x k=>simp
      simp;omega
    · rw [List.append_assoc];exact sk.1.app nk _
    · intro r fuel hf acc ts e
      cases fuel with
      |zero=>simp at hf
      |succ f=>
        obtain ⟨a',t1,h1,z1,e2⟩:=ek (q++[(4,[125],0)]++r) (by rw [List.append_assoc];exact la _ (LA.mk1 (by decide))) ts (by rw [e];simp)
        obtain ⟨l',t2,h2,z2,e3⟩:=ea r f (by simp at hf;omega) (acc++[a']) t1 e2
        refine ⟨l',t2,?_,?_,e3⟩
        · unfold Yk
          rw [Yp,e,List.append_assoc,List.append_assoc,XM nk,sk.2,if_neg (by decide),h1]
          exact h2
        · show l'.map zN=_
          rw [z2];simp [z1]
theorem zez {one:List Tk→PR Nd}{K:Nd→Prop}(ho:∀ ts n t1,GT ts→one ts = .ok (n,t1)→K n∧GT t1):∀ (k:Nat) (acc:List Nd) (ts:List Tk) (l:List Nd) (t1:List Tk),GT ts→(∀ a∈acc,K a)→Yk one k acc ts = .ok (l,t1)→(∀ a∈l,K a)∧GT t1
 |0,acc,ts,l,t1,g,ha,h=>by cases h
 |k+1,acc,ts,l,t1,g,ha,h=>by
  unfold Yk at h
  split at h
  ·cases h;exact ⟨ha,g.tl⟩
  ·obtain ⟨a,t,e,h⟩:=zb h
   obtain ⟨h1,g1⟩:=ho _ _ _ g e
   exact zez ho k _ _ _ _ g1 (fun b hb=>by
    rcases List.mem_append.1 hb with hb | hb
    ·exact ha b hb
    ·simp at hb;rw [hb];exact h1) h
theorem W5:∀ r,BOK (yE r) (IsB r)
 |0=>by
  refine ⟨fun ts n t1 g h=>?_,fun n h=>h.elim,fun n h=>h.elim⟩
  unfold yE at h
  split at h <;> cases h
 |r+1=>by
  have ih:=W5 r
  refine ⟨fun ts n t1 g h=>?_,fun n h=>?_,fun n h d=>?_⟩
  ·unfold yE at h
   obtain ⟨u,t2,e2,h⟩:=zb h
   obtain ⟨l,t3,e3,h⟩:=zb h
   cases h
   obtain ⟨h1,g1⟩:=zez (K:=IsSt (IsB r)) (fun ts n t1 g h=>zl5 ih g h) _ _ _ _ _ (ZP g e2) (fun a ha=>by cases ha) e3
   exact ⟨⟨_,l,rfl,h1⟩,g1⟩
  ·obtain ⟨p,l,e,_⟩:=h
   exact ⟨p,l,e⟩
  ·obtain ⟨p,l,rfl,hl⟩:=h
   have hf:zE 9 l=true:=by
    unfold zE
    simp [Z9]
    exact fun a ha=>(hl a ha).kind
   obtain ⟨q,lq,cq,len,la,eq⟩:=zhB (one:=ZQ (yE r)) (d+1) (by omega) l fun n hn=>znJ ih (hl n hn)
   refine ⟨(4,[123],0)::(q++[(4,[125],0)]),?_,rfl,fun s ts e=>?_⟩
   ·unfold mkS
    rw [zX hf]
    have et:shB 9 (bs (lit [])) 0 l (l.map fun a=>shN a d) (l.map fun a=>shN a (d+1)) d=[123]++([10]++(YW (d+1) l++(Za d++[125]))):=by
     show [123,10]++((l.map fun a=>shN a (d+1)).map fun x=>Za (d+1)++x++[10]).flatten++Za d++[125]=_
     unfold YW
     simp
    rw [et]
    refine ⟨fun r hr=>?_,fun p=>?_⟩
    ·have e1:[123]++([10]++(YW (d+1) l++(Za d++[125])))++r=[123]++(10::(YW (d+1) l++(List.replicate (4 * d) 32++([125]++r)))):=by simp [Za]
     rw [e1,(Zd (c:=123) rfl).lo,zdO,lq,zdS,(Zd (c:=125) rfl).lo]
     cases yl r <;> simp
    ·rw [wP,(Zd (c:=123) rfl).cw,Option.bind_some]
     show (cl (p && false) ([10]++_))=_
     rw [Bool.and_false]
     show cl true (YW (d+1) l++(Za d++[125]))=_
     rw [wP,cq,Option.bind_some,wP]
     unfold Za
     rw [ziX,Option.bind_some,(Zd (c:=125) rfl).cw]
     simp
   ·have e1:=zR e
    have hl2:q.length+1≤ts.tail.length:=by
     have:=congrArg List.length e1
     rw [List.length_map] at this
     simp only [List.length_append,List.length_cons,List.length_nil] at this
     omega
    obtain ⟨l',t2,h2,z2,e3⟩:=eq s ts.tail.length (by omega) [] ts.tail e1
    refine ⟨⟨9,lit [],0,(hd ts).At_,mkS l'⟩,t2,?_,zc9 z2,e3⟩
    unfold yE
    rw [yn e ⟨.inr rfl,rfl⟩]
    simp only [PR.bd]
    rw [h2]
theorem znK:LO [116,121,112,101,32] [(2,[116,121,112,101],0)]:=YV (w:=[116,121,112,101]) (ZY (by decide) (by decide) (by decide)) (by decide)
theorem zpQ:LO [102,110,32] [(2,[102,110],0)]:=YV (w:=[102,110]) (ZY (by decide) (by decide) (by decide)) (by decide)
theorem zl8:LO [32,119,104,101,114,101,32] [(2,[119,104,101,114,101],0)]:=Z3.app (YV (w:=[119,104,101,114,101]) (ZY (by decide) (by decide) (by decide)) (by decide))
theorem zl9:LO [32,45,62,32] [(4,[45,62],0)]:=(Z3.app (zfY (a:=45) (b:=62) (.inl rfl))).app Z3
def Wc (ts:List Tk):PR Nd:=if isP [102,110] ts=true then fnP (hd ts).At_ ts.tail else (Zc [116,121,112,101] ts).bd fun _ t1=>Vx (hd ts).At_ t1
structure IsFn (n:Nd):Prop where
 ex:∃ w p ps ret b,n=⟨6,lit w,0,p,⟨ps++[ret,b],true⟩⟩∧isName w∧(∀ a∈ps,IsPm a)∧((∃ q,ret=⟨8,lit [],0,q,zq⟩)∨(IsM ret∧(bs ret.Text_).head?≠some 38))∧IsB 8 b
structure IsTy (n:Nd):Prop where
 ex:∃ w p s fs cs,n=⟨1,lit w,0,p,⟨[s]++fs++cs,true⟩⟩∧isName w∧IsS s∧(∀ a∈fs,IsFd a)∧(∀ a∈cs,IsF a)
theorem zoY {a0:Int}{ts t1:List Tk}{n:Nd}(g:GT ts) (h:fnP a0 ts = .ok (n,t1)):IsFn n∧GT t1:=by
 obtain ⟨a,t2,e2,h⟩:=zb h
 obtain ⟨⟨w,p,hw,rfl⟩,g2⟩:=Zr g e2
 obtain ⟨u,t3,e3,h⟩:=zb h
 have g3:=ZP g2 e3
 obtain ⟨ps,t4,e4,h⟩:=zb h
 have hp:(∀ a∈ps,IsPm a)∧GT t4:=by
  split at e4
  ·cases e4;exact ⟨fun a h=>(by cases h),g3⟩
  ·obtain ⟨h1,h2⟩:=VJ (K:=IsPm) (fun ts n t1 g h=>zkF g h) g3 e4
   exact ⟨h1.2,h2⟩
 obtain ⟨hp,g4⟩:=hp
 obtain ⟨u,t5,e5,h⟩:=zb h
 have g5:=ZP g4 e5
 obtain ⟨ret,t6,e6,h⟩:=zb h
 have hr:((∃ q,ret=⟨8,lit [],0,q,zq⟩)∨(IsM ret∧(bs ret.Text_).head?≠some 38))∧GT t6:=by
  split at e6
  ·split at e6
   ·cases e6
   ·rename_i hn
    obtain ⟨h1,h2,h3⟩:=zf9 g5.tl e6
    exact ⟨.inr ⟨h1,h3 (by simpa using hn)⟩,h2⟩
  ·cases e6;exact ⟨.inl ⟨_,rfl⟩,g5⟩
 obtain ⟨hr,g6⟩:=hr
 obtain ⟨b,t7,e7,h⟩:=zb h
 cases h
 obtain ⟨hb,g7⟩:=(W5 8).out _ _ _ g6 e7
 exact ⟨⟨w,a0,ps,ret,b,rfl,hw,hp,hr,hb⟩,g7⟩
theorem zoZ {a0:Int}{ts t1:List Tk}{n:Nd}(g:GT ts) (h:Vx a0 ts = .ok (n,t1)):IsTy n∧GT t1:=by
 obtain ⟨a,t2,e2,h⟩:=zb h
 obtain ⟨⟨w,p,hw,rfl⟩,g2⟩:=Zr g e2
 obtain ⟨s,t3,e3,h⟩:=zb h
 obtain ⟨hs,g3⟩:=zlY g2 e3
 obtain ⟨ks,t4,e4,h⟩:=zb h
 have hk:∃ fs,ks=[s]++fs∧(∀ a∈fs,IsFd a)∧GT t4:=by
  split at e4
  ·obtain ⟨l,t5,e5,e4⟩:=zb e4
   obtain ⟨u,t6,e6,e4⟩:=zb e4
   cases e4
   obtain ⟨h1,h2⟩:=VJ (K:=IsFd) (fun ts n t1 g h=>zkE g h) g3.tl e5
   exact ⟨l,rfl,h1.2,ZP h2 e6⟩
  ·cases e4;exact ⟨[],by simp,fun a h=>(by cases h),g3⟩
 obtain ⟨fs,rfl,hf,g4⟩:=hk
 obtain ⟨ks,t5,e5,h⟩:=zb h
 have hk:∃ cs,ks=[s]++fs++cs∧(∀ a∈cs,IsF a)∧GT t5:=by
  split at e5
  ·obtain ⟨l,t6,e6,e5⟩:=zb e5
   cases e5
   obtain ⟨h1,h2⟩:=VJ (K:=IsF) (fun ts n t1 g h=>zf6 g h) g4.tl e6
   exact ⟨l,rfl,h1.2,h2⟩
  ·cases e5;exact ⟨[],by simp,fun a h=>(by cases h),g4⟩
 obtain ⟨cs,rfl,hc,g5⟩:=hk
 obtain ⟨u,t6,e6,h⟩:=zb h
 cases h
 exact ⟨⟨w,a0,s,fs,cs,rfl,hw,hs,hf,hc⟩,ZP g5 e6⟩
end Go.Px
namespace Go.Px
set_option linter.unusedVariables false
set_option linter.unusedSimpArgs false
theorem zma (d:Nat) (ps:List Nd) (h:∀ a∈ps,IsPm a):∃ q,LO ([40]++ZT (ps.map fun a=>shN a d)++[41]) ((4,[40],0)::(q++[(4,[41],0)]))∧
    ∀ r ts,ts.map tq=q++(4,[41],0)::r→∃ l t1,(if isP [41] ts=true then .ok ([],ts) else yp YC ts:PR (List Nd)) = .ok (l,t1)∧l.map zN=ps.map zN∧t1.map tq=(4,[41],0)::r:=by
  cases ps with
  |nil=>
    refine ⟨[],(Zd (c:=40) rfl).app (Zd (c:=41) rfl),fun r ts e=>⟨[],ts,?_,rfl,e⟩⟩
    rw [zj (x:=(4,[41],0)) e,if_pos (by rfl)]
  |cons a items=>
    obtain ⟨k,q,lx,nk,sk,ek⟩:=zbr (one:=YC) (S:=TS) d a items fun n hn=>zl2 (h n hn)
    refine ⟨k++q,?_,fun r ts e=>?_⟩
    · have:=((Zd (c:=40) rfl).appx lx).app (Zd (c:=41) rfl) rfl
      simpa only [List.append_assoc,List.cons_append,List.nil_append] using this
    · obtain ⟨l',t2,h2,z2,e3⟩:=ek ((4,[41],0)::r) (LA.mk1 (by decide)) rfl ts e
      refine ⟨l',t2,?_,z2,e3⟩
      rw [Yp,e,List.append_assoc,XM nk,sk.1,if_neg (by decide),h2]
def zmb (ts:List Tk):PR Nd:=if isP [45,62] ts=true then (if isP [38] ts.tail=true then X0 20 ts.tail else YB ts.tail) else .ok (⟨8,lit [],0,(hd ts).At_,zq⟩,ts)
theorem zpR (d:Nat) {ret b:Nd}(h:(∃ q,ret=⟨8,lit [],0,q,zq⟩)∨(IsM ret∧(bs ret.Text_).head?≠some 38)):∃ q,LO ((if X4 [ret,b]=true then [] else [32,45,62,32]++shN ret d)++[32]) q∧
    ∀ r ts,ts.map tq=q++(4,[123],0)::r→∃ m t1,zmb ts = .ok (m,t1)∧zN m=zN ret∧t1.map tq=(4,[123],0)::r:=by
  rcases h with ⟨p,rfl⟩ | ⟨hm,hh⟩
  · refine ⟨[],?_,fun r ts e=>⟨⟨8,lit [],0,(hd ts).At_,zq⟩,ts,?_,Y6 _ _ _ _ _ _,e⟩⟩
    · rw [if_pos (by rfl)];exact Z3
    · unfold zmb
      rw [zj (x:=(4,[123],0)) e,if_neg (by decide)]
  · obtain ⟨k,lk,nk,sk,ek⟩:=zhA hm d
    have hn:X4 [ret,b]=false:=by cases hm <;> rfl
    refine ⟨(4,[45,62],0)::k,?_,fun r ts e=>?_⟩
    · rw [hn,if_neg (by decide)]
      have:=(zl9.appx lk).app Z3 rfl
      simpa only [List.append_nil,List.append_assoc,List.cons_append,List.nil_append] using this
    · have e1:=zR e
      obtain ⟨m,t1,h1,z1,e2⟩:=ek _ LA.lbr ts.tail e1
      refine ⟨m,t1,?_,z1,e2⟩
      unfold zmb
      simp only [List.cons_append] at e
      rw [zj e,if_pos (by rfl),Yp,e1,XM nk,sk hh,if_neg (by decide),h1]
theorem znL {ts:List Tk}{r:List TQ}(e:ts.map tq=(2,[102,110],0)::r):Wc ts=fnP (hd ts).At_ ts.tail:=by
 unfold Wc
 rw [zj e,if_pos (by rfl)]
theorem znM {ts:List Tk}{r:List TQ}(e:ts.map tq=(2,[116,121,112,101],0)::r):Wc ts=Vx (hd ts).At_ ts.tail:=by
 unfold Wc
 rw [zj e,if_neg (by decide),yn e ⟨.inl rfl,rfl⟩]
 rfl
def DS (k:List TQ):Prop:=(hq k).1≠0∧LA k
theorem zpS {n:Nd}(h:IsFn n):Rt Wc DS n:=by
  obtain ⟨w,p,ps,ret,b,rfl,hw,hp,hr,hb⟩:=h.ex
  intro d
  have kr:ret.Kind_=8:=by
    rcases hr with ⟨q,rfl⟩ | ⟨hm,_⟩
    · rfl
    · exact hm.kind
  have kb:b.Kind_=9:=by obtain ⟨q,l,rfl⟩:=(W5 8).form _ hb;rfl
  have hl:(ps++[ret,b]).length=ps.length+2:=by simp
  have hl2:ps.length+2 - 2=ps.length:=by omega
  have hl1:ps.length+2 - 1=ps.length+1:=by omega
  have hf:zE 6 (ps++[ret,b])=true:=by
    unfold zE
    simp [Z9,xm,kK,kr,kb]
    exact fun a ha=>(hp a ha).kind
  obtain ⟨q1,l1,e1⟩:=zma d ps hp
  obtain ⟨q2,l2,e2⟩:=zpR (b:=b) d hr
  obtain ⟨kb,lb,sb,eb⟩:=(W5 8).rt _ hb d
  obtain ⟨kb',rfl⟩:∃ k,kb=(4,[123],0)::k:=by
    cases kb with
    |nil=>cases sb
    |cons x k=>simp at sb;subst sb;exact ⟨k,rfl⟩
  refine ⟨(2,[102,110],0)::(1,w,0)::(4,[40],0)::(q1++(4,[41],0)::(q2++(4,[123],0)::kb')),?_,by simp,⟨by simp [hq],LA.mk1 (by decide)⟩,fun r hr ts e=>?_⟩
  · rw [zX hf]
    have et:shB 6 (bs (lit w)) 0 (ps++[ret,b]) ((ps++[ret,b]).map fun a=>shN a d) ((ps++[ret,b]).map fun a=>shN a (d+1)) d =
        [102,110,32]++w++([40]++ZT (ps.map fun a=>shN a d)++[41])++((if X4 [ret,b]=true then [] else [32,45,62,32]++shN ret d)++[32])++shN b d:=by
      show [102,110,32]++w++[40]++ZT (((ps++[ret,b]).map fun a=>shN a d).take ((ps++[ret,b]).length - 2))++[41]
        ++(if X4 ((ps++[ret,b]).drop ((ps++[ret,b]).length - 2)) then [] else [32,45,62,32]++at0 ((ps++[ret,b]).map fun a=>shN a d) ((ps++[ret,b]).length - 2))++[32]++at0 ((ps++[ret,b]).map fun a=>shN a d) ((ps++[ret,b]).length - 1)=_
      rw [hl,hl2,hl1]
      have t1:((ps++[ret,b]).map fun a=>shN a d).take ps.length=ps.map fun a=>shN a d:=by simp
      have t2:(ps++[ret,b]).drop ps.length=[ret,b]:=by simp
      have t3:at0 ((ps++[ret,b]).map fun a=>shN a d) ps.length=shN ret d:=by simp [at0,List.getElem?_append]
      have t4:at0 ((ps++[ret,b]).map fun a=>shN a d) (ps.length+1)=shN b d:=by simp [at0,List.getElem?_append]
      rw [t1,t2,t3,t4]
      simp only [List.append_assoc]
    rw [et]
    have:=(((zpQ.appx (Zm hw)).app l1 rfl).app l2).appx lb
    simpa only [List.append_assoc,List.cons_append,List.nil_append] using this
  · have a1:=zR e
    have a2:=zR a1
    have a3:=zR a2
    obtain ⟨ps',t1,h1,z1,a4⟩:=e1 (q2++(4,[123],0)::(kb'++r)) ts.tail.tail.tail (by rw [a3];simp)
    obtain ⟨m,t2,h2,z2,a5⟩:=e2 (kb'++r) t1.tail (zm a4)
    obtain ⟨b',t3,h3,z3,a6⟩:=eb r t2 a5
    refine ⟨⟨6,lit w,0,(hd ts).At_,⟨ps'++[m,b'],true⟩⟩,t3,?_,?_,a6⟩
    · simp only [List.cons_append] at e
      rw [znL e]
      unfold fnP
      rw [Zz a1]
      simp only [PR.bd]
      rw [yn (x:=(4,[40],0)) a2 ⟨.inr rfl,rfl⟩]
      simp only
      rw [h1]
      simp only
      rw [yn a4 ⟨.inr rfl,rfl⟩]
      simp only
      have h2:(if isP [45,62] t1.tail=true then (if isP [38] t1.tail.tail=true then X0 20 t1.tail.tail else YB t1.tail.tail) else .ok (⟨8,lit [],0,(hd t1.tail).At_,zq⟩,t1.tail):PR Nd) = .ok (m,t2):=h2
      rw [h2]
      simp only
      rw [h3]
    · show zN _=zN _
      rw [ZH,ZH]
      simp [z1,z2,z3]
theorem zgc:∀ (fs cs:List Nd),(∀ a∈fs,IsFd a)→(∀ a∈cs,IsF a)→zO (fs++cs)=fs.length
 |[],[],_,_=>rfl
 |[],c::cs,_,h=>by
  have:=(h c (by simp)).kind
  simp [zO,this]
 |a::fs,cs,h,h2=>by
  have h0:=(h a (by simp)).kind
  have:=zgc fs cs (fun x hx=>h x (by simp [hx])) h2
  simp [zO,h0,this]
def zmc (s:Nd) (ts:List Tk):PR (List Nd):=if isP [123] ts=true then (yp Yj ts.tail).bd fun l t3=>(Zc [125] t3).bd fun _ t4 =>.ok ([s]++l,t4) else .ok ([s],ts)
theorem zmd (d:Nat) (fs:List Nd) (h:∀ a∈fs,IsFd a):∃ q,LX (if 0 < fs.length then [32,123,32]++ZT (fs.map fun a=>shN a d)++[32,125] else []) q∧
    (((if 0 < fs.length then [32,123,32]++ZT (fs.map fun a=>shN a d)++[32,125] else [])=[]∧q=[])∨vj (if 0 < fs.length then [32,123,32]++ZT (fs.map fun a=>shN a d)++[32,125] else [])=true)∧(∀ r,LA r→LA (q++r))∧
    ∀ s r ts,isQ [123] r=false→ts.map tq=q++r→∃ l t1,zmc s ts = .ok ([s]++l,t1)∧l.map zN=fs.map zN∧t1.map tq=r:=by
  cases fs with
  |nil=>
    rw [if_neg (by simp)]
    refine ⟨[],LO.nil.x,.inl ⟨rfl,rfl⟩,fun r hr=>hr,fun s r ts hr e=>⟨[],ts,?_,rfl,e⟩⟩
    unfold zmc
    rw [Yp,e,List.nil_append,hr,if_neg (by decide)]
    rfl
  |cons a items=>
    rw [if_pos (by simp)]
    obtain ⟨k,q,lx,nk,sk,ek⟩:=zbr (one:=Yj) (S:=fun _=>True) d a items fun n hn=>zlZ (h n hn)
    refine ⟨(4,[123],0)::(k++q++[(4,[125],0)]),?_,.inr rfl,fun r hr=>LA.mk1 (by decide),fun s r ts hr e=>?_⟩
    · have:=(((Z3.app (Zd (c:=123) rfl)).app Z3).appx lx).app (Z3.app (Zd (c:=125) rfl)) rfl
      simpa only [List.append_nil,List.append_assoc,List.cons_append,List.nil_append] using this.x
    · have e1:=zR e
      obtain ⟨l',t2,h2,z2,e3⟩:=ek ((4,[125],0)::r) (LA.mk1 (by decide)) rfl ts.tail (by rw [e1];simp)
      refine ⟨l',t2.tail,?_,z2,zm e3⟩
      simp only [List.cons_append] at e
      unfold zmc
      rw [zj e,if_pos (by rfl),h2]
      simp only [PR.bd]
      rw [yn e3 ⟨.inr rfl,rfl⟩]
def zme (ks:List Nd) (ts:List Tk):PR (List Nd):=if isP [119,104,101,114,101] ts=true then (yp YA ts.tail).bd fun l t6 =>.ok (ks++l,t6) else .ok (ks,ts)
theorem znN (d:Nat) (cs:List Nd) (h:∀ a∈cs,IsF a):∃ q,LX (if 0 < cs.length then [32,119,104,101,114,101,32]++ZT (cs.map fun a=>shN a d) else []) q∧
    (((if 0 < cs.length then [32,119,104,101,114,101,32]++ZT (cs.map fun a=>shN a d) else [])=[]∧q=[])∨vj (if 0 < cs.length then [32,119,104,101,114,101,32]++ZT (cs.map fun a=>shN a d) else [])=true)∧
    (∀ r,isQ [123] (q++(4,[59],0)::r)=false∧LA (q++(4,[59],0)::r))∧
    ∀ ks r ts,ts.map tq=q++(4,[59],0)::r→∃ l t1,zme ks ts = .ok (ks++l,t1)∧l.map zN=cs.map zN∧t1.map tq=(4,[59],0)::r:=by
  cases cs with
  |nil=>
    rw [if_neg (by simp)]
    refine ⟨[],LO.nil.x,.inl ⟨rfl,rfl⟩,fun r=>⟨rfl,LA.semi⟩,fun ks r ts e=>⟨[],ts,?_,rfl,e⟩⟩
    unfold zme
    rw [zj (x:=(4,[59],0)) e,if_neg (by decide),List.append_nil]
  |cons a items=>
    rw [if_pos (by simp)]
    obtain ⟨k,q,lx,nk,sk,ek⟩:=zbr (one:=YA) (S:=TS) d a items fun n hn=>znB (h n hn)
    refine ⟨(2,[119,104,101,114,101],0)::(k++q),?_,.inr rfl,fun r=>⟨rfl,LA.mk1 (by decide)⟩,fun ks r ts e=>?_⟩
    · exact zl8.appx lx
    · have e1:=zR e
      obtain ⟨l',t2,h2,z2,e3⟩:=ek ((4,[59],0)::r) LA.semi rfl ts.tail e1
      refine ⟨l',t2,?_,z2,e3⟩
      simp only [List.cons_append] at e
      unfold zme
      rw [zj e,if_pos (by rfl),h2]
      rfl
theorem zpT {n:Nd}(h:IsTy n):Rt Wc DS n:=by
  obtain ⟨w,p,s,fs,cs,rfl,hw,hs,hf,hc⟩:=h.ex
  intro d
  have hn:=zgc fs cs hf hc
  have hfit:zE 1 ([s]++fs++cs)=true:=by
    unfold zE
    simp [Z9,hs.kind,hn,xm]
    exact fun a ha=>(hc a ha).kind
  obtain ⟨k,lk,nk,_,ek⟩:=znC hs d
  obtain ⟨q1,l1,s1,a1,e1⟩:=zmd d fs hf
  obtain ⟨q2,l2,s2,a2,e2⟩:=znN d cs hc
  refine ⟨(2,[116,121,112,101],0)::(1,w,0)::(k++(q1++(q2++[(4,[59],0)]))),?_,by simp,⟨by simp [hq],LA.mk1 (by decide)⟩,fun r hr ts e=>?_⟩
  · rw [zX hfit]
    have et:shB 1 (bs (lit w)) 0 ([s]++fs++cs) (([s]++fs++cs).map fun a=>shN a d) (([s]++fs++cs).map fun a=>shN a (d+1)) d =
        [116,121,112,101,32]++w++[32]++shN s d++(if 0 < fs.length then [32,123,32]++ZT (fs.map fun a=>shN a d)++[32,125] else [])
          ++(if 0 < cs.length then [32,119,104,101,114,101,32]++ZT (cs.map fun a=>shN a d) else [])++[59]:=by
      show [116,121,112,101,32]++w++[32]++shN s d
        ++(if 0 < zO (fs++cs) then [32,123,32]++ZT (((([s]++fs++cs).map fun a=>shN a d).drop 1).take (zO (fs++cs)))++[32,125] else [])
        ++(if 1+zO (fs++cs) < ([s]++fs++cs).length then [32,119,104,101,114,101,32]++ZT ((([s]++fs++cs).map fun a=>shN a d).drop (1+zO (fs++cs))) else [])++[59]=_
      rw [hn]
      have t1:((([s]++fs++cs).map fun a=>shN a d).drop 1).take fs.length=fs.map fun a=>shN a d:=by simp
      have t2:(([s]++fs++cs).map fun a=>shN a d).drop (1+fs.length)=cs.map fun a=>shN a d:=by
        rw [← List.drop_drop]
        simp
      have t3:(1+fs.length < ([s]++fs++cs).length)=(0 < cs.length):=by
        simp only [List.length_append,List.length_cons,List.length_nil]
        exact propext ⟨fun h=>by omega,fun h=>by omega⟩
      rw [t1,t2]
      simp only [t3]
    rw [et]
    have:=(((((znK.appx (Zm hw)).app Z3 rfl).appx lk).appE l1 s1).appE l2 s2).app xj rfl
    simpa only [List.append_nil,List.append_assoc,List.cons_append,List.nil_append] using this.x
  · have b1:=zR e
    have b2:=zR b1
    obtain ⟨a3,a4⟩:=a2 r
    obtain ⟨s',t1,h1,z1,b3⟩:=ek (q1++(q2++(4,[59],0)::r)) (a1 _ a4) ts.tail.tail (by rw [b2];simp)
    obtain ⟨l,t2,h2,z2,b4⟩:=e1 s' _ t1 a3 b3
    obtain ⟨c,t3,h3,z3,b5⟩:=e2 ([s']++l) r t2 b4
    refine ⟨⟨1,lit w,0,(hd ts).At_,⟨[s']++l++c,true⟩⟩,t3.tail,?_,?_,zm b5⟩
    · simp only [List.cons_append] at e
      rw [znM e]
      unfold Vx
      rw [Zz b1]
      simp only [PR.bd]
      rw [h1]
      simp only
      have h2:(if isP [123] t1=true then (yp Yj t1.tail).bd fun l t3=>(Zc [125] t3).bd fun _ t4 =>.ok ([s']++l,t4) else .ok ([s'],t1):PR (List Nd)) = .ok ([s']++l,t2):=h2
      simp only [PR.bd] at h2
      rw [h2]
      simp only
      have h3:(if isP [119,104,101,114,101] t2=true then (yp YA t2.tail).bd fun l' t6 =>.ok ([s']++l++l',t6) else .ok ([s']++l,t2):PR (List Nd)) = .ok ([s']++l++c,t3):=h3
      simp only [PR.bd] at h3
      rw [h3]
      simp only
      rw [yn b5 ⟨.inr rfl,rfl⟩]
    · show zN _=zN _
      rw [ZH,ZH]
      simp [z1,z2,z3]
end Go.Px
namespace Go.Px
set_option linter.unusedVariables false
set_option linter.unusedSimpArgs false
def IsD (n:Nd):Prop:=IsFn n∨IsTy n
theorem IsD.kind {n:Nd}(h:IsD n):n.Kind_=1∨n.Kind_=6:=by
 rcases h with h | h
 ·obtain ⟨w,p,ps,ret,b,rfl,_⟩:=h.ex;exact .inr rfl
 ·obtain ⟨w,p,s,fs,cs,rfl,_⟩:=h.ex;exact .inl rfl
theorem IsD.rt {n:Nd}(h:IsD n):Rt Wc DS n:=by
 rcases h with h | h
 ·exact zpS h
 ·exact zpT h
theorem zaV:∀ (k:Nat) (acc:List Nd) (ts:List Tk) (l:List Nd) (t1:List Tk),GT ts→(∀ a∈acc,IsD a)→yF k acc ts = .ok (l,t1)→∀ a∈l,IsD a
 |0,acc,ts,l,t1,g,ha,h=>by cases h
 |k+1,acc,ts,l,t1,g,ha,h=>by
  unfold yF at h
  have step:∀ a:Nd,IsD a→∀ b∈acc++[a],IsD b:=fun a h1 b hb=>by
   rcases List.mem_append.1 hb with hb | hb
   ·exact ha b hb
   ·simp at hb;rw [hb];exact h1
  split at h
  ·cases h;exact ha
  split at h
  ·obtain ⟨a,t,e,h⟩:=zb h
   obtain ⟨h1,g1⟩:=zoY g.tl e
   exact zaV k _ _ _ _ g1 (step a (.inl h1)) h
  ·obtain ⟨u,t,e,h⟩:=zb h
   obtain ⟨a,t2,e2,h⟩:=zb h
   obtain ⟨h1,g1⟩:=zoZ (ZP g e) e2
   exact zaV k _ _ _ _ g1 (step a (.inr h1)) h
theorem znO {k:Nat}{acc:List Nd}{ts:List Tk}(h:(hd ts).Kind_≠0):yF (k+1) acc ts=(Wc ts).bd fun a t1=>yF k (acc++[a]) t1:=by
 rw [yF,if_neg h]
 unfold Wc
 cases isP [102,110] ts with
 |true=>rw [if_pos rfl,if_pos rfl]
 |false=>
  rw [if_neg (by decide),if_neg (by decide)]
  cases Zc [116,121,112,101] ts with
  |error e=>rfl
  |ok p=>rfl
def Ze (l:List Nd):List UInt8:=((l.map fun a=>shN a 0).map fun x=>x++[10]).flatten
abbrev zdT:TQ:=(0,[],0)
theorem zaW:∀ l:List Nd,(∀ a∈l,IsD a)→∃ q,yl (Ze l)=some q∧(∀ p,cl p (Ze l)=some (p || !l.isEmpty))∧(Ze l=[]↔l=[])∧LA (q++[zdT])∧l.length≤q.length∧
    ∀ fuel,l.length < fuel→∀ acc:List Nd,∀ ts,ts.map tq=q++[zdT]→∃ l' t1,yF fuel acc ts = .ok (l',t1)∧l'.map zN=acc.map zN++l.map zN
  |[],h=>by
    refine ⟨[],rfl,fun p=>by simp [Ze,cl],by simp [Ze],LA.mk1 (by decide),Nat.le_refl _,fun fuel hf acc ts e=>⟨acc,ts,?_,by simp⟩⟩
    cases fuel with
    |zero=>simp at hf
    |succ f=>rw [yF,Ym,e,if_pos (by rfl)]
  |a::l,h=>by
    obtain ⟨q,lq,cq,_,la,len,eq⟩:=zaW l fun x hx=>h x (by simp [hx])
    obtain ⟨k,lk,nk,sk,ek⟩:=(h a (by simp)).rt 0
    have et:Ze (a::l)=shN a 0++(10::Ze l):=by
      unfold Ze
      simp
    have ne:(shN a 0)≠[]:=fun e0=>by
      have:=lk.lx [] (.inl rfl)
      rw [e0,List.append_nil,zlU] at this
      simp at this
      exact nk this
    refine ⟨k++q,?_,fun p=>?_,?_,?_,?_,?_⟩
    · rw [et,lk.lx _ (.inr rfl),zdO,lq];rfl
    · rw [et,wP,lk.cw,Option.bind_some]
      have:(shN a 0).isEmpty=false:=by simpa using ne
      rw [this,Bool.and_false,cl,if_neg (by simp),show decide ((10:UInt8)=10)=true from rfl,cq]
      simp
    · rw [et];simp
    · rw [List.append_assoc];exact sk.2.app nk _
    · have:1≤k.length:=by cases k with
        |nil=>exact absurd rfl nk
        |cons x k=>simp
      simp;omega
    · intro fuel hf acc ts e
      cases fuel with
      |zero=>simp at hf
      |succ f=>
        rw [List.append_assoc] at e
        obtain ⟨a',t1,h1,z1,e2⟩:=ek (q++[zdT]) la ts e
        obtain ⟨l',t2,h2,z2⟩:=eq f (by simp at hf;omega) (acc++[a']) t1 e2
        refine ⟨l',t2,?_,by rw [z2];simp [z1]⟩
        have hk:(hd ts).Kind_≠0:=by
          rw [Ym,e]
          cases k with
          |nil=>exact absurd rfl nk
          |cons x k=>exact sk.1
        rw [znO hk,h1]
        exact h2
theorem zdU:∀ (f at_:Nat) (l:List UInt8) (ts:List Tk),xX f at_ l = .inr ts→GT ts
 |0,at_,l,ts,h=>by cases h;intro t ht;cases ht
 |f+1,at_,l,ts,h=>by
  unfold xX at h
  split at h
  ·cases h;intro t ht;cases ht
  rename_i hne
  split at h
  ·exact zdU f _ _ ts h
  ·cases h
  ·rename_i k n v hn
   split at h
   ·cases h
   ·rename_i ts' hts
    cases h
    intro t ht
    rcases List.mem_cons.1 ht with rfl | ht
    ·match l,hne with
     |[],hne=>exact absurd rfl hne
     |c::r,_=>
      have hn:(if c.toNat=32∨c.toNat=10 then Nx.skip 1 else if c.toNat=35 then .skip (ZS WX (c::r)) else if isD c then wx (c::r) else if isL c then Xh (c::r) else xz (c::r)) = .tok k n v:=hn
      split at hn
      ·cases hn
      split at hn
      ·cases hn
      split at hn
      ·unfold wx at hn
       split at hn
       ·cases hn
       ·rename_i hb
        cases hn
        refine ⟨fun h=>absurd h (by show ¬ (3:Int)=1;decide),fun _=>?_⟩
        unfold Xg at hb
        simp only [Bool.or_eq_true,decide_eq_true_eq,not_or] at hb
        exact ⟨Int.natCast_nonneg _,by have:=hb.1;show ((yW _:Nat):Int)≤_;omega⟩
      split at hn
      ·rename_i hl
       unfold Xh at hn
       split at hn
       ·cases hn
       ·rename_i h16
        cases hn
        refine ⟨fun h=>?_,fun h=>?_⟩
        ·have hk:xo ((c::r).take (ZS isW (c::r)))=false:=by
          cases e:xo ((c::r).take (ZS isW (c::r))) with
          |false=>rfl
          |true=>
           have h:(if xo ((c::r).take (ZS isW (c::r)))=true then (2:Int) else 1)=1:=h
           rw [e] at h;cases h
         refine ⟨⟨⟨c,r.take (ZS isW r),?_,hl⟩,zhc isW (c::r),?_⟩,hk⟩
         ·show (c::r).take (ZS isW (c::r))=_
          rw [Yd,show isW c=true by simp [isW,hl],if_pos rfl]
          rfl
         ·show ((c::r).take (ZS isW (c::r))).length≤16
          rw [List.length_take];omega
        ·have h:(if xo ((c::r).take (ZS isW (c::r)))=true then (2:Int) else 1)=3:=h
         split at h <;> cases h
      ·unfold xz at hn
       split at hn
       ·cases hn
       ·cases hn
        exact ⟨fun h=>absurd h (by show ¬ (4:Int)=1;decide),fun h=>absurd h (by show ¬ (4:Int)=3;decide)⟩
    ·exact zdU f _ _ ts' hts t ht
theorem znP (s:ByteArray):GT (yQ s).2.2.xs:=by
 unfold yQ
 by_cases hs:16384 < s.size
 ·rw [if_pos hs];intro t ht;cases ht
 ·rw [if_neg hs]
  cases e:YI 0 (bs s) with
  |inl x=>intro t ht;cases ht
  |inr ts=>
   intro t ht
   simp only [List.mem_append,List.mem_singleton] at ht
   rcases ht with ht | rfl
   ·exact zdU _ _ _ _ e t ht
   ·exact ⟨fun h=>absurd h (by show ¬ (0:Int)=1;decide),fun h=>absurd h (by show ¬ (0:Int)=3;decide)⟩
theorem Wd (s:ByteArray):∃ l,(yH s).1=⟨0,lit [],0,0,mkS l⟩∧(∀ a∈l,IsD a)∧zi l+1≤4096:=by
 have z:∃ l,VB=⟨0,lit [],0,0,mkS l⟩∧(∀ a∈l,IsD a)∧zi l+1≤4096:=⟨[],rfl,(fun a ha=>by cases ha),by simp [zi]⟩
 unfold yH
 by_cases h1:(yQ s).2.1≠0
 ·rw [if_pos h1]
  exact z
 ·rw [if_neg h1]
  split
  ·exact z
  ·rename_i ks r he
   by_cases hsz:4096 < zi ks+1
   ·rw [if_pos hsz];exact z
   ·rw [if_neg hsz]
    exact ⟨ks,rfl,zaV _ _ _ _ _ (znP s) (fun a ha=>by cases ha) he,by omega⟩
theorem Y0 (l:List Nd) (h:∀ a∈l,IsD a):shN ⟨0,lit [],0,0,mkS l⟩ 0=Ze l:=by
 have hf:zE 0 l=true:=by
  unfold zE
  simp [Z9]
  exact fun a ha=>(h a ha).kind
 unfold mkS
 rw [zX hf]
 rfl
theorem zdV:∀ (l m:List Nd),l.map zN=m.map zN→zi l=zi m
 |[],[],_=>rfl
 |a::l,b::m,h=>by
  simp only [List.map_cons,List.cons.injEq] at h
  have h1:=zdV l m h.2
  have h2:=zdR _ a (Nat.le_refl _)
  have h3:=zdR _ b (Nat.le_refl _)
  rw [h.1] at h2
  simp only [zi]
  omega
 |[],b::m,h=>by cases h
 |a::l,[],h=>by cases h
theorem ziY (l:List Nd) (h:∀ a∈l,IsD a) (hs:zi l+1≤4096) (hl:(Ze l).length≤16384):∃ m,yH (lit (Ze l))=(⟨0,lit [],0,0,mkS m⟩,0,0)∧m.map zN=l.map zN:=by
 obtain ⟨q,lq,_,_,_,len,eq⟩:=zaW l h
 unfold yl qOf at lq
 cases e:YI 0 (Ze l) with
 |inl x=>rw [e] at lq;cases lq
 |inr ts=>
  rw [e] at lq
  simp only [Option.some.injEq] at lq
  have hlex:yQ (lit (Ze l))=(0,0,⟨ts++[⟨0,lit [],0,(lit (Ze l)).size⟩],true⟩):=by
   unfold yQ
   rw [if_neg (by rw [zg];omega),yd,e]
  have hq:(ts++[(⟨0,lit [],0,(lit (Ze l)).size⟩:Tk)]).map tq=q++[zdT]:=by
   rw [List.map_append,lq]
   rfl
  have hlen:l.length < (ts++[(⟨0,lit [],0,(lit (Ze l)).size⟩:Tk)]).length:=by
   have:=congrArg List.length hq
   rw [List.length_map] at this
   rw [this]
   simp
   omega
  obtain ⟨m,t1,h1,z1⟩:=eq _ hlen [] _ hq
  have z1:m.map zN=l.map zN:=z1
  refine ⟨m,?_,z1⟩
  unfold yH
  rw [hlex]
  simp only
  rw [if_neg (by simp),h1]
  simp only
  rw [zdV _ _ z1,if_neg (by omega)]
theorem zhC {l m:List Nd}(h:m.map zN=l.map zN):zN ⟨0,lit [],0,0,mkS m⟩=zN ⟨0,lit [],0,0,mkS l⟩:=zc9 h
theorem zmf {l m:List Nd}(h:∀ a∈l,IsD a) (h2:∀ a∈m,IsD a) (e:Ze l=Ze m):l.map zN=m.map zN:=by
 obtain ⟨q,lq,_,_,_,len,eq⟩:=zaW l h
 obtain ⟨q',lq',_,_,_,len',eq'⟩:=zaW m h2
 rw [e,lq'] at lq
 cases lq
 have mk:∃ ts:List Tk,ts.map tq=q++[zdT]:=⟨(q++[zdT]).map fun x=>⟨x.1,lit x.2.1,x.2.2,0⟩,by
  rw [List.map_map]
  refine (List.map_congr_left fun x _=>?_).trans (List.map_id _)
  rfl⟩
 obtain ⟨ts,hts⟩:=mk
 obtain ⟨a,t1,x1,y1⟩:=eq (q.length+1) (by omega) [] ts hts
 obtain ⟨b,t2,x2,y2⟩:=eq' (q.length+1) (by omega) [] ts hts
 rw [x1] at x2
 cases x2
 exact y1.symm.trans y2
end Go.Px
namespace Go.Px
set_option linter.unusedVariables false
set_option linter.unusedSimpArgs false
open Classical in
noncomputable def eqZ (n m:Nd):Bool:=decide (zN n=zN m)
theorem zmg {n m:Nd}(h:zN n=zN m):eqZ n m=true:=by simp [eqZ,h]
theorem zbs {n m:Nd}:eqZ n m=true↔zN n=zN m:=by simp [eqZ]
theorem znQ (a:RNd):qa.mk a.Kind_ a.Text_ a.Num_ a.At_ a.Kids_=a:=by cases a;rfl
theorem zhD:∀ (l r:List Nd),l.length=r.length→(((l.zip r).all fun c=>eqZ c.1 c.2)=true↔l.map zN=r.map zN)
 |[],[],_=>by simp
 |a::l,b::r,h=>by
  have ih:=zhD l r (by simpa using h)
  rw [List.zip_cons_cons,List.all_cons,Bool.and_eq_true,ih,zbs]
  simp
 |[],_::_,h=>by simp at h
 |_::_,[],h=>by simp at h
theorem zaX (n m:Nd):zN n=zN m↔n.Kind_=m.Kind_∧n.Text_=m.Text_∧n.Num_=m.Num_∧n.Kids_.xs.map zN=m.Kids_.xs.map zN:=by
 rw [zbp n,zbp m]
 simp
theorem zmh:∀ (f:Nat) (n m:Nd),z8 n≤f→z8 n≤5000→q17 f (toR n,toR m,false)=some (eqZ n m):=by
 intro f
 induction f with
 |zero=>intro n m h;have:=zk n;omega
 |succ f ih=>
  intro n m hf hs
  have e:=zk n
  have hlen:=w9 n.Kids_.xs
  show q1i (q17 f) (toR n,toR m,false)=_
  unfold q1i
  rw [WK n,WK m]
  dsimp only
  have no:∀ {b:Prop},(zN n=zN m→b)→¬ b→eqZ n m=false:=fun h hb=>by
   cases e:eqZ n m with
   |false=>rfl
   |true=>exact absurd (h (zbs.1 e)) hb
  by_cases h1:n.Kind_=m.Kind_
  case neg=>
   rw [if_pos (by simpa using h1),no (fun h=>((zaX n m).1 h).1) h1]
   rfl
  by_cases h2:n.Text_=m.Text_
  case neg=>
   rw [if_neg (by simpa using h1),if_pos (by simpa using h2),no (fun h=>((zaX n m).1 h).2.1) h2]
   rfl
  by_cases h3:n.Num_=m.Num_
  case neg=>
   rw [if_neg (by simpa using h1),if_neg (by simpa using h2),if_pos (by simpa using h3),no (fun h=>((zaX n m).1 h).2.2.1) h3]
   rfl
  rw [if_neg (by simpa using h1),if_neg (by simpa using h2),if_neg (by simpa using h3),if_neg (by decide),Option.bind_some]
  dsimp only
  by_cases h4:n.Kids_.xs.length=m.Kids_.xs.length
  case neg=>
   rw [if_pos (by simp [Sl.len,mkS];omega),no (fun h=>by have:=congrArg List.length ((zaX n m).1 h).2.2.2;simpa using this) h4]
  rw [if_neg (by simp [Sl.len,mkS];omega)]
  have hz:(n.Kids_.xs.zip m.Kids_.xs).length=n.Kids_.xs.length:=by simp [h4]
  have hlp:=yR (f:=q24 (q17 f)) (xs:=n.Kids_.xs.zip m.Kids_.xs) (p:=fun c=>eqZ c.1 c.2)
   (fun i=>(false,Sl.len (mkS (n.Kids_.xs.map toR)),(i:Int),(n.Kind_,n.Text_,n.Num_,n.At_,mkS (n.Kids_.xs.map toR)),m.Kind_,m.Text_,m.Num_,m.At_,mkS (m.Kids_.xs.map toR)))
   (fun i c hc=>by
    obtain ⟨g1,g2⟩:=zhl hc
    have hi:i < n.Kids_.xs.length:=(List.getElem?_eq_some_iff.1 g1).1
    have hm:=Yb (List.mem_of_getElem? g1)
    unfold q24 mkS
    dsimp only
    rw [if_pos (by simp [Sl.len];omega),yX,yX]
    simp only [List.getElem?_map,g1,g2,Option.map_some,Option.bind_some,znQ]
    rw [ih c.1 c.2 (by omega) (by omega),Option.bind_some,YM (by omega)]
    cases eqZ c.1 c.2 <;> rfl)
   (by
    unfold q24
    dsimp only
    rw [hz,if_neg (by simp [Sl.len,mkS])])
  have hlp:lpO (q24 (q17 f)) (false,Sl.len (mkS (n.Kids_.xs.map toR)),0,(n.Kind_,n.Text_,n.Num_,n.At_,mkS (n.Kids_.xs.map toR)),m.Kind_,m.Text_,m.Num_,m.At_,mkS (m.Kids_.xs.map toR))=_:=hlp
  rw [hlp]
  have h5:=zhD _ _ h4
  have h6:eqZ n m=(n.Kids_.xs.zip m.Kids_.xs).all fun c=>eqZ c.1 c.2:=by
   rw [Bool.eq_iff_iff,h5,zbs,zaX]
   exact ⟨fun h=>h.2.2.2,fun h=>⟨h1,h2,h3,h⟩⟩
  rw [h6]
  cases (n.Kids_.xs.zip m.Kids_.xs).all fun c=>eqZ c.1 c.2 <;> rfl
theorem zgd {n m:Nd}(h:z8 n≤5000):q3k (toR n,toR m,false)=some (eqZ n m):=zmh 100000 n m (by omega) h
theorem zbt {n:Nd}(h:z8 n≤5000):q20 n=some ((n.Kind_,n.Text_,n.Num_,n.At_),mkS (n.Kids_.xs.map toR)):=zgM 100000 n (by omega) h
end Go.Px
namespace Go.Px
set_option linter.unusedVariables false
set_option linter.unusedSimpArgs false
theorem XO {l:List Nd}(h:zi l+1≤4096):z8 ⟨0,lit [],0,0,mkS l⟩≤5000:=by
 rw [zk]
 show zi l+1≤_
 omega
theorem zqu (hw:qh ()=some true) (s:ByteArray):q2k s=some true:=by
 have hshow:=X5 s
 obtain ⟨l,e,hl,hs⟩:=Wd s
 unfold q2k q40
 rw [wh,Option.bind_some,hw,Option.bind_some,if_neg (by decide),Option.bind_some]
 dsimp only
 by_cases h0:(yH s).2.2=0
 case neg=>rw [if_pos (by simpa using h0)];rfl
 rw [if_neg (by simpa using h0),zW,hshow,Option.bind_some,e,Y0 l hl,zg]
 by_cases hlen:(Ze l).length≤16384
 case neg=>rw [if_pos (by simp;omega)]
 rw [if_neg (by simp;omega),wh,Option.bind_some]
 have hshow2:=X5 (lit (Ze l))
 obtain ⟨m,e2,z⟩:=ziY l hl hs hlen
 rw [e2] at hshow2 ⊢
 dsimp only at hshow2 ⊢
 have hz:=zhC z
 have hs2:zi m+1≤4096:=by rw [zdV _ _ z];exact hs
 have ht1:=zbt (XO hs)
 have ht2:=zbt (XO hs2)
 have ha:=zgd (m:=⟨0,lit [],0,0,mkS m⟩) (XO hs)
 rw [zmg hz.symm,WK,WK] at ha
 dsimp only at ht1 ht2 ha
 rw [if_pos (by simp),ht1,Option.bind_some,ht2,Option.bind_some,ha,Option.bind_some,if_pos rfl,hshow2,Option.bind_some,zhx hz 0,Y0 l hl]
 simp
theorem ziZ {w:List UInt8}{z:Int×ByteArray×Int×Int×Sl q9}{a b c} (hw:w.length≤1000000000000):∀ (n i:Nat) (p:Bool),n+i=w.length→(p=true↔∃ j,i=j+1∧w[j]?=some 10)→(cl p (w.drop i)).isSome=true→
    lpO (q14 a b c) (lit w,((lit w).size:Int),(i:Int),z)=some (.inr (lit w,z)):=by
  intro n
  induction n with
  |zero=>
    intro i p hi _ _
    rw [zQ]
    unfold q14
    dsimp only
    rw [if_neg (by rw [zg];simp;omega)]
    rfl
  |succ n ih=>
    intro i p hi hp hc
    obtain ⟨x,hx,hd⟩:=zem (l:=w) (i:=i) (by omega)
    rw [hd,cl] at hc
    have hbad:¬ (x=63∨x=9∨(x=10∧p=true)):=fun h=>by rw [if_pos h] at hc;cases hc
    rw [if_neg hbad] at hc
    have ih:=ih (i+1) (decide (x=10)) (by omega) (by
      simp only [decide_eq_true_eq]
      refine ⟨fun h=>⟨i,rfl,by rw [hx,h]⟩,fun ⟨j,hj,h⟩=>?_⟩
      have:j=i:=by omega
      subst this
      rw [hx] at h
      simpa using h) hc
    have hg:ZC (lit w) (i:Int)=some (x.toNat:Int):=Yz hx
    have x63:¬ (x.toNat:Int)=63:=fun h=>hbad (.inl (UInt8.toNat_inj.1 (by show x.toNat=63;omega)))
    have x9:¬ (x.toNat:Int)=9:=fun h=>hbad (.inr (.inl (UInt8.toNat_inj.1 (by show x.toNat=9;omega))))
    rw [zQ]
    generalize hG:lpO (q14 a b c)=G at ih ⊢
    unfold q14
    dsimp only
    rw [if_pos (by rw [zg];simp;omega),hg,Option.bind_some,if_neg (by simpa using x63),Option.bind_some,if_neg (by simpa using x9),Option.bind_some]
    have hw2:=YM (n:=i) (by omega)
    by_cases x10:(x.toNat:Int)=10
    · have hx10:x=10:=UInt8.toNat_inj.1 (by show x.toNat=10;omega)
      rw [if_pos (by simpa using x10)]
      by_cases h0:0 < i
      · obtain ⟨j,rfl⟩:∃ j,i=j+1:=⟨i - 1,by omega⟩
        have hj:j < w.length:=by omega
        have gj:=List.getElem?_eq_getElem hj
        have hw1:IntKind.i64.wrap (((j+1:Nat):Int) - 1)=(j:Int):=by rw [yL (by omega) (by omega)];omega
        have hg2:ZC (lit w) (j:Int)=some ((w[j].toNat:Nat):Int):=Yz gj
        rw [if_pos (by simp),hw1,hg2,Option.bind_some]
        have hn:¬ ((w[j].toNat:Nat):Int)=10:=fun h=>by
          have:w[j]=10:=UInt8.toNat_inj.1 (by show w[j].toNat=10;omega)
          exact hbad (.inr (.inr ⟨hx10,hp.2 ⟨j,rfl,by rw [gj,this]⟩⟩))
        dsimp only [Option.bind_some]
        rw [if_neg (by simpa using hn),hw2]
        exact ih
      · rw [if_neg (by simp;omega)]
        dsimp only [Option.bind_some]
        rw [if_neg (by decide),hw2]
        exact ih
    · rw [if_neg (by simpa using x10)]
      dsimp only [Option.bind_some]
      rw [if_neg (by decide),hw2]
      exact ih
theorem zbL:∀ l:List Nd,l≠[]→∃ u,Ze l=u++[10]
 |[a],_=>⟨shN a 0,by simp [Ze]⟩
 |a::b::l,_=>by
  obtain ⟨u,hu⟩:=zbL (b::l) (by simp)
  refine ⟨shN a 0++[10]++u,?_⟩
  have:Ze (a::b::l)=shN a 0++[10]++Ze (b::l):=by simp [Ze]
  rw [this,hu]
  simp
theorem zmi (s:ByteArray):(shN (yH s).1 0).length≤1000000000000:=by
 obtain ⟨g,hz⟩:=Wb s
 have:=zhp (M:=5000) 4096 _ 0 hz g (by omega)
 have h2:=Nat.mul_le_mul_right (1048576+8 * 5000+200) hz
 omega
theorem zpY (hw:qh ()=some true) (s:ByteArray):q2e s=some true:=by
 have hshow:=X5 s
 have hgood:=Wb s
 obtain ⟨l,e,hl,hs⟩:=Wd s
 unfold q2e q3v
 rw [wh,Option.bind_some,hw,Option.bind_some,if_neg (by decide),Option.bind_some]
 dsimp only
 by_cases h0:(yH s).2.2=0
 case neg=>rw [if_pos (by simpa using h0)];rfl
 rw [if_neg (by simpa using h0),zW,hshow,Option.bind_some,e,Y0 l hl]
 obtain ⟨q,lq,cq,nil,_,len,eq⟩:=zaW l hl
 have hlen:(Ze l).length≤1000000000000:=by
  have:=zmi s
  rw [e,Y0 l hl] at this
  exact this
 have hlp:=ziZ (z:=(0,lit [],0,0,mkS l)) (a:=q1v) (b:=qh) (c:=q23) hlen (Ze l).length 0 false (by omega) ⟨fun h=>(by cases h),fun ⟨j,hj,_⟩=>(by omega)⟩ (by rw [List.drop_zero,cq];rfl)
 have hlp:lpO (q14 q1v qh q23) (lit (Ze l),((lit (Ze l)).size:Int),0,(0,lit [],0,0,mkS l))=_:=hlp
 rw [hlp,Option.bind_some]
 dsimp only [Sum.elim_inr]
 by_cases hn:l=[]
 ·subst hn
  rfl
 ·have hne:Ze l≠[]:=fun h=>hn (nil.1 h)
  obtain ⟨u,hu⟩:=zbL l hn
  have d1:decide (lit (Ze l)=lit [])=false:=by
   simp only [decide_eq_false_iff_not]
   intro h
   exact hne (congrArg bs h)
  have d2:decide (Sl.len (mkS l)=0)=false:=by
   refine decide_eq_false fun h=>?_
   simp only [Sl.len,mkS] at h
   exact hn (List.eq_nil_of_length_eq_zero (by omega))
  rw [d1,d2,if_pos (by rfl),if_neg (by decide)]
  have hsz:(Ze l).length=u.length+1:=by rw [hu];simp
  have hgl:(bs (lit (Ze l)))[u.length]?=some 10:=by rw [yd,hu];simp
  rw [zg,hsz,yL (by omega) (by omega),show (((u.length+1:Nat):Int) - 1)=(u.length:Int) by omega,Yz hgl]
  rfl
end Go.Px
namespace Go.Px
set_option linter.unusedVariables false
set_option linter.unusedSimpArgs false
theorem zmj {l m:List Nd}(h:∀ a∈l,IsD a) (h2:∀ a∈m,IsD a):eqZ ⟨0,lit [],0,0,mkS l⟩ ⟨0,lit [],0,0,mkS m⟩=decide (lit (Ze m)=lit (Ze l)):=by
 rw [Bool.eq_iff_iff,zbs,decide_eq_true_eq,wM]
 refine ⟨fun e=>?_,fun e=>zhC (zmf h h2 e.symm)⟩
 have:=zhx e 0
 rw [Y0 l h,Y0 m h2] at this
 exact this.symm
theorem zi0 (hw:qh ()=some true) (s:ByteArray) (k:Int):q26 (s,k)=some true:=by
 have hshow:=X5 s
 obtain ⟨l,e,hl,hs⟩:=Wd s
 unfold q26 q3e
 dsimp only
 rw [wh,Option.bind_some,hw,Option.bind_some,if_neg (by decide)]
 by_cases h0:(yH s).2.2=0
 case neg=>rw [if_pos (by simpa using h0)];rfl
 rw [if_neg (by simpa using h0),Option.bind_some]
 dsimp only
 by_cases hsz:16364 < s.size
 ·rw [if_pos (by simp;omega)];rfl
 rw [if_neg (by simp;omega),zW,hshow,Option.bind_some,e,Y0 l hl]
 obtain ⟨j,hj,hm⟩:∃ j:Nat,j≤s.size∧V0 IntKind.i64 (if 0 < k then k else 0) (IntKind.i64.wrap ((s.size:Int)+1))=some (j:Int):=by
  obtain ⟨n,hn⟩:∃ n:Nat,(if 0 < k then k else 0)=(n:Int):=⟨(if 0 < k then k else 0).toNat,by split <;> omega⟩
  refine ⟨n % (s.size+1),by have:=Nat.mod_lt n (show 0 < s.size+1 by omega);omega,?_⟩
  rw [hn,YM (by omega)]
  unfold V0
  rw [if_neg (by omega)]
  rfl
 have g1:Zl s 0 (j:Int)=some (s.extract 0 j):=Xf (i:=0) (by omega) hj
 have g2:Zl s (j:Int) (s.size:Int)=some (s.extract j s.size):=Xf hj (Nat.le_refl _)
 have z1:(s.extract 0 j).size≤s.size:=by rw [← Zu,XZ];simp [Zu];omega
 have z2:(s.extract j s.size).size≤s.size:=by rw [← Zu,XZ];simp [Zu]
 rw [hm,Option.bind_some,g1,Option.bind_some,zJ (by omega),g2,Option.bind_some,zJ (by rw [ByteArray.size_append,zg];simp;omega)]
 generalize s.extract 0 j++lit [32,35,120,10,32]++s.extract j s.size=u
 have hshow2:=X5 u
 obtain ⟨m,e2,hm2,hs2⟩:=Wd u
 simp only [wh,Option.bind_some,Zb]
 by_cases h1:(yH u).2.2=0
 case neg=>rw [if_pos (by simpa using h1)]
 rw [if_neg (by simpa using h1)]
 rw [e2] at hshow2 ⊢
 rw [Y0 m hm2] at hshow2
 dsimp only at hshow2 ⊢
 have ht1:=zbt (XO hs)
 have ht2:=zbt (XO hs2)
 have ha:=zgd (m:=⟨0,lit [],0,0,mkS m⟩) (XO hs)
 rw [zmj hl hm2,WK,WK] at ha
 dsimp only at ht1 ht2 ha
 rw [ht1,Option.bind_some,ht2,Option.bind_some,ha,Option.bind_some,hshow2,Option.bind_some]
 simp
end Go.Px
namespace Go.Px
theorem zeG {s:ByteArray}(_:s.size < 4611686018427387904) (k:Int):q26 (s,k)=some true:=zi0 zlG s k
end Go.Px
