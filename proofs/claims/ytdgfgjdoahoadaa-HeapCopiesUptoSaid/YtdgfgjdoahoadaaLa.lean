/- Part La: Px13aP Px13aA Px13aB Px13aC Px13aD Px13aF Px1 -/
import Derived.Test.YtdgfgjdoahoadaaSh
import Derived.Test.YtdgfgjdoahoadaaA9
namespace Go.Px
set_option linter.unusedVariables false
instance:Inhabited qh:=⟨⟨0,0,0,0⟩⟩
instance:Inhabited q8:=⟨⟨0,0,0,false,false,false,default,⟨[],false⟩⟩⟩
instance:Inhabited qg:=⟨⟨0,0,0⟩⟩
instance:Inhabited qi:=⟨⟨0,0,0,0⟩⟩
instance:Inhabited qd:=⟨⟨0,0,0,false,false,false,default,⟨[],false⟩⟩⟩
instance:Inhabited qe:=⟨⟨0,0,0⟩⟩
instance:Inhabited qj:=⟨⟨0,default,default,default,0,default,⟨[],false⟩⟩⟩
theorem zbQ {s β:Type}{f:s→Option (Step s β)}{Q:β→Prop}(I:s→Prop) (μ:s→Nat)
    (h:∀ x,I x→Tot (f x) fun st=>match st with | .next x'=>I x'∧μ x' < μ x | .done y=>Q y) (x:s) (hx:I x):Tot (lpO f x) Q:=zjz I μ h x hx
theorem Zx {s β:Type}{f:s→Option (Step s β)}{x:s}:lpO f x=(f x).bind fun st=>match st with | .next x'=>lpO f x' | .done y=>some y:=by
 show loopO f x=_
 rw [zdP]
 cases f x with
 |none=>rfl
 |some st=>cases st <;> rfl
theorem ziD {j:Nat}(h:j≤140737488355328):IntKind.i64.wrap ((j:Int)+1)=((j+1:Nat):Int):=by rw [zL (by omega) (by omega)];omega
theorem wa {s σ β:Type}{f:s→Option (Step s β)}{Q:β→Prop}(mk:Int→σ→s) (N:Nat) (hN:N≤140737488355328) (P:Nat→σ→Prop) (s0:σ) (h0:P 0 s0)
    (hs:∀ (j:Nat) (a:σ),j < N→P j a→Tot (f (mk j a)) fun st=>match st with | .next x'=>∃ a',x'=mk (IntKind.i64.wrap ((j:Int)+1)) a'∧P (j+1) a' | .done y=>Q y)
    (he:∀ a:σ,P N a→Tot (f (mk N a)) fun st=>match st with | .next _=>False | .done y=>Q y):Tot (lpO f (mk 0 s0)) Q:=by
  have key:∀ m (j:Nat) (a:σ),j+m=N→P j a→Tot (lpO f (mk j a)) Q:=by
    intro m
    induction m with
    |zero=>
      intro j a hj hP
      obtain rfl:j=N:=by omega
      obtain ⟨st,e,h⟩:=he a hP
      rw [Zx,e]
      cases st with
      |next _=>exact h.elim
      |done y=>exact ⟨y,rfl,h⟩
    |succ m ih=>
      intro j a hj hP
      obtain ⟨st,e,h⟩:=hs j a (by omega) hP
      rw [Zx,e]
      cases st with
      |next x'=>
        obtain ⟨a',rfl,h2⟩:=h
        rw [ziD (by omega)]
        exact ih (j+1) a' (by omega) h2
      |done y=>exact ⟨y,rfl,h⟩
  exact key N 0 s0 (by omega) h0
theorem Sl.set_eq {α:Type}(s:Sl α) (i:Int) (v:α):Sl.set s i v=⟨s.xs.set i.toNat v,s.nn⟩:=rfl
end Go.Px
namespace Go.Px
set_option linter.unusedVariables false
abbrev Leq:=qg
def fx (fs:List Leq) (i:Nat):Nat:=(fs.getD i default).X_.toNat
def fy (fs:List Leq) (i:Nat):Nat:=(fs.getD i default).Y_.toNat
def fc (fs:List Leq) (i:Nat):Int:=(fs.getD i default).C_
structure Fit (n:Nat) (fs:List Leq):Prop where
 n1:1≤n
 n2:n≤96
 len:fs.length≤768
 ok:∀ f∈fs,0≤f.X_∧f.X_ < n∧0≤f.Y_∧f.Y_ < n∧ -8796093022208≤f.C_∧f.C_≤8796093022208
theorem Fit.at {n:Nat}{fs:List Leq}(h:Fit n fs) {i:Nat}(hi:i < fs.length) :
    fx fs i < n∧fy fs i < n∧ -8796093022208≤fc fs i∧fc fs i≤8796093022208∧((fs.getD i default).X_=fx fs i)∧((fs.getD i default).Y_=fy fs i):=by
  have:=h.ok _ (Z4 default hi)
  unfold fx fy fc
  omega
def Ax (l:List Int) (x:Nat):Int:=l.getD x 0
theorem YY (l:List Int) (i j:Nat) (v:Int) (h:i < l.length):Ax (l.set i v) j=if j=i then v else Ax l j:=zjA l i j v 0 h
def Sol (fs:List Leq) (z:Nat→Int):Prop:=∀ i,i < fs.length→z (fx fs i)≤z (fy fs i)+fc fs i
def yo (F k i:Nat):Nat:=k * (F+1)+i+1
def lvl (F t:Nat):Nat:=if t=0 then 0 else (t - 1) / (F+1)+1
theorem wP {F k i:Nat}(h:i≤F):lvl F (yo F k i)=k+1:=by
 unfold lvl yo
 rw [if_neg (by omega)]
 have:(k * (F+1)+i+1 - 1) / (F+1)=k:=by
  rw [show k * (F+1)+i+1 - 1=i+(F+1) * k by rw [Nat.mul_comm];omega,Nat.add_mul_div_left _ _ (by omega),Nat.div_eq_of_lt (by omega)];omega
 rw [this]
theorem zeL {F s t:Nat}(h:s≤t):lvl F s≤lvl F t:=by
 unfold lvl
 by_cases hs:s=0
 ·simp [hs]
 ·rw [if_neg hs,if_neg (by omega)]
  have:=Nat.div_le_div_right (c:=F+1) (show s - 1≤t - 1 by omega)
  omega
theorem zf2 {F t:Nat}(h:0 < lvl F t):0 < t:=by
 unfold lvl at h;split at h <;> omega
def xW (F k j i:Nat):Nat:=if i < j then yo F k i else if k=0 then 0 else yo F (k - 1) i
structure BF (n:Nat) (fs:List Leq) (k j:Nat) (τ:Nat→Nat) (by_ d:List Int):Prop where
 lb:by_.length=n
 ld:d.length=n
 lo:∀ x,x < n→ -((k * (fs.length+1)+j:Nat) * 8796093022208:Int)≤Ax d x
 hi:∀ x,x < n→Ax d x≤0
 edge:∀ x,x < n→0 < τ x→∃ i,i < fs.length∧Ax by_ x=i∧fx fs i=x∧(Ax d (fy fs i)+fc fs i < Ax d x∨Ax d x=Ax d (fy fs i)+fc fs i∧τ (fy fs i) < τ x)∧
  lvl fs.length (τ x)≤lvl fs.length (τ (fy fs i))+1
 tmax:∀ x,x < n→τ x < yo fs.length k j
 fact:∀ i,i < fs.length→Ax d (fx fs i)≤Ax d (fy fs i)+fc fs i∨xW fs.length k j i≤τ (fy fs i)
 up:∀ z,Sol fs z→(∀ x,x < n→z x≤0)→∀ x,x < n→z x≤Ax d x
theorem za0 {F k j:Nat}:yo F k j < yo F k (j+1):=by unfold yo;omega
theorem zjR {F k j i:Nat}(hj:j≤F) (hi:i < F):xW F k j i < yo F k j:=by
 unfold xW
 split
 ·unfold yo;omega
 ·split
  ·unfold yo;omega
  ·unfold yo
   have:(k - 1) * (F+1)+(F+1)=k * (F+1):=by rw [← Nat.succ_mul];congr 1;omega
   omega
theorem BF.keep {n:Nat}{fs:List Leq}{k j:Nat}{τ:Nat→Nat}{by_ d:List Int}(h:BF n fs k j τ by_ d) (hj:j < fs.length) (hok:Ax d (fx fs j)≤Ax d (fy fs j)+fc fs j) :
    BF n fs k (j+1) τ by_ d:=by
  refine ⟨h.lb,h.ld,fun x hx=>?_,h.hi,h.edge,fun x hx=>Nat.lt_trans (h.tmax x hx) za0,fun i hi=>?_,h.up⟩
  · have:=h.lo x hx
    push_cast at this ⊢
    omega
  · rcases h.fact i hi with h1 | h1
    · exact .inl h1
    · by_cases e:i=j
      · subst e;exact .inl hok
      · right
        refine Nat.le_trans (Nat.le_of_eq ?_) h1
        unfold xW
        by_cases hlt:i < j
        · rw [if_pos hlt,if_pos (by omega)]
        · rw [if_neg hlt,if_neg (by omega)]
theorem BF.lower {n:Nat}{fs:List Leq}{k j:Nat}{τ:Nat→Nat}{by_ d:List Int}(hf:Fit n fs) (h:BF n fs k j τ by_ d) (hj:j < fs.length) (hbad:Ax d (fy fs j)+fc fs j < Ax d (fx fs j)) :
    BF n fs k (j+1) (fun x=>if x=fx fs j then yo fs.length k j else τ x) (by_.set (fx fs j) (j:Int)) (d.set (fx fs j) (Ax d (fy fs j)+fc fs j)):=by
  obtain ⟨hx,hy,hc1,hc2,_⟩:=hf.at hj
  have hxd:fx fs j < d.length:=by rw [h.ld];exact hx
  have hxb:fx fs j < by_.length:=by rw [h.lb];exact hx
  have hle:∀ x,x < n→Ax (d.set (fx fs j) (Ax d (fy fs j)+fc fs j)) x≤Ax d x:=by
    intro x _
    rw [YY _ _ _ _ hxd]
    split
    · rename_i e;subst e;omega
    · exact Int.le_refl _
  have hτ:∀ x,x < n→τ x≤(if x=fx fs j then yo fs.length k j else τ x):=by
    intro x hx'
    split
    · exact Nat.le_of_lt (h.tmax x hx')
    · exact Nat.le_refl _
  refine ⟨by simp [h.lb],by simp [h.ld],fun x hx'=>?_,fun x hx'=>?_,fun x hx' hpos=>?_,fun x hx'=>?_,fun i hi=>?_,fun z hz hz0 x hx'=>?_⟩
  · rw [YY _ _ _ _ hxd]
    have h1:=h.lo x hx'
    have h2:=h.lo (fy fs j) hy
    push_cast at h1 h2 ⊢
    split <;> omega
  · exact Int.le_trans (hle x hx') (h.hi x hx')
  · simp only [YY _ _ _ _ hxd,YY _ _ _ _ hxb]
    by_cases e:x=fx fs j
    · subst e
      refine ⟨j,hj,by simp,rfl,?_,?_⟩
      · simp only [if_true]
        by_cases e2:fy fs j=fx fs j
        · rw [if_pos e2];left;rw [e2] at hbad ⊢;omega
        · rw [if_neg e2,if_neg e2];right;exact ⟨rfl,h.tmax _ hy⟩
      · simp only [if_true]
        rw [wP (by omega)]
        by_cases e2:fy fs j=fx fs j
        · rw [if_pos e2,wP (by omega)];omega
        · rw [if_neg e2]
          by_cases hk:k=0
          · subst hk;omega
          · rcases h.fact j hj with h1 | h1
            · omega
            · have h3:=zeL (F:=fs.length) h1
              unfold xW at h3
              rw [if_neg (by omega),if_neg hk,wP (by omega)] at h3
              omega
    · simp only [e,if_false] at hpos
      obtain ⟨i,hi,h1,h2,h3,h4⟩:=h.edge x hx' hpos
      obtain ⟨_,hyi,_⟩:=hf.at hi
      refine ⟨i,hi,by simp [e,h1],h2,?_,?_⟩
      · simp only [e,if_false]
        by_cases e2:fy fs i=fx fs j
        · rw [if_pos e2];left;rw [e2] at h3;omega
        · rw [if_neg e2,if_neg e2];exact h3
      · simp only [e,if_false]
        have:=zeL (F:=fs.length) (hτ (fy fs i) hyi)
        omega
  · split
    · exact za0
    · exact Nat.lt_trans (h.tmax x hx') za0
  · obtain ⟨hxi,hyi,_⟩:=hf.at hi
    simp only [YY _ _ _ _ hxd]
    by_cases ei:i=j
    · subst ei
      by_cases e2:fy fs i=fx fs i
      · right;rw [if_pos e2];unfold xW;rw [if_pos (by omega)];exact Nat.le_refl _
      · left;rw [if_pos rfl,if_neg e2];exact Int.le_refl _
    · have htl:xW fs.length k (j+1) i=xW fs.length k j i:=by
        unfold xW
        by_cases hlt:i < j
        · rw [if_pos hlt,if_pos (by omega)]
        · rw [if_neg hlt,if_neg (by omega)]
      rw [htl]
      by_cases e2:fy fs i=fx fs j
      · right;rw [if_pos e2];exact Nat.le_of_lt (zjR (by omega) hi)
      · rcases h.fact i hi with h1 | h1
        · left
          rw [if_neg e2]
          have:=hle (fx fs i) hxi
          rw [YY _ _ _ _ hxd] at this
          omega
        · right;rw [if_neg e2];exact h1
  · rw [YY _ _ _ _ hxd]
    split
    · rename_i e
      subst e
      have h1:=hz j hj
      have h2:=h.up z hz hz0 _ hy
      omega
    · exact h.up z hz hz0 x hx'
theorem BF.round {n:Nat}{fs:List Leq}{k:Nat}{τ:Nat→Nat}{by_ d:List Int}(h:BF n fs k fs.length τ by_ d):BF n fs (k+1) 0 τ by_ d:=by
 have hst:yo fs.length k fs.length < yo fs.length (k+1) 0+1:=by
  unfold yo;rw [Nat.add_mul];omega
 refine ⟨h.lb,h.ld,fun x hx=>?_,h.hi,h.edge,fun x hx=>by have:=h.tmax x hx;omega,fun i hi=>?_,h.up⟩
 ·have:=h.lo x hx
  rw [Nat.add_mul]
  push_cast at this ⊢
  omega
 ·rcases h.fact i hi with h1 | h1
  ·exact .inl h1
  ·right
   unfold xW at h1 ⊢
   rw [if_pos hi] at h1
   rw [if_neg (by omega),if_neg (by omega)]
   exact h1
theorem BF.start (n:Nat) (fs:List Leq):BF n fs 0 0 (fun _=>0) (List.replicate n 0) (List.replicate n 0):=by
 have hat:∀ x,Ax (List.replicate n 0) x=0:=by
  intro x;unfold Ax
  rw [List.getD_eq_getElem?_getD,List.getElem?_replicate]
  split <;> rfl
 refine ⟨by simp,by simp,fun x hx=>by simp [hat],fun x hx=>by simp [hat],fun x hx h=>by simp at h,fun x hx=>by unfold yo;omega,fun i hi =>.inr (by simp [xW]),fun z hz h0 x hx=>by rw [hat];exact h0 x hx⟩
theorem Zy {s:Sl Int}{i:Int}{x n:Nat}(hs:s.xs.length=n) (hi:i=x) (hx:x < n):zc s i=some (Ax s.xs x):=by
 subst hi;rw [Zb 0 (by omega) (by omega)];rfl
theorem XC {fs:Sl Leq}{i:Int}{j:Nat}(hi:i=j) (hj:j < fs.xs.length):zc fs i=some (fs.xs.getD j default):=by
 subst hi;rw [Zb default (by omega) (by omega)];rfl
theorem ziE {k F j:Nat}(hk:k < 96) (hF:F≤768) (hj:j≤F):k * (F+1)+j≤73824:=by
 have:k * (F+1)≤95 * 769:=Nat.mul_le_mul (by omega) (by omega)
 omega
abbrev RT:=Int×Sl Leq×Int×Int×Int×Sl Leq×Int×Int×Sl Int×Sl Int
def zcz (n:Nat) (fs:Sl Leq) (k:Nat) (x:RT):Prop:=
  ∃ (d by_:Sl Int) (last:Int) (j:Nat) (τ:Nat→Nat),x=((n:Int),fs,last,(n:Int),(k:Int),fs,fs.len,(j:Int),d,by_)∧j≤fs.xs.length∧BF n fs.xs k j τ by_.xs d.xs∧by_.nn=true∧d.nn=true∧
    ((last = -1∧∀ i,i < j→Ax d.xs (fx fs.xs i)≤Ax d.xs (fy fs.xs i)+fc fs.xs i)∨
     ∃ l:Nat,last=l∧l < fs.xs.length∧lvl fs.xs.length (τ (fx fs.xs l))=k+1)
def zdc (n:Nat) (fs:Sl Leq) (k:Nat) (y:Int×Sl Leq×Int×Int×Int×Sl Int×Sl Int):Prop:=
  ∃ (d by_:Sl Int) (last:Int) (τ:Nat→Nat),y=((n:Int),fs,last,(n:Int),(k:Int),d,by_)∧BF n fs.xs (k+1) 0 τ by_.xs d.xs∧by_.nn=true∧d.nn=true∧
    ((last = -1∧∀ i,i < fs.xs.length→Ax d.xs (fx fs.xs i)≤Ax d.xs (fy fs.xs i)+fc fs.xs i)∨
     ∃ l:Nat,last=l∧l < fs.xs.length∧lvl fs.xs.length (τ (fx fs.xs l))=k+1)
theorem zhb {n:Nat}{fs:Sl Leq}(hf:Fit n fs.xs) {k:Nat}(hk:k < 96) (x:RT) (hI:zcz n fs k x) :
    Tot (q3h x) fun st=>match st with
      | .next x'=>zcz n fs k x'∧fs.xs.length - x'.2.2.2.2.2.2.2.1.toNat < fs.xs.length - x.2.2.2.2.2.2.2.1.toNat
      | .done y=>zdc n fs k y:=by
  obtain ⟨d,by_,last,j,τ,rfl,hj,hB,hn1,hn2,hlast⟩:=hI
  unfold q3h
  simp only
  refine zR (fun hlt=>?_) (fun hge=>?_)
  · have hlt':(j:Int) < fs.xs.length:=hlt
    have hj':j < fs.xs.length:=by omega
    obtain ⟨hx,hy,hc1,hc2,hX,hY⟩:=hf.at hj'
    have hlx:=hB.lo (fy fs.xs j) hy
    have hhx:=hB.hi (fy fs.xs j) hy
    have hmb:=ziE hk hf.len hj
    have hw:IntKind.i64.wrap (Ax d.xs (fy fs.xs j)+(fs.xs.getD j default).C_)=Ax d.xs (fy fs.xs j)+fc fs.xs j:=by
      have hc:(fs.xs.getD j default).C_=fc fs.xs j:=rfl
      rw [hc]
      have hmb':((k * (fs.xs.length+1)+j:Nat):Int)≤73824:=by omega
      exact zL (by omega) (by omega)
    have hnx:IntKind.i64.wrap ((j:Int)+1)=((j+1:Nat):Int):=by
      rw [zL (by omega) (by have:=hf.len;omega)];omega
    refine zf (zx (XC rfl hj') ?_)
    refine zf (zx (Zy hB.ld hY hy) (zf (zx (Zy hB.ld hY hy) (zf (zx (Zy hB.ld hX hx) (zf (zx (Zy hB.ld hX hx) ?_)))))))
    rw [hw]
    refine zf (zR (fun hbad=>?_) (fun hok=>?_))
    · refine zf (zx (Zy hB.ld hX hx) (zf (zx (Zy hB.ld hX hx) (zf (zx (Zy hB.lb hX hx) (zf (zx (Zy hB.lb hX hx) ?_)))))))
      refine zg (zg ?_)
      refine ⟨⟨⟨d.xs.set (fx fs.xs j) (Ax d.xs (fy fs.xs j)+fc fs.xs j),d.nn⟩,⟨by_.xs.set (fx fs.xs j) (j:Int),by_.nn⟩,j,j+1,_,?_,by omega,hB.lower hf hj' hbad,hn1,hn2,.inr ⟨j,rfl,hj',?_⟩⟩,by simp only;rw [hnx];omega⟩
      · rw [hnx];rfl
      · simp only [if_true];exact wP (by omega)
    · refine zg (zg ?_)
      have hok':Ax d.xs (fx fs.xs j)≤Ax d.xs (fy fs.xs j)+fc fs.xs j:=by omega
      refine ⟨⟨d,by_,last,j+1,τ,by rw [hnx],by omega,hB.keep hj' hok',hn1,hn2,?_⟩,by simp only;rw [hnx];omega⟩
      rcases hlast with ⟨h1,h2⟩ | h1
      · refine .inl ⟨h1,fun i hi=>?_⟩
        by_cases e:i=j
        · subst e;exact hok'
        · exact h2 i (by omega)
      · exact .inr h1
  · have hge':¬ (j:Int) < fs.xs.length:=hge
    have hjF:j=fs.xs.length:=by omega
    subst hjF
    exact zg ⟨d,by_,last,τ,rfl,hB.round,hn1,hn2,hlast⟩
end Go.Px
namespace Go.Px
set_option linter.unusedVariables false
theorem ziF {n:Nat}{fs:Sl Leq}(hf:Fit n fs.xs) {k:Nat}(hk:k < 96) {τ:Nat→Nat}{by_ d:Sl Int}(hB:BF n fs.xs k 0 τ by_.xs d.xs) (h1:by_.nn=true) (h2:d.nn=true) :
    Tot (lpO q3h ((n:Int),fs,(-1),(n:Int),(k:Int),fs,fs.len,0,d,by_)) (zdc n fs k):=
  zbQ (zcz n fs k) (fun x=>fs.xs.length - x.2.2.2.2.2.2.2.1.toNat) (fun x hx=>(zhb hf hk x hx).mono (by rintro (x' | y) h <;> exact h)) _
    ⟨d,by_, -1,0,τ,rfl,by omega,hB,h1,h2,.inl ⟨rfl,fun i hi=>by omega⟩⟩
structure Best (n:Nat) (fs:List Leq) (d:List Int):Prop where
 len:d.length=n
 sol:∀ i,i < fs.length→Ax d (fx fs i)≤Ax d (fy fs i)+fc fs i
 hi:∀ x,x < n→Ax d x≤0
 up:∀ z,Sol fs z→(∀ x,x < n→z x≤0)→∀ x,x < n→z x≤Ax d x
 lo:∀ x,x < n→ -811748818688000000≤Ax d x
def zns (n:Nat) (fs:List Leq) (by_:List Int) (l:Nat):Prop:=
 ∃ (τ:Nat→Nat) (d:List Int),BF n fs n 0 τ by_ d∧l < fs.length∧lvl fs.length (τ (fx fs l))=n
abbrev ST:=Int×Sl Leq×Int×Int×Int×Sl Int×Sl Int
def zjS (n:Nat) (fs:Sl Leq) (x:ST):Prop:=
 ∃ (d by_:Sl Int) (last:Int) (k:Nat) (τ:Nat→Nat),x=((n:Int),fs,last,(n:Int),(k:Int),d,by_)∧k≤n∧BF n fs.xs k 0 τ by_.xs d.xs∧by_.nn=true∧d.nn=true∧
  (k=0∨∃ l:Nat,last=l∧l < fs.xs.length∧lvl fs.xs.length (τ (fx fs.xs l))=k)
def ziG (n:Nat) (fs:Sl Leq) (y:Sl Int⊕Int×Sl Leq×Int×Sl Int):Prop:=match y with
 | .inl d=>d.nn=true∧Best n fs.xs d.xs
 | .inr y=>∃ (by_:Sl Int) (l:Nat),y=((n:Int),fs,(l:Int),by_)∧by_.nn=true∧zns n fs.xs by_.xs l
theorem zlE {n:Nat}{fs:Sl Leq}(hf:Fit n fs.xs) (x:ST) (hI:zjS n fs x) :
    Tot (q4l x) fun st=>match st with
      | .next x'=>zjS n fs x'∧n - x'.2.2.2.2.1.toNat < n - x.2.2.2.2.1.toNat
      | .done y=>ziG n fs y:=by
  obtain ⟨d,by_,last,k,τ,rfl,hk,hB,hn1,hn2,hlast⟩:=hI
  have hn:=hf.n2
  unfold q4l
  simp only
  refine zR (fun hlt=>?_) (fun hge=>?_)
  · have hk':k < n:=by have:(k:Int) < n:=hlt;omega
    refine zf ((ziF hf (by omega) hB hn1 hn2).mono ?_)
    rintro y ⟨d2,by2,last2,τ2,rfl,hB2,h1,h2,hl2⟩
    simp only
    refine zR (fun hneg=>?_) (fun hpos=>?_)
    · refine zg ⟨h2,?_⟩
      rcases hl2 with ⟨_,h3⟩ | ⟨l,h3,_⟩
      · refine ⟨hB2.ld,h3,hB2.hi,hB2.up,fun x hx=>?_⟩
        have h5:(k+1) * (fs.xs.length+1)≤96 * 769:=Nat.mul_le_mul (by omega) (by have:=hf.len;omega)
        generalize hq:(k+1) * (fs.xs.length+1)=q at h5
        have h4 : -((((k+1) * (fs.xs.length+1)+0:Nat):Int) * 8796093022208)≤Ax d2.xs x:=by
          have:=hB2.lo x hx
          push_cast at this ⊢
          exact this
        rw [hq] at h4
        show -811748818688000000≤Ax d2.xs x
        omega
      · have:last2 < 0:=hneg
        omega
    · have hnx:IntKind.i64.wrap ((k:Int)+1)=((k+1:Nat):Int):=by
        rw [zL (by omega) (by omega)];omega
      refine zg ⟨⟨d2,by2,last2,k+1,τ2,by rw [hnx],by omega,hB2,h1,h2,.inr ?_⟩,by simp only;rw [hnx];omega⟩
      rcases hl2 with ⟨h3,_⟩ | h3
      · have:¬ last2 < 0:=hpos
        omega
      · exact h3
  · have hkn:k=n:=by have:¬ (k:Int) < n:=hge;omega
    subst hkn
    rcases hlast with h0 | ⟨l,h1,h2,h3⟩
    · have:=hf.n1;omega
    · subst h1
      exact zg ⟨by_,l,rfl,hn1,τ,d.xs,hB,h2,h3⟩
def back (fs:List Leq) (by_:List Int) (x:Nat):Nat:=fy fs (Ax by_ x).toNat
def chain (fs:List Leq) (by_:List Int) (x0:Nat):Nat→Nat
 |0=>x0
 |m+1=>back fs by_ (chain fs by_ x0 m)
structure Way (n:Nat) (fs:List Leq) (by_:List Int) (τ:Nat→Nat) (d:List Int) (x:Nat):Prop where
 lt:x < n
 idx:∃ i:Nat,i < fs.length∧Ax by_ x=i∧fx fs i=x∧back fs by_ x=fy fs i∧
  (Ax d (fy fs i)+fc fs i < Ax d x∨Ax d x=Ax d (fy fs i)+fc fs i∧τ (fy fs i) < τ x)
theorem ziH {n:Nat}{fs:List Leq}{by_ d:List Int}{τ:Nat→Nat}{k j:Nat}(hB:BF n fs k j τ by_ d) {x:Nat}(hx:x < n) (hl:0 < lvl fs.length (τ x)):Way n fs by_ τ d x:=by
 obtain ⟨i,hi,h1,h2,h3,_⟩:=hB.edge x hx (zf2 hl)
 exact ⟨hx,i,hi,h1,h2,by unfold back;rw [h1];simp,h3⟩
theorem Vn {n:Nat}{fs:List Leq}(hf:Fit n fs) {by_ d:List Int}{τ:Nat→Nat}(hB:BF n fs n 0 τ by_ d) {x0:Nat}(h0:x0 < n) (hl:lvl fs.length (τ x0)=n) :
    ∀ m,m≤n→chain fs by_ x0 m < n∧n - m≤lvl fs.length (τ (chain fs by_ x0 m))
  |0,_=>⟨h0,by simp [chain,hl]⟩
  |m+1,hm=>by
    obtain ⟨h1,h2⟩:=Vn hf hB h0 hl m (by omega)
    obtain ⟨i,hi,k1,k2,k3,k4⟩:=hB.edge _ h1 (zf2 (F:=fs.length) (by omega))
    have hb:chain fs by_ x0 (m+1)=fy fs i:=by
      show back fs by_ _=_
      unfold back;rw [k1];simp
    obtain ⟨_,hy,_⟩:=hf.at hi
    rw [hb]
    exact ⟨hy,by omega⟩
theorem wQ (fs:List Leq) (by_:List Int) (x0:Nat) (a:Nat):∀ m,chain fs by_ (chain fs by_ x0 a) m=chain fs by_ x0 (a+m)
 |0=>rfl
 |m+1=>by show back fs by_ _=back fs by_ (chain fs by_ x0 (a+m));rw [wQ fs by_ x0 a m]
theorem Vo {fs:List Leq}{by_:List Int}{x0 i j:Nat}(hij:i < j) (he:chain fs by_ x0 i=chain fs by_ x0 j):∀ m,chain fs by_ x0 (i+m)=chain fs by_ x0 (j+m)
 |0=>he
 |m+1=>by show back fs by_ (chain fs by_ x0 (i+m))=back fs by_ (chain fs by_ x0 (j+m));rw [Vo hij he m]
theorem zfr {n:Nat}{fs:List Leq}(hf:Fit n fs) {by_ d:List Int}{τ:Nat→Nat}(hB:BF n fs n 0 τ by_ d) {x0:Nat}(h0:x0 < n) (hl:lvl fs.length (τ x0)=n) :
    ∃ p,0 < p∧p≤n∧chain fs by_ (chain fs by_ x0 n) p=chain fs by_ x0 n∧(∀ m,0 < m→m < p→chain fs by_ (chain fs by_ x0 n) m≠chain fs by_ x0 n)∧
      ∀ m,Way n fs by_ τ d (chain fs by_ (chain fs by_ x0 n) m):=by
  have hc:=Vn hf hB h0 hl
  obtain ⟨i,j,hij,hjn,he⟩:=zet n (chain fs by_ x0) fun m hm=>(hc m hm).1
  have hper:=Vo hij he
  have hin:∀ m,∃ q,i≤q∧q < j∧chain fs by_ x0 (i+m)=chain fs by_ x0 q:=by
    intro m
    induction m using Nat.strongRecOn with
    |_ m ih=>
      by_cases hm:i+m < j
      · exact ⟨i+m,by omega,hm,rfl⟩
      · obtain ⟨q,h1,h2,h3⟩:=ih (m - (j - i)) (by omega)
        refine ⟨q,h1,h2,?_⟩
        rw [← h3]
        have:=hper (m - (j - i))
        rw [this];congr 1;omega
  have hway:∀ m,Way n fs by_ τ d (chain fs by_ (chain fs by_ x0 n) m):=by
    intro m
    rw [wQ]
    obtain ⟨q,h1,h2,h3⟩:=hin (n+m - i)
    rw [show i+(n+m - i)=n+m by omega] at h3
    rw [h3]
    obtain ⟨k1,k2⟩:=hc q (by omega)
    exact ziH hB k1 (by omega)
  have hex:∃ p,0 < p∧chain fs by_ (chain fs by_ x0 n) p=chain fs by_ x0 n:=by
    refine ⟨j - i,by omega,?_⟩
    rw [wQ]
    have:=hper (n - i)
    rw [show i+(n - i)=n by omega,show j+(n - i)=n+(j - i) by omega] at this
    exact this.symm
  obtain ⟨p,⟨hp,hpe⟩,hmin⟩:=YN hex
  refine ⟨p,hp,?_,hpe,fun m hm hmp e=>by have:=hmin m ⟨hm,e⟩;omega,hway⟩
  have:=hmin (j - i) ⟨by omega,by
    rw [wQ]
    have:=hper (n - i)
    rw [show i+(n - i)=n by omega,show j+(n - i)=n+(j - i) by omega] at this
    exact this.symm⟩
  omega
structure Circle (fs:List Leq) (c:List Int):Prop where
 ne:0 < c.length
 lt:∀ i,i < c.length→0≤Ax c i∧Ax c i < fs.length
 link:∀ i,i < c.length→fy fs (Ax c i).toNat=fx fs (Ax c ((i+1) % c.length)).toNat
 neg:((List.range c.length).map fun i=>fc fs (Ax c i).toNat).sum < 0
theorem zbR {n:Nat}{fs:List Leq}{by_ d:List Int}{τ:Nat→Nat}{x:Nat}(hw:∀ m,Way n fs by_ τ d (chain fs by_ x m)):∀ p,
    ((List.range p).map fun m=>fc fs (Ax by_ (chain fs by_ x m)).toNat).sum+Ax d (chain fs by_ x p) < Ax d x∨
    ((List.range p).map fun m=>fc fs (Ax by_ (chain fs by_ x m)).toNat).sum+Ax d (chain fs by_ x p)=Ax d x∧(p=0∨τ (chain fs by_ x p) < τ x)
  |0 =>.inr ⟨by simp [chain],.inl rfl⟩
  |p+1=>by
    have ih:=zbR hw p
    obtain ⟨i,hi,h1,h2,h3,h4⟩:=(hw p).idx
    rw [List.range_succ,List.map_append,List.sum_append]
    have hb:chain fs by_ x (p+1)=fy fs i:=h3
    have hc:fc fs (Ax by_ (chain fs by_ x p)).toNat=fc fs i:=by rw [h1];simp
    simp only [List.map_cons,List.map_nil,List.sum_cons,List.sum_nil,hc,hb]
    rcases ih with ih | ⟨ih,ht⟩
    · left;rcases h4 with h4 | ⟨h4,_⟩ <;> omega
    · rcases h4 with h4 | ⟨h4,h5⟩
      · left;omega
      · right
        refine ⟨by omega,.inr ?_⟩
        rcases ht with rfl | ht
        · exact h5
        · omega
theorem zbS (p:Nat) (f:Nat→Int) (i:Nat) (h:i < p):Ax ((List.range p).map f) i=f i:=by
 unfold Ax
 simp [List.getD_eq_getElem?_getD,h]
theorem ziI {n:Nat}{fs:List Leq}{by_ d:List Int}{τ:Nat→Nat}{x p:Nat}(hw:∀ m,Way n fs by_ τ d (chain fs by_ x m)) (hp:0 < p) (he:chain fs by_ x p=x) :
    Circle fs ((List.range p).map fun m=>Ax by_ (chain fs by_ x m)):=by
  have hl:((List.range p).map fun m=>Ax by_ (chain fs by_ x m)).length=p:=by simp
  refine ⟨by omega,fun i hi=>?_,fun i hi=>?_,?_⟩
  · rw [hl] at hi
    rw [zbS p _ i hi]
    obtain ⟨j,hj,h1,_⟩:=(hw i).idx
    omega
  · rw [hl] at hi ⊢
    have hm:(i+1) % p < p:=Nat.mod_lt _ hp
    rw [zbS p _ i hi,zbS p _ _ hm]
    obtain ⟨j,hj,h1,h2,h3,_⟩:=(hw i).idx
    obtain ⟨j',hj',k1,k2,_⟩:=(hw ((i+1) % p)).idx
    rw [k1,h1]
    simp only [Int.toNat_natCast]
    rw [k2,← h3]
    show chain fs by_ x (i+1)=_
    by_cases hlast:i+1=p
    · rw [hlast,he,Nat.mod_self];rfl
    · rw [Nat.mod_eq_of_lt (by omega)]
  · rw [hl]
    have h1:((List.range p).map fun i=>fc fs (Ax ((List.range p).map fun m=>Ax by_ (chain fs by_ x m)) i).toNat)=(List.range p).map fun m=>fc fs (Ax by_ (chain fs by_ x m)).toNat:=by
      apply List.map_congr_left
      intro i hi
      rw [zbS p _ i (List.mem_range.1 hi)]
    rw [h1]
    rcases zbR hw p with h | ⟨h,h2⟩
    · rw [he] at h;omega
    · rw [he] at h2;omega
theorem zbT (f:Nat→Int) (m:Nat):(List.range m).map f++[f m]=(List.range (m+1)).map f:=by
 rw [List.range_succ,List.map_append];rfl
theorem zbU {n:Nat}{fs:Sl Leq}(hf:Fit n fs.xs):Tot (q3v ((n:Int),fs)) fun r=>match r with
    | .inl d=>d.nn=true∧Best n fs.xs d.xs
    | .inr c=>c.nn=true∧Circle fs.xs c.xs∧c.xs.length≤n:=by
  have hn1:=hf.n1
  have hn2:=hf.n2
  unfold q3v q4m
  simp only
  have hmk:Z8 8 (n:Int) (0:Int)=some ⟨List.replicate n 0,true⟩:=by rw [zes (by omega) (by omega) (by omega)];simp
  refine zf (zx hmk (zf (zx hmk (zf ?_))))
  refine (zbQ (zjS n fs) (fun x=>n - x.2.2.2.2.1.toNat) (Q:=ziG n fs) (fun x hx=>?_) _ ⟨_,_,_,0,fun _=>0,rfl,by omega,BF.start n fs.xs,rfl,rfl,.inl rfl⟩).mono ?_
  · refine (zlE hf x hx).mono ?_
    rintro (x' | y) h <;> exact h
  · rintro (d | y) h
    · exact zg h
    · obtain ⟨by_,l,rfl,hnn,τ,d,hB,hlF,hlv⟩:=h
      simp only [Sum.elim_inr]
      obtain ⟨hx,hy,_,_,hX,hY⟩:=hf.at hlF
      have hcl:=Vn hf hB hx hlv
      obtain ⟨p,hp0,hpn,hpe,hmin,hway⟩:=zfr hf hB hx hlv
      refine zf (zx (XC rfl hlF) (zf ?_))
      refine (zbQ (fun x=>∃ m:Nat,m≤n∧x=(fs,(chain fs.xs by_.xs (fx fs.xs l) m:Int),(n:Int),(m:Int),by_)) (fun x=>n - x.2.2.2.1.toNat) (Q:=fun y=>y=(fs,(chain fs.xs by_.xs (fx fs.xs l) n:Int),by_)) ?_ _ ⟨0,by omega,by rw [hX];rfl⟩).mono ?_
      · rintro _ ⟨m,hm,rfl⟩
        unfold q5z
        simp only
        refine zR (fun hlt=>?_) (fun hge=>?_)
        · have hm':m < n:=by have:(m:Int) < n:=hlt;omega
          obtain ⟨h1,h2⟩:=hcl m hm
          obtain ⟨i,hi,k1,k2,k3,_⟩:=(ziH hB h1 (by omega)).idx
          refine zf (zx (Zy hB.lb rfl h1) (zf (zx (Zy hB.lb rfl h1) (zf (zx (XC k1 hi) (zg ?_))))))
          have hnx:IntKind.i64.wrap ((m:Int)+1)=((m+1:Nat):Int):=by rw [zL (by omega) (by omega)];omega
          obtain ⟨_,_,_,_,_,hYi⟩:=hf.at hi
          refine ⟨⟨m+1,by omega,?_⟩,by simp only;rw [hnx];omega⟩
          rw [hnx,hYi,← k3];rfl
        · have:m=n:=by have:¬ (m:Int) < n:=hge;omega
          subst this
          exact zg rfl
      · rintro _ rfl
        refine zf ?_
        simp only
        refine (zbQ (fun x=>∃ (m:Nat) (cy:Sl Int),m < p∧x=(fs,(chain fs.xs by_.xs (fx fs.xs l) n:Int),(chain fs.xs by_.xs (chain fs.xs by_.xs (fx fs.xs l) n) m:Int),by_,cy)∧cy.xs=((List.range m).map fun q=>Ax by_.xs (chain fs.xs by_.xs (chain fs.xs by_.xs (fx fs.xs l) n) q))∧(m=0∨cy.nn=true)) (fun x=>p - x.2.2.2.2.xs.length)
          (Q:=fun y=>y.nn=true∧y.xs=((List.range p).map fun q=>Ax by_.xs (chain fs.xs by_.xs (chain fs.xs by_.xs (fx fs.xs l) n) q))) ?_ _ ⟨0,_,hp0,rfl,rfl,.inl rfl⟩).mono ?_
        · rintro _ ⟨m,cy,hm,rfl,hcy,hcn⟩
          obtain ⟨i,hi,k1,k2,k3,_⟩:=(hway m).idx
          unfold q60
          simp only
          have hlen:cy.xs.length=m:=by rw [hcy];simp
          refine zf (zx (Zy hB.lb rfl (hway m).lt) (zf (zx (Zy hB.lb rfl (hway m).lt) (zf (zx (ZY (by simp [hlen];omega) (by simp [hlen];omega)) (zf (zx (XC k1 hi) ?_)))))))
          obtain ⟨_,_,_,_,_,hYi⟩:=hf.at hi
          have hnext:(fs.xs.getD i default).Y_=(chain fs.xs by_.xs (chain fs.xs by_.xs (fx fs.xs l) n) (m+1):Int):=by
            rw [hYi,← k3];rfl
          have hsn:cy.xs++[Ax by_.xs (chain fs.xs by_.xs (chain fs.xs by_.xs (fx fs.xs l) n) m)]=(List.range (m+1)).map fun q=>Ax by_.xs (chain fs.xs by_.xs (chain fs.xs by_.xs (fx fs.xs l) n) q):=by
            rw [hcy];exact zbT (fun q=>Ax by_.xs (chain fs.xs by_.xs (chain fs.xs by_.xs (fx fs.xs l) n) q)) m
          refine zR (fun heq=>?_) (fun hne=>?_)
          · rw [hnext] at heq
            have hmp:m+1=p:=by
              apply Classical.byContradiction
              intro hne
              exact hmin (m+1) (by omega) (by omega) (by omega)
            subst hmp
            exact zg ⟨by simp,hsn⟩
          · rw [hnext] at hne
            have hmp:m+1≠p:=fun e=>by subst e;exact hne (by rw [hpe])
            refine zg ⟨⟨m+1,_,by omega,by rw [hnext],hsn,.inr (by simp)⟩,?_⟩
            simp only [List.length_append,List.length_cons,List.length_nil,hlen]
            omega
        · rintro y ⟨hyn,hy⟩
          refine zg ⟨hyn,?_,?_⟩
          · rw [hy];exact ziI hway hp0 hpe
          · rw [hy];simpa using hpn
end Go.Px
namespace Go.Px
set_option linter.unusedVariables false
theorem WB {α:Type}{p:Option α}{a:α}(h:Tot p fun b=>b=a):p=some a:=by
 obtain ⟨b,h1,rfl⟩:=h;exact h1
theorem ziJ {α:Type}{s:Sl α}{j:Nat}(h:j < s.xs.length):(j:Int) < s.len:=by rw [zt];omega
theorem zf3 {α:Type}{s:Sl α}:¬ ((s.xs.length:Nat):Int) < s.len:=by rw [zt];omega
def XM (f:Leq) (a:Int):Bool:=
 (((((decide (f.X_ < 0) || decide (a≤f.X_)) || decide (f.Y_ < 0)) || decide (a≤f.Y_)) || decide (8796093022208 < f.C_)) || decide (f.C_ < (-8796093022208)))
def XN (n:Int) (fs:List Leq):Int:=if 768 < fs.length then 22 else if n < 1∨96 < n then 2 else if fs.any (fun f=>XM f n)=true then 2 else 0
theorem zf4 {σ:Type}{p:Leq→Bool}{f:Leq×σ→Option (Bool×σ)}{g:Sl Leq×Int×Int×σ→Option (Step (Sl Leq×Int×Int×σ) (Int×σ⊕σ))}(hg:∀ x,g x=if decide (x.snd.snd.fst < x.snd.fst)=true then
      (zc x.fst x.snd.snd.fst).bind fun (y1:Leq)=>(f (y1,x.snd.snd.snd)).bind fun (y2:Bool×σ)=>if y2.fst=true then some (Step.done (Sum.inl (x.snd.snd.fst,y2.snd))) else some (Step.next (x.fst,x.snd.fst,IntKind.i64.wrap (x.snd.snd.fst+1),y2.snd))
    else some (Step.done (Sum.inr x.snd.snd.snd))) {st:σ} (s:Sl Leq) (hl:s.xs.length≤140737488355328) (hf:∀ x∈s.xs,f (x,st)=some (p x,st)) :
    Tot (lpO g (s,Sl.len s,0,st)) fun r=>match r with
      | .inl (i,st')=>0≤i∧st'=st∧s.xs.any p=true
      | .inr st'=>st'=st∧s.xs.any p=false:=by
  refine wa (fun i (_:Unit)=>(s,Sl.len s,i,st)) s.xs.length hl (fun j _=>∀ i,i < j→p (s.xs.getD i default)=false) () (fun i hi=>by omega) ?_ ?_
  · intro j _ hj hP
    rw [hg]
    simp only
    refine zR (fun _=>?_) (fun h=>(h (ziJ hj)).elim)
    refine zf (zx (XC rfl hj) (zf (zx (hf _ (Z4 default hj)) ?_)))
    refine zcu (fun hp=>zg ⟨by omega,rfl,?_⟩) (fun hp=>zg ⟨(),rfl,?_⟩)
    · exact List.any_eq_true.2 ⟨_,Z4 default hj,hp⟩
    · intro i hi
      by_cases e:i=j
      · subst e;exact hp
      · exact hP i (by omega)
  · intro _ hP
    rw [hg]
    simp only
    refine zR (fun h=>(zf3 h).elim) (fun _=>zg ⟨rfl,?_⟩)
    refine List.any_eq_false.2 fun x hx=>?_
    obtain ⟨i,hi,rfl⟩:=List.getElem_of_mem hx
    have:=hP i hi
    rw [List.getD_eq_getElem?_getD,List.getElem?_eq_getElem hi] at this
    simp only [Option.getD_some] at this
    rw [this];simp
theorem zme (f:Leq) (n:Int):q3w (f,n)=some (XM f n,n):=by
 unfold q3w q4n XM
 simp only
 by_cases h1:f.X_ < 0
 ·simp [h1]
 by_cases h2:n≤f.X_
 ·simp [h1,h2]
 by_cases h3:f.Y_ < 0
 ·simp [h1,h2,h3]
 by_cases h4:n≤f.Y_
 ·simp [h1,h2,h3,h4]
 by_cases h5:8796093022208 < f.C_
 ·simp [h1,h2,h3,h4,h5]
 simp [h1,h2,h3,h4,h5]
theorem zfs (s:Sl Leq) (hl:s.xs.length≤140737488355328) (n:Int):q2s (s,n)=some (s.xs.any fun f=>XM f n,n):=by
 apply WB
 unfold q2s q2f q4y q35
 simp only
 refine zf (zf ((zf4 (p:=fun f=>XM f n) (f:=q3w) (fun x=>rfl) s hl (fun x _=>zme x n)).mono ?_))
 rintro (⟨i,st⟩ | st) h
 ·obtain ⟨h1,rfl,h2⟩:=h
  refine zg (zg ?_)
  rw [h2,decide_eq_true h1]
 ·obtain ⟨rfl,h2⟩:=h
  refine zg (zg ?_)
  rw [h2];rfl
theorem zmf (n:Int) (fs:Sl Leq):q5i (n,fs)=some (XN n fs.xs):=by
 apply WB
 unfold q5i q5w XN
 simp only
 refine zR (fun h=>?_) (fun h=>?_)
 ·have h':(768:Int) < (fs.xs.length:Nat):=h
  rw [if_pos (show 768 < fs.xs.length by omega)];exact zg rfl
 ·have h':¬ (768:Int) < (fs.xs.length:Nat):=h
  rw [if_neg (show ¬ 768 < fs.xs.length by omega)]
  refine zf (Tot.mono (Q:=fun y=>y=(fs,decide (n < 1∨96 < n),n)) ?_ ?_)
  ·refine zR (fun h1=>zg ?_) (fun h1=>zg ?_)
   ·simp [h1]
   ·simp [h1]
  rintro _ rfl
  simp only
  by_cases h1:n < 1∨96 < n
  ·rw [if_pos (decide_eq_true h1),if_pos h1];exact zg rfl
  ·rw [if_neg (by simpa using h1),if_neg h1]
   refine zf (zx (zfs fs (by omega) n) ?_)
   refine zcu (fun h2=>?_) (fun h2=>?_)
   ·rw [show (fs.xs.any fun f=>XM f n)=true from h2];exact zg rfl
   ·rw [show (fs.xs.any fun f=>XM f n)=false from h2];exact zg rfl
theorem zhc {f:Leq}{a:Int}(h:XM f a=false):0≤f.X_∧f.X_ < a∧0≤f.Y_∧f.Y_ < a∧ -8796093022208≤f.C_∧f.C_≤8796093022208:=by
 unfold XM at h
 simp only [Bool.or_eq_false_iff,decide_eq_false_iff_not] at h
 omega
theorem zlF {f:Leq}{a:Int}(h:0≤f.X_∧f.X_ < a∧0≤f.Y_∧f.Y_ < a∧ -8796093022208≤f.C_∧f.C_≤8796093022208):XM f a=false:=by
 unfold XM
 simp only [Bool.or_eq_false_iff,decide_eq_false_iff_not]
 omega
theorem ziK {n:Int}{fs:List Leq}(h:XN n fs=0):Fit n.toNat fs∧(n.toNat:Int)=n:=by
 unfold XN at h
 split at h
 ·omega
 ·split at h
  ·omega
  ·split at h
   ·omega
   ·rename_i h1 h2 h3
    refine ⟨⟨by omega,by omega,by omega,fun f hf=>?_⟩,by omega⟩
    have h4:fs.any (fun f=>XM f n)=false:=by simpa using h3
    have:=zhc (by simpa using List.any_eq_false.1 h4 f hf)
    omega
theorem zlG {n:Nat}{fs:List Leq}(h:Fit n fs):XN n fs=0:=by
 unfold XN
 have:=h.n1;have:=h.n2;have:=h.len
 rw [if_neg (by omega),if_neg (by omega),if_neg]
 intro ha
 obtain ⟨f,hf,hb⟩:=List.any_eq_true.1 ha
 rw [zlF (h.ok f hf)] at hb
 simp at hb
theorem zjT (p:Nat) (g:Nat→Int):((List.range p).map fun i=>g ((i+1) % p)).sum=((List.range p).map g).sum:=by
 cases p with
 |zero=>rfl
 |succ q=>
  rw [List.range_succ,List.map_append,List.sum_append]
  have h1:((List.range q).map fun i=>g ((i+1) % (q+1)))=(List.range q).map fun i=>g (i+1):=by
   apply List.map_congr_left
   intro i hi
   rw [Nat.mod_eq_of_lt (by have:=List.mem_range.1 hi;omega)]
  have h2:(List.range (q+1)).map g=g 0::(List.range q).map fun i=>g (i+1):=by
   rw [List.range_succ_eq_map,List.map_cons,List.map_map];rfl
  have h3:((List.range q).map g++[g q]).sum=((List.range (q+1)).map g).sum:=by rw [zbT g q]
  rw [h1]
  simp only [List.map_append,List.map_cons,List.map_nil,Nat.mod_self]
  rw [h3,h2,List.sum_cons]
  simp only [List.sum_cons,List.sum_nil]
  omega
theorem zlH (p:Nat) (f g h:Nat→Int) (hh:∀ i,i < p→f i≤g i+h i):((List.range p).map f).sum≤((List.range p).map g).sum+((List.range p).map h).sum:=by
 induction p with
 |zero=>simp
 |succ p ih=>
  have:=ih fun i hi=>hh i (by omega)
  have:=hh p (by omega)
  simp only [List.range_succ,List.map_append,List.sum_append,List.map_cons,List.map_nil,List.sum_cons,List.sum_nil]
  omega
theorem Circle.none {fs:List Leq}{c:List Int}(h:Circle fs c) {z:Nat→Int}(hz:Sol fs z):False:=by
 have h1:=zlH c.length (fun i=>z (fx fs (Ax c i).toNat)) (fun i=>z (fy fs (Ax c i).toNat)) (fun i=>fc fs (Ax c i).toNat) fun i hi=>hz _ (by have:=h.lt i hi;omega)
 have h2:((List.range c.length).map fun i=>z (fy fs (Ax c i).toNat))=(List.range c.length).map fun i=>(fun j=>z (fx fs (Ax c j).toNat)) ((i+1) % c.length):=by
  apply List.map_congr_left
  intro i hi
  rw [h.link i (List.mem_range.1 hi)]
 rw [h2,zjT c.length fun j=>z (fx fs (Ax c j).toNat)] at h1
 have:=h.neg
 omega
theorem Best.isSol {n:Nat}{fs:List Leq}{d:List Int}(h:Best n fs d):Sol fs (Ax d):=h.sol
def zeM (fs:List Leq) (g:Leq):Prop:=∀ z:Nat→Int,Sol fs z→z g.X_.toNat≤z g.Y_.toNat+g.C_
theorem zeN {fs:List Leq}{g:Leq}{z:Nat→Int}:Sol (fs++[g]) z↔Sol fs z∧z g.X_.toNat≤z g.Y_.toNat+g.C_:=by
 have e1:∀ i,i < fs.length→(fs++[g]).getD i default=fs.getD i default:=by
  intro i hi
  simp [List.getD_eq_getElem?_getD,List.getElem?_append_left hi]
 have e2:(fs++[g]).getD fs.length default=g:=by simp [List.getD_eq_getElem?_getD]
 constructor
 ·intro h
  refine ⟨fun i hi=>?_,?_⟩
  ·have:=h i (by simp;omega)
   unfold fx fy fc at *
   rw [e1 i hi] at this
   exact this
  ·have:=h fs.length (by simp)
   unfold fx fy fc at this
   rw [e2] at this
   exact this
 ·rintro ⟨h1,h2⟩ i hi
  simp only [List.length_append,List.length_cons,List.length_nil] at hi
  unfold fx fy fc
  by_cases e:i < fs.length
  ·rw [e1 i e];exact h1 i e
  ·obtain rfl:i=fs.length:=by omega
   rw [e2];exact h2
def zcA (n:Int) (g:Leq) (fs:List Leq):Int:=if XN n (fs++[g])≠0 then XN n (fs++[g]) else if g.C_=8796093022208 then 2 else 0
theorem ziL (fs:Sl Leq) (hl:fs.xs.length≤1048576) (hz:fs.nn=false→fs.xs=[]):∃ nn,q26 fs=some ⟨fs.xs,nn⟩:=by
 unfold q26 q4q
 by_cases hnn:fs.nn=true
 ·rw [hnn]
  simp only [Bool.not_true,Bool.false_eq_true,if_false]
  rw [ZY (by simp;omega) (by simp;omega)]
  exact ⟨_,rfl⟩
 ·rw [hz (by simpa using hnn),show fs.nn=false by simpa using hnn]
  exact ⟨_,rfl⟩
theorem zhd (n:Int) (g:Leq) (fs:Sl Leq) (hl:fs.xs.length≤1048576) (hz:fs.nn=false→fs.xs=[]) :
    Tot (q3x (n,g,fs)) fun r=>r.2=zcA n g fs.xs∧(r.2≠0→r.1=false)∧(r.2=0→(r.1=true↔zeM fs.xs g)):=by
  obtain ⟨nn,hcl⟩:=ziL fs hl hz
  unfold q3x q3i
  simp only
  refine zf (zx hcl (zf (zx (ZY (by simp;omega) (by simp;omega)) ?_)))
  refine zf (zx (zmf _ _) ?_)
  simp only
  unfold zcA
  refine zR (fun h=>?_) (fun h=>?_)
  · rw [if_pos h]
    exact zg ⟨rfl,fun _=>rfl,fun h2=>absurd h2 h⟩
  rw [if_neg h]
  refine zR (fun h1=>?_) (fun h1=>?_)
  · rw [if_pos h1]
    exact zg ⟨rfl,fun _=>rfl,fun h2=>by simp at h2⟩
  rw [if_neg h1]
  have h0:XN n (fs.xs++[g])=0:=by omega
  obtain ⟨hf,hn⟩:=ziK h0
  have hg:=hf.ok g (by simp)
  have hfl:=hf.len
  simp only [List.length_append,List.length_cons,List.length_nil] at hfl
  have hneg:IntKind.i64.wrap (IntKind.i64.wrap (0 - g.C_) - 1) = -g.C_ - 1:=by
    rw [zL (n:=0 - g.C_) (by omega) (by omega),zL (by omega) (by omega)];omega
  rw [hneg]
  have hset:(fs.xs++[g]).set fs.xs.length (⟨g.Y_,g.X_, -g.C_ - 1⟩:Leq)=fs.xs++[⟨g.Y_,g.X_, -g.C_ - 1⟩]:=by
    rw [List.set_append_right _ _ (by omega)];simp
  have hf2:Fit n.toNat (fs.xs++[(⟨g.Y_,g.X_, -g.C_ - 1⟩:Leq)]):=by
    refine ⟨hf.n1,hf.n2,by simp;omega,fun f hm=>?_⟩
    rcases List.mem_append.1 hm with hm | hm
    · exact hf.ok f (List.mem_append_left _ hm)
    · simp only [List.mem_cons,List.not_mem_nil,or_false] at hm
      subst hm
      simp only
      omega
  have hgi:∀ nn:Bool,zc (⟨fs.xs++[g],nn⟩:Sl Leq) fs.len=some ((fs.xs++[g]).getD fs.xs.length default):=fun nn=>by
    rw [Zb default (by rw [zt];omega) (by rw [zt,List.length_append];simp only [List.length_cons,List.length_nil];omega),zt];rfl
  refine zf (zx (hgi _) (zf (zx (hgi _) (zf (zf ?_)))))
  rw [Sl.set_eq]
  simp only [zt,Int.toNat_natCast]
  rw [hset,← hn]
  refine (zbU hf2).mono ?_
  rintro (d | c) h
  · obtain ⟨k2,hB⟩:=h
    refine zg (zg ⟨rfl,fun hh=>absurd rfl hh,fun _=>⟨fun hh=>by simp at hh,fun hE=>?_⟩⟩)
    obtain ⟨s1,s2⟩:=zeN.1 hB.isSol
    have:=hE _ s1
    simp only at s2
    omega
  · obtain ⟨k2,hC,_⟩:=h
    refine zg (zg ⟨rfl,fun hh=>absurd rfl hh,fun _=>⟨fun _ z hz=>?_,fun _=>k2⟩⟩)
    apply Classical.byContradiction
    intro hno
    exact hC.none (z:=z) (zeN.2 ⟨hz,by simp only;omega⟩)
end Go.Px
namespace Go.Px
set_option linter.unusedVariables false
theorem Best.near {n:Nat}{fs:List Leq}{d:List Int}(hf:Fit n fs) (h:Best n fs d):∀ x,x < n→ -((n:Int) * 8796093022209)≤Ax d x:=by
 intro x0 hx0
 apply Classical.byContradiction
 intro hlow
 have hgap:∃ m,m < n∧∀ x,x < n→¬ (-((m+1:Nat):Int) * 8796093022209 < Ax d x∧Ax d x≤ -(m:Int) * 8796093022209):=by
  apply Classical.byContradiction
  intro hno
  have hex:∀ m,m < n→∃ x,x < n∧(-((m+1:Nat):Int) * 8796093022209 < Ax d x∧Ax d x≤ -(m:Int) * 8796093022209):=by
   intro m hm
   apply Classical.byContradiction
   intro hh
   exact hno ⟨m,hm,fun x hx hxx=>hh ⟨x,hx,hxx⟩⟩
  classical
  let u:Nat→Nat:=fun m=>if hm:m < n then (hex m hm).choose else x0
  have hu:∀ m (hm:m < n),u m < n∧(-((m+1:Nat):Int) * 8796093022209 < Ax d (u m)∧Ax d (u m)≤ -(m:Int) * 8796093022209):=by
   intro m hm
   have:=(hex m hm).choose_spec
   simpa [u,hm] using this
  have hun:u n=x0:=by simp [u]
  obtain ⟨i,j,hij,hj,he⟩:=zet n u fun m hm=>by
   by_cases e:m < n
   ·exact (hu m e).1
   ·have:m=n:=by omega
    subst this;rw [hun];exact hx0
  have h1:=(hu i (by omega)).2
  by_cases ej:j < n
  ·have h2:=(hu j ej).2
   rw [he] at h1
   push_cast at h1 h2
   omega
  ·have:j=n:=by omega
   subst this
   rw [he,hun] at h1
   push_cast at h1
   omega
 obtain ⟨m,hm,hfree⟩:=hgap
 have hs:Sol fs (fun x=>if Ax d x≤ -((m+1:Nat):Int) * 8796093022209 then Ax d x+1 else Ax d x):=by
  intro i hi
  obtain ⟨hx,hy,hc1,hc2,_⟩:=hf.at hi
  have h1:=h.sol i hi
  have h2:=hfree _ hx
  have h3:=hfree _ hy
  push_cast at h2 h3 ⊢
  split <;> split <;> omega
 have h4:=h.up _ hs (fun x hx=>by
  have:=h.hi x hx
  have:=hfree x hx
  push_cast at this ⊢
  split <;> omega) x0 hx0
 rw [if_pos (by push_cast;omega)] at h4
 omega
end Go.Px
namespace Go.Px
set_option linter.unusedVariables false
structure Tri (n:Nat) (fs:List Leq) (k:Nat) (s e z:Nat→Int):Prop where
 se:∀ f,f < fs.length→s (fx fs f)≤e (fy fs f)+fc fs f
 sz:∀ f,f < fs.length→fy fs f < k→s (fx fs f)≤z (fy fs f)+fc fs f
 ze:∀ f,f < fs.length→fx fs f < k→z (fx fs f)≤e (fy fs f)+fc fs f
 zz:∀ f,f < fs.length→fx fs f < k→fy fs f < k→z (fx fs f)≤z (fy fs f)+fc fs f
 d:∀ x,x < n→s x≤e x
 ds:∀ x,x < k→s x≤z x
 de:∀ x,x < k→z x≤e x
def Snd (n:Nat) (fs:List Leq) (k i j:Nat) (v:Int):Prop:=∀ s e z,Tri n fs k s e z→s i≤e j+v
theorem Snd.up {n:Nat}{fs:List Leq}{k i j:Nat}{v:Int}(h:Snd n fs k i j v):Snd n fs (k+1) i j v:=fun s e z t=>
 h s e z ⟨t.se,fun f hf h1=>t.sz f hf (by omega),fun f hf h1=>t.ze f hf (by omega),fun f hf h1 h2=>t.zz f hf (by omega) (by omega),t.d,fun x hx=>t.ds x (by omega),fun x hx=>t.de x (by omega)⟩
theorem Snd.le {n:Nat}{fs:List Leq}{k i j:Nat}{v w:Int}(h:Snd n fs k i j v) (hw:v≤w):Snd n fs k i j w:=fun s e z t=>by
 have:=h s e z t;omega
theorem Snd.comp {n:Nat}{fs:List Leq}{k i j:Nat}{v w:Int}(h:Snd n fs (k+1) i k v) (h':Snd n fs (k+1) k j w):Snd n fs (k+1) i j (v+w):=fun s e z t=>by
  have h1:=h s (fun x=>if x=k then z k else e x) z ⟨fun f hf=>by
      by_cases hk:fy fs f=k
      · have:=t.sz f hf (by omega);simp only [hk,if_true];rw [hk] at this;exact this
      · simp only [hk,if_false];exact t.se f hf,
    t.sz,fun f hf h1=>by
      by_cases hk:fy fs f=k
      · have:=t.zz f hf h1 (by omega);simp only [hk,if_true];rw [hk] at this;exact this
      · simp only [hk,if_false];exact t.ze f hf h1,
    t.zz,fun x hx=>by
      by_cases hk:x=k
      · subst hk;simp only [if_true];exact t.ds x (by omega)
      · simp only [hk,if_false];exact t.d x hx,
    t.ds,fun x hx=>by
      by_cases hk:x=k
      · subst hk;simp
      · simp only [hk,if_false];exact t.de x hx⟩
  have h2:=h' (fun x=>if x=k then z k else s x) e z ⟨fun f hf=>by
      by_cases hk:fx fs f=k
      · have:=t.ze f hf (by omega);simp only [hk,if_true];rw [hk] at this;exact this
      · simp only [hk,if_false];exact t.se f hf,
    fun f hf h1=>by
      by_cases hk:fx fs f=k
      · have:=t.zz f hf (by omega) h1;simp only [hk,if_true];rw [hk] at this;exact this
      · simp only [hk,if_false];exact t.sz f hf h1,
    t.ze,t.zz,fun x hx=>by
      by_cases hk:x=k
      · subst hk;simp only [if_true];exact t.de x (by omega)
      · simp only [hk,if_false];exact t.d x hx,
    fun x hx=>by
      by_cases hk:x=k
      · subst hk;simp
      · simp only [hk,if_false];exact t.ds x hx,t.de⟩
  simp only [if_true] at h1 h2
  omega
theorem Snd.fact {n:Nat}{fs:List Leq}{k f:Nat}(hf:f < fs.length):Snd n fs k (fx fs f) (fy fs f) (fc fs f):=fun s e z t=>t.se f hf
theorem Snd.diag {n:Nat}{fs:List Leq}{k i:Nat}(hi:i < n):Snd n fs k i i 0:=fun s e z t=>by have:=t.d i hi;omega
theorem Snd.sol {n:Nat}{fs:List Leq}{k i j:Nat}{v:Int}(h:Snd n fs k i j v) {z:Nat→Int}(hz:Sol fs z):z i≤z j+v:=
 h z z z ⟨hz,fun f hf _=>hz f hf,fun f hf _=>hz f hf,fun f hf _ _=>hz f hf,fun x _=>Int.le_refl _,fun x _=>Int.le_refl _,fun x _=>Int.le_refl _⟩
structure Tab (n:Nat) (fs:List Leq) (k:Nat) (T:Nat→Nat→Int):Prop where
 snd:∀ i j,i < n→j < n→T i j≠4611686018427387904→Snd n fs k i j (T i j)
 fact:∀ f,f < fs.length→T (fx fs f) (fy fs f)≤fc fs f
 dle:∀ i,i < n→T i i≤0
 dge:∀ i,i < k→0≤T i i
 tri:∀ p i j,p < k→i < n→j < n→T i p≠4611686018427387904→T p j≠4611686018427387904→T i j≠4611686018427387904∧T i j≤T i p+T p j
 top:∀ i j,i < n→j < n→T i j≤4611686018427387904
theorem Tab.inner {n:Nat}{fs:List Leq}{k:Nat}{T:Nat→Nat→Int}(hf:Fit n fs) (h:Tab n fs k T) (hk:k≤n) :
    ∃ z:Nat→Int,(∀ f,f < fs.length→fx fs f < k→fy fs f < k→z (fx fs f)≤z (fy fs f)+fc fs f)∧∀ x,x < k→ -((n:Int) * 8796093022209)≤z x∧z x≤0:=by
  by_cases h0:k=0
  · subst h0;exact ⟨fun _=>0,fun f _ h1=>by omega,fun x hx=>by omega⟩
  have hn2:=hf.n2
  have hT:∀ g∈fs,T g.X_.toNat g.Y_.toNat≤g.C_:=by
    intro g hg
    obtain ⟨i,hi,rfl⟩:=List.getElem_of_mem hg
    have:=h.fact i hi
    unfold fx fy fc at this
    rw [List.getD_eq_getElem?_getD,List.getElem?_eq_getElem hi] at this
    exact this
  let gs:=fs.filter fun g=>decide (g.X_ < (k:Int)) && decide (g.Y_ < (k:Int))
  have hgs:∀ g,g∈gs↔g∈fs∧g.X_ < k∧g.Y_ < k:=by intro g;simp [gs]
  have hfit:Fit k gs:=by
    refine ⟨by omega,by omega,Nat.le_trans (List.length_filter_le _ _) hf.len,fun g hg=>?_⟩
    obtain ⟨h1,h2,h3⟩:=(hgs g).1 hg
    have:=hf.ok g h1
    omega
  obtain ⟨r,_,hr⟩:=zbU (fs:=⟨gs,true⟩) hfit
  rcases r with d | c
  · obtain ⟨_,hB⟩:=hr
    refine ⟨Ax d.xs,fun f hf1 h1 h2=>?_,fun x hx=>⟨?_,hB.hi x hx⟩⟩
    · obtain ⟨_,_,_,_,hX,hY⟩:=hf.at hf1
      have hm:fs.getD f default∈gs:=(hgs _).2 ⟨Z4 default hf1,by omega,by omega⟩
      obtain ⟨i,hi,he⟩:=List.getElem_of_mem hm
      have:=hB.sol i hi
      unfold fx fy fc at this ⊢
      rw [List.getD_eq_getElem?_getD,List.getElem?_eq_getElem hi] at this
      simp only [Option.getD_some,he] at this
      exact this
    · have:=hB.near hfit x hx
      have h2:(k:Int) * 8796093022209≤(n:Int) * 8796093022209:=by omega
      omega
  · exfalso
    obtain ⟨_,hC,_⟩:=hr
    simp only at hC
    have hmem:∀ i,i < c.xs.length→gs.getD (Ax c.xs i).toNat default∈gs:=fun i hi=>Z4 default (by have:=hC.lt i hi;omega)
    have hw:∀ m,m < c.xs.length→T (fx gs (Ax c.xs 0).toNat) (fy gs (Ax c.xs m).toNat)≠4611686018427387904∧T (fx gs (Ax c.xs 0).toNat) (fy gs (Ax c.xs m).toNat)≤((List.range (m+1)).map fun i=>fc gs (Ax c.xs i).toNat).sum:=by
      intro m
      induction m with
      |zero=>
        intro hm
        obtain ⟨g1,g2,g3⟩:=(hgs _).1 (hmem 0 hm)
        have h1:=hT _ g1
        have h2:=hf.ok _ g1
        have e:((List.range (0+1)).map fun i=>fc gs (Ax c.xs i).toNat).sum=fc gs (Ax c.xs 0).toNat:=by simp
        rw [e]
        have h3:T (fx gs (Ax c.xs 0).toNat) (fy gs (Ax c.xs 0).toNat)≤fc gs (Ax c.xs 0).toNat:=h1
        have h4:fc gs (Ax c.xs 0).toNat≤8796093022208:=h2.2.2.2.2.2
        exact ⟨by omega,h3⟩
      |succ m ih=>
        intro hm
        obtain ⟨i1,i2⟩:=ih (by omega)
        have hlk:=hC.link m (by omega)
        try simp only at hlk
        rw [Nat.mod_eq_of_lt hm] at hlk
        obtain ⟨g1,g2,g3⟩:=(hgs _).1 (hmem (m+1) hm)
        obtain ⟨g1',g2',g3'⟩:=(hgs _).1 (hmem 0 (by omega))
        have h1:=hT _ g1
        have h2:=hf.ok _ g1
        have h2':=hf.ok _ g1'
        have h3:T (fx gs (Ax c.xs (m+1)).toNat) (fy gs (Ax c.xs (m+1)).toNat)≤fc gs (Ax c.xs (m+1)).toNat:=h1
        have h4:fc gs (Ax c.xs (m+1)).toNat≤8796093022208:=h2.2.2.2.2.2
        have b1:fx gs (Ax c.xs (m+1)).toNat < k:=by unfold fx;omega
        have b2:fy gs (Ax c.xs (m+1)).toNat < n:=by unfold fy;omega
        have b3:fx gs (Ax c.xs 0).toNat < n:=by unfold fx;omega
        rw [hlk] at i1 i2
        have:=h.tri _ _ _ b1 b3 b2 i1 (by omega)
        refine ⟨this.1,?_⟩
        rw [List.range_succ,List.map_append,List.sum_append]
        simp only [List.map_cons,List.map_nil,List.sum_cons,List.sum_nil]
        omega
    have hne:=hC.ne
    try simp only at hne
    obtain ⟨l1,l2⟩:=hw (c.xs.length - 1) (by omega)
    have hlk:=hC.link (c.xs.length - 1) (by omega)
    try simp only at hlk
    rw [show c.xs.length - 1+1=c.xs.length by omega,Nat.mod_self] at hlk
    rw [hlk,show c.xs.length - 1+1=c.xs.length by omega] at l2
    obtain ⟨g1,g2,g3⟩:=(hgs _).1 (hmem 0 (by omega))
    have h2:=hf.ok _ g1
    have b1:fx gs (Ax c.xs 0).toNat < k:=by unfold fx;omega
    have:=h.dge _ b1
    have:=hC.neg
    try simp only at this
    omega
theorem Tab.lo {n:Nat}{fs:List Leq}{k:Nat}{T:Nat→Nat→Int}(hf:Fit n fs) (h:Tab n fs k T) (hk:k≤n) {i j:Nat}(hi:i < n) (hj:j < n) :
    -((n+2:Nat) * 8796093022209:Int)≤T i j:=by
  by_cases hfin:T i j=4611686018427387904
  · have:=hf.n2;rw [hfin];push_cast;omega
  obtain ⟨z,hz,hzb⟩:=h.inner hf hk
  have:=h.snd i j hi hj hfin (fun _=> -((n+1:Nat) * 8796093022209:Int)) (fun _=>8796093022209) z ⟨fun f hf1=>?_,fun f hf1 h1=>?_,fun f hf1 h1=>?_,hz,fun x hx=>?_,fun x hx=>?_,fun x hx=>?_⟩
  · push_cast at this ⊢;omega
  · obtain ⟨_,_,c1,c2,_⟩:=hf.at hf1;push_cast;omega
  · obtain ⟨_,_,c1,c2,_⟩:=hf.at hf1;have:=hzb _ h1;push_cast;omega
  · obtain ⟨_,_,c1,c2,_⟩:=hf.at hf1;have:=hzb _ h1;(try simp only);omega
  · (try simp only);push_cast;omega
  · have:=hzb x hx;(try simp only);push_cast;omega
  · have:=hzb x hx;(try simp only);omega
theorem Tab.hi {n:Nat}{fs:List Leq}{k:Nat}{T:Nat→Nat→Int}(hf:Fit n fs) (h:Tab n fs k T) (hk:k≤n) {i j:Nat}(hi:i < n) (hj:j < n) (hfin:T i j≠4611686018427387904) :
    T i j≤((n+3:Nat) * 8796093022209:Int):=by
  have hn2:=hf.n2
  apply Classical.byContradiction
  intro hbig
  have hgap:∃ m:Nat,m≤n∧∀ x,x < k→¬ (((m+1:Nat):Int) * 8796093022209 < T x j∧T x j≤((m+2:Nat):Int) * 8796093022209):=by
    apply Classical.byContradiction
    intro hno
    have hex:∀ m:Nat,m≤n→∃ x,x < k∧(((m+1:Nat):Int) * 8796093022209 < T x j∧T x j≤((m+2:Nat):Int) * 8796093022209):=by
      intro m hm
      apply Classical.byContradiction
      intro hh
      exact hno ⟨m,hm,fun x hx hxx=>hh ⟨x,hx,hxx⟩⟩
    classical
    let u:Nat→Nat:=fun m=>if hm:m≤n then (hex m hm).choose else 0
    have hu:∀ m (hm:m≤n),u m < k∧(((m+1:Nat):Int) * 8796093022209 < T (u m) j∧T (u m) j≤((m+2:Nat):Int) * 8796093022209):=by
      intro m hm
      have:=(hex m hm).choose_spec
      simpa [u,hm] using this
    obtain ⟨a,b,hab,hb,he⟩:=zet n u fun m hm=>by have:=(hu m hm).1;omega
    have h1:=(hu a (by omega)).2
    have h2:=(hu b hb).2
    rw [he] at h1
    push_cast at h1 h2
    omega
  obtain ⟨m,hm,hfree⟩:=hgap
  obtain ⟨z,hz,hzb⟩:=h.inner hf hk
  obtain ⟨far,hfar⟩:∃ far:Nat→Int,∀ x,(far x=0∧T x j≤((m+2:Nat):Int) * 8796093022209)∨(far x=18446744073709551616∧((m+2:Nat):Int) * 8796093022209 < T x j):=by
    refine ⟨fun x=>if T x j≤((m+2:Nat):Int) * 8796093022209 then 0 else 18446744073709551616,fun x=>?_⟩
    by_cases hx:T x j≤((m+2:Nat):Int) * 8796093022209
    · left;exact ⟨if_pos hx,hx⟩
    · right;exact ⟨if_neg hx,by omega⟩
  have hmono:∀ f,f < fs.length→fy fs f < k→far (fx fs f)≤far (fy fs f):=by
    intro f hf1 h1
    obtain ⟨hx,hy,c1,c2,_⟩:=hf.at hf1
    rcases hfar (fy fs f) with ⟨a1,a2⟩ | ⟨a1,a2⟩
    · have hg:=hfree _ h1
      have hT:=h.fact f hf1
      push_cast at hg a2
      have ht:=h.tri (fy fs f) (fx fs f) j h1 hx hj (by omega) (by omega)
      rcases hfar (fx fs f) with ⟨b1,b2⟩ | ⟨b1,b2⟩
      · omega
      · push_cast at b2;omega
    · rcases hfar (fx fs f) with ⟨b1,b2⟩ | ⟨b1,b2⟩ <;> omega
  have hend:∀ f,f < fs.length→fy fs f=j→far (fx fs f)=0:=by
    intro f hf1 h1
    obtain ⟨hx,hy,c1,c2,_⟩:=hf.at hf1
    have hT:=h.fact f hf1
    rw [h1] at hT
    rcases hfar (fx fs f) with ⟨b1,b2⟩ | ⟨b1,b2⟩
    · exact b1
    · push_cast at b2;omega
  have hjj:far j=0:=by
    have:=h.dle j hj
    rcases hfar j with ⟨b1,b2⟩ | ⟨b1,b2⟩
    · exact b1
    · push_cast at b2;omega
  have hM:∀ x,0≤far x∧far x≤18446744073709551616:=fun x=>by rcases hfar x with ⟨b1,_⟩ | ⟨b1,_⟩ <;> omega
  have:=h.snd i j hi hj hfin (fun x=>far x - ((n+1:Nat) * 8796093022209:Int)) (fun y=>if y=j then 8796093022209 else 18446744073709551616+8796093022209) (fun x=>z x+far x) ⟨fun f hf1=>?_,fun f hf1 h1=>?_,fun f hf1 h1=>?_,fun f hf1 h1 h2=>?_,fun x hx=>?_,fun x hx=>?_,fun x hx=>?_⟩
  · simp only [if_true] at this
    have ht:=h.top i j hi hj
    rcases hfar i with ⟨b1,b2⟩ | ⟨b1,b2⟩
    · push_cast at b2 hbig;omega
    · push_cast at this;omega
  · obtain ⟨_,_,c1,c2,_⟩:=hf.at hf1
    have:=hM (fx fs f)
    by_cases hy:fy fs f=j
    · have:=hend f hf1 hy;simp only [hy,if_true];push_cast;omega
    · simp only [hy,if_false];push_cast;omega
  · obtain ⟨_,_,c1,c2,_⟩:=hf.at hf1
    have:=hmono f hf1 h1;have:=hzb _ h1
    (try simp only);push_cast;omega
  · obtain ⟨_,_,c1,c2,_⟩:=hf.at hf1
    have:=hM (fx fs f);have:=hzb _ h1
    by_cases hy:fy fs f=j
    · have:=hend f hf1 hy;simp only [hy,if_true];omega
    · simp only [hy,if_false];omega
  · have:=hmono f hf1 h2;have:=hz f hf1 h1 h2
    (try simp only);omega
  · have:=hM x
    by_cases hy:x=j
    · subst hy;simp only [if_true];push_cast;omega
    · simp only [hy,if_false];push_cast;omega
  · have:=hM x;have:=hzb x hx
    (try simp only);push_cast;omega
  · have:=hM x;have:=hzb x hx
    by_cases hy:x=j
    · subst hy;simp only [if_true];omega
    · simp only [hy,if_false];omega
def exT (T:Nat→Nat→Int) (k i j:Nat):Int:=
 if T i k=4611686018427387904∨T k j=4611686018427387904 then T i j else
 let v:=T i k+T k j+(if k < j∧T k k < 0 then T k k else 0)
 if v < T i j then v else T i j
theorem zf5 {n:Nat}{fs:List Leq}{k:Nat}{T:Nat→Nat→Int}(h:Tab n fs k T) (hk:k < n) {i j:Nat}(hi:i < n) (hj:j < n) (hfin:exT T k i j≠4611686018427387904):Snd n fs (k+1) i j (exT T k i j):=by
 unfold exT at hfin ⊢
 split
 ·rename_i h1
  rw [if_pos h1] at hfin
  exact (h.snd i j hi hj hfin).up
 ·rename_i h1
  rw [if_neg h1] at hfin
  have a1:=(h.snd i k hi hk (by omega)).up
  have a2:=(h.snd k j hk hj (by omega)).up
  have hv:Snd n fs (k+1) i j (T i k+T k j+(if k < j∧T k k < 0 then T k k else 0)):=by
   by_cases h3:k < j∧T k k < 0
   ·rw [if_pos h3]
    have a3:=(h.snd k k hk hk (by have:=h3.2;omega)).up
    have:=(a1.comp a3).comp a2
    rw [show T i k+T k j+T k k=T i k+T k k+T k j by omega]
    exact this
   ·rw [if_neg h3,Int.add_zero];exact a1.comp a2
  simp only at hfin ⊢
  by_cases h2:(T i k+T k j+(if k < j∧T k k < 0 then T k k else 0)) < T i j
  ·rw [if_pos h2];exact hv
  ·rw [if_neg h2] at hfin ⊢
   exact (h.snd i j hi hj hfin).up
theorem zeO {T:Nat→Nat→Int}{k i j:Nat}:exT T k i j≤T i j:=by
 unfold exT
 split
 ·exact Int.le_refl _
 ·simp only;split <;> omega
theorem zbV {T:Nat→Nat→Int}{k i j:Nat}(h0:0≤T k k):exT T k i j=if T i k=4611686018427387904∨T k j=4611686018427387904 then T i j else if T i k+T k j < T i j then T i k+T k j else T i j:=by
 unfold exT
 have:¬ (k < j∧T k k < 0):=by omega
 simp only [this,if_false,Int.add_zero]
theorem Tab.step {n:Nat}{fs:List Leq}{k:Nat}{T:Nat→Nat→Int}(hf:Fit n fs) (h:Tab n fs k T) (hk:k < n) (h0:0≤T k k):Tab n fs (k+1) (exT T k):=by
 have hn2:=hf.n2
 have hkk:T k k=0:=by have:=h.dle k hk;omega
 have hhi:∀ {i j:Nat},i < n→j < n→T i j≠4611686018427387904→T i j≤1000000000000000000:=fun {i j} hi hj hfin=>by
  have:=h.hi hf (by omega) hi hj hfin
  push_cast at this;omega
 refine ⟨fun i j hi hj hfin=>zf5 h hk hi hj hfin,fun f hf1=>Int.le_trans zeO (h.fact f hf1),fun i hi=>Int.le_trans zeO (h.dle i hi),fun i hi=>?_,fun p i j hp hi hj h1 h2=>?_,fun i j hi hj=>Int.le_trans zeO (h.top i j hi hj)⟩
 ·rw [zbV h0]
  by_cases e:i=k
  ·subst e;split
   ·exact h0
   ·split <;> omega
  ·have:=h.dge i (by omega)
   split
   ·exact this
   ·rename_i hno
    have:=h.tri i k k (by omega) hk hk (by omega) (by omega)
    split <;> omega
 ·rw [zbV h0] at h1 h2 ⊢
  rw [zbV h0,zbV h0]
  have t1:=h.top i j hi hj
  by_cases ep:p=k
  ·subst ep
   rw [hkk] at h1 h2 ⊢
   by_cases a:T i p=4611686018427387904
   ·rw [if_pos (.inl a)] at h1;exact absurd a h1
   ·by_cases b:T p j=4611686018427387904
    ·rw [if_pos (.inr b)] at h2;exact absurd b h2
    ·have b1:=hhi hi hk a
     have b2:=hhi hk hj b
     have z0:¬ ((0:Int)=4611686018427387904):=by omega
     simp only [a,b,z0,or_self,if_false,Int.add_zero,Int.zero_add,Int.lt_irrefl]
     split <;> omega
  ·have hp':p < k:=by omega
   have hpn:p < n:=by omega
   have base:T i p≠4611686018427387904→T p j≠4611686018427387904→T i j≠4611686018427387904∧T i j≤T i p+T p j:=fun x y=>h.tri p i j hp' hi hj x y
   have t2:T i p≠4611686018427387904→T p k≠4611686018427387904→T i k≠4611686018427387904∧T i k≤T i p+T p k:=fun x y=>h.tri p i k hp' hi hk x y
   have t3:T k p≠4611686018427387904→T p j≠4611686018427387904→T k j≠4611686018427387904∧T k j≤T k p+T p j:=fun x y=>h.tri p k j hp' hk hj x y
   have t4:T k p≠4611686018427387904→T p k≠4611686018427387904→0≤T k p+T p k:=fun x y=>by have:=(h.tri p k k hp' hk hk x y).2;omega
   have bik:=fun x=>hhi hi hk x;have bkj:=fun x=>hhi hk hj x;have bij:=fun x=>hhi hi hj x
   have bip:=fun x=>hhi hi hpn x;have bpj:=fun x=>hhi hpn hj x;have bkp:=fun x=>hhi hk hpn x;have bpk:=fun x=>hhi hpn hk x
   by_cases c1:T i k=4611686018427387904 <;> by_cases c2:T k j=4611686018427387904 <;> by_cases c3:T k p=4611686018427387904 <;> by_cases c4:T p k=4611686018427387904 <;> by_cases c5:T i p=4611686018427387904 <;> by_cases c6:T p j=4611686018427387904 <;>
    simp only [c1,c2,c3,c4,c5,c6,true_or,or_true,or_self,if_true,if_false,ne_eq,not_true_eq_false,not_false_eq_true,forall_const,false_implies,true_implies] at * <;> omega
end Go.Px
namespace Go.Px
set_option linter.unusedVariables false
def ZP (f:Leq):qe:=⟨f.X_,f.Y_,f.C_⟩
theorem ziM {fs:Sl Leq}{r:Sl qe}(hr:r.xs=fs.xs.map ZP) {j:Nat}(h1:j < fs.xs.length):zc r (j:Int)=some (ZP (fs.xs.getD j default)):=by
 rw [Zb default (by omega) (by rw [hr];simp;omega),hr]
 simp only [List.getD_eq_getElem?_getD,List.getElem?_map,Int.toNat_natCast]
 rw [List.getElem?_eq_getElem h1]
 rfl
theorem zeP {n i j:Nat}(hi:i < n) (hj:j < n):i * n+j < n * n:=by
 have:(i+1) * n≤n * n:=Nat.mul_le_mul_right n hi
 rw [Nat.succ_mul] at this
 omega
theorem zlI {n i j a b:Nat}(hj:j < n) (hb:b < n) (h:i * n+j=a * n+b):i=a∧j=b:=by
 have h1:(i * n+j) / n=i:=by rw [Nat.mul_comm,Nat.mul_add_div (by omega),Nat.div_eq_of_lt hj];omega
 have h2:(a * n+b) / n=a:=by rw [Nat.mul_comm,Nat.mul_add_div (by omega),Nat.div_eq_of_lt hb];omega
 have:i=a:=by rw [← h1,← h2,h]
 subst this
 exact ⟨rfl,by omega⟩
theorem za1 {n i j:Nat}(hn:n≤96) (hi:i < n) (hj:j < n):IntKind.i64.wrap (IntKind.i64.wrap ((i:Int) * n)+j)=((i * n+j:Nat):Int):=by
 have h1:i * n≤96 * 96:=Nat.mul_le_mul (by omega) hn
 have h2:((i * n:Nat):Int)=(i:Int) * n:=by push_cast;rfl
 rw [← h2,zL (n:=((i * n:Nat):Int)) (by omega) (by omega),zL (by omega) (by omega)]
 push_cast;rfl
def Ta (n:Nat) (xs:List Int) (i j:Nat):Int:=Ax xs (i * n+j)
theorem Zz {n:Nat}{t:Sl Int}{i j:Nat}{p:Int}(hl:t.xs.length=n * n) (hi:i < n) (hj:j < n) (hp:p=((i * n+j:Nat):Int)):zc t p=some (Ta n t.xs i j):=
 Zy hl hp (zeP hi hj)
theorem Vp {n:Nat}{xs:List Int}{i j a b:Nat}{v:Int}(hl:xs.length=n * n) (hi:i < n) (hj:j < n) (ha:a < n) (hb:b < n) :
    Ta n (xs.set (i * n+j) v) a b=if a=i∧b=j then v else Ta n xs a b:=by
  unfold Ta
  rw [YY _ _ _ _ (by rw [hl];exact zeP hi hj)]
  by_cases h:a * n+b=i * n+j
  · obtain ⟨h1,h2⟩:=zlI hb hj h
    rw [if_pos h,if_pos ⟨h1,h2⟩]
  · rw [if_neg h,if_neg]
    rintro ⟨rfl,rfl⟩
    exact h rfl
def xX (n:Nat) (T:Nat→Nat→Int) (k i j:Nat) (t:Sl Int):Prop:=
 t.xs.length=n * n∧∀ a b,a < n→b < n→Ta n t.xs a b=if a < i∨(a=i∧b < j) then exT T k a b else T a b
theorem xX.row {n:Nat}{T:Nat→Nat→Int}{k i:Nat}{t:Sl Int}(h:xX n T k i n t):xX n T k (i+1) 0 t:=by
 refine ⟨h.1,fun a b ha hb=>?_⟩
 rw [h.2 a b ha hb]
 by_cases c:a < i+1
 ·rw [if_pos (by omega),if_pos (by omega)]
 ·rw [if_neg (by omega),if_neg (by omega)]
theorem xX.skip {n:Nat}{T:Nat→Nat→Int}{k i:Nat}{t:Sl Int}(h:xX n T k i 0 t) (hs:T i k=4611686018427387904):xX n T k (i+1) 0 t:=by
 refine ⟨h.1,fun a b ha hb=>?_⟩
 rw [h.2 a b ha hb]
 by_cases c:a < i
 ·rw [if_pos (by omega),if_pos (by omega)]
 ·rw [if_neg (by omega)]
  by_cases c2:a=i
  ·subst c2
   rw [if_pos (by omega)]
   unfold exT
   rw [if_pos (.inl hs)]
  ·rw [if_neg (by omega)]
theorem zjU {n:Nat}{fs:List Leq}{k:Nat}{T:Nat→Nat→Int}(hf:Fit n fs) (hT:Tab n fs k T) (hk:k < n) {i:Nat}(hi:i < n) (hik:i≤k∨0≤T k k) (t:Sl Int) (hs:xX n T k i 0 t) (hfin:T i k≠4611686018427387904) :
    Tot (lpO q27 ((n:Int),(k:Int),(i:Int),0,t)) fun y=>∃ t',y=((n:Int),(k:Int),(i:Int),t')∧xX n T k i n t':=by
  have hn2:=hf.n2
  have hlo:=fun {a b:Nat} (ha:a < n) (hb:b < n)=>hT.lo hf (by omega) ha hb
  have hhi:=fun {a b:Nat} (ha:a < n) (hb:b < n) (h:T a b≠4611686018427387904)=>hT.hi hf (by omega) ha hb h
  have hkk:=hT.dle k hk
  refine wa (fun j s=>((n:Int),(k:Int),(i:Int),j,s)) n (by omega) (fun j s=>xX n T k i j s) t hs ?_ ?_
  · rintro j s hj ⟨hl,hin⟩
    unfold q27
    simp only
    refine zR (fun _=>?_) (fun hh=>(hh (by omega)).elim)
    rw [za1 hn2 hk hj,za1 hn2 hi hk,za1 hn2 hi hj]
    have rkj:Ta n s.xs k j=T k j:=by
      rw [hin k j hk hj]
      by_cases c:k < i
      · rw [if_pos (.inl c)]
        unfold exT
        have h0:T k k=0:=by omega
        split
        · rfl
        · have hz:(if k < j∧T k k < 0 then T k k else 0)=0:=by rw [if_neg (by omega)]
          simp only [hz]
          split <;> omega
      · rw [if_neg (by omega)]
    have rik:Ta n s.xs i k=T i k+(if k < j∧T k k < 0 then T k k else 0):=by
      rw [hin i k hi hk]
      by_cases c:k < j
      · rw [if_pos (.inr ⟨rfl,c⟩)]
        unfold exT
        have a1:=hT.top k k hk hk
        rw [if_neg (by omega)]
        have:¬ (k < k∧T k k < 0):=by omega
        simp only [this,if_false,Int.add_zero]
        split <;> split <;> omega
      · rw [if_neg (by omega),if_neg (by omega),Int.add_zero]
    have rij:Ta n s.xs i j=T i j:=by rw [hin i j hi hj,if_neg (by omega)]
    have nxt:∀ (v:Int),v=exT T k i j→xX n T k i (j+1) ⟨s.xs.set (i * n+j) v,s.nn⟩:=by
      intro v hv
      refine ⟨by simp [hl],fun a b ha hb=>?_⟩
      rw [Vp hl hi hj ha hb]
      by_cases e:a=i∧b=j
      · obtain ⟨rfl,rfl⟩:=e
        rw [if_pos ⟨rfl,rfl⟩,if_pos (by omega)];exact hv
      · rw [if_neg e,hin a b ha hb]
        by_cases c:a < i∨(a=i∧b < j)
        · rw [if_pos c,if_pos (by omega)]
        · rw [if_neg c,if_neg (by omega)]
    have same:T i j=exT T k i j→xX n T k i (j+1) s:=by
      intro hv
      refine ⟨hl,fun a b ha hb=>?_⟩
      rw [hin a b ha hb]
      by_cases e:a=i∧b=j
      · obtain ⟨rfl,rfl⟩:=e
        rw [if_neg (by omega),if_pos (by omega)];exact hv
      · by_cases c:a < i∨(a=i∧b < j)
        · rw [if_pos c,if_pos (by omega)]
        · rw [if_neg c,if_neg (by omega)]
    refine zf (zf (zx (Zz hl hk hj rfl) (zf (zx (Zz hl hk hj rfl) ?_))))
    rw [rkj]
    refine zR (fun h1=>zg (zg ⟨s,rfl,same ?_⟩)) (fun h1=>?_)
    · unfold exT;rw [if_pos (.inr h1)]
    refine zf (zx (Zz hl hi hk rfl) (zf (zx (Zz hl hi hk rfl) (zf (zx (Zz hl hk hj rfl) (zf (zx (Zz hl hk hj rfl) (zf (zx (Zz hl hi hj rfl) (zf (zx (Zz hl hi hj rfl) ?_)))))))))))
    rw [rik,rij,rkj]
    have l1:=hlo hi hk;have l2:=hlo hk hj;have l3:=hlo hk hk;have u1:=hhi hi hk hfin;have u2:=hhi hk hj h1
    have hm:(if k < j∧T k k < 0 then T k k else 0)≤0∧T k k≤(if k < j∧T k k < 0 then T k k else 0):=by split <;> omega
    have hw:IntKind.i64.wrap (T i k+(if k < j∧T k k < 0 then T k k else 0)+T k j)=T i k+T k j+(if k < j∧T k k < 0 then T k k else 0):=by
      push_cast at l1 l2 l3 u1 u2
      rw [zL (by omega) (by omega)];omega
    rw [hw]
    have hex:exT T k i j=if T i k+T k j+(if k < j∧T k k < 0 then T k k else 0) < T i j then T i k+T k j+(if k < j∧T k k < 0 then T k k else 0) else T i j:=by
      unfold exT;rw [if_neg (by omega)]
    refine zf (zR (fun h2=>?_) (fun h2=>?_))
    · refine zf (zx (Zz hl hi hj rfl) (zf (zx (Zz hl hi hj rfl) (zg (zg (zg ⟨_,rfl,nxt _ ?_⟩))))))
      rw [hex,if_pos h2]
    · exact zg (zg (zg ⟨s,rfl,same (by rw [hex,if_neg h2])⟩))
  · intro s hs
    unfold q27
    simp only
    exact zR (fun hh=>absurd hh (by omega)) (fun _=>zg ⟨s,rfl,hs⟩)
end Go.Px
namespace Go.Px
set_option linter.unusedVariables false
theorem zmg {T:Nat→Nat→Int}{k:Nat}(h:T k k≠4611686018427387904) (h0:0≤exT T k k k):0≤T k k:=by
 unfold exT at h0
 have hz:(if k < k∧T k k < 0 then T k k else 0)=0:=by rw [if_neg (by omega)]
 rw [if_neg (by omega)] at h0
 simp only [hz] at h0
 split at h0 <;> omega
theorem zhe {n:Nat}{fs:List Leq}{k:Nat}{T:Nat→Nat→Int}(hf:Fit n fs) (hT:Tab n fs k T) (hk:k < n) (t:Sl Int) (hs:xX n T k 0 0 t) :
    Tot (lpO q28 ((n:Int),(k:Int),0,t)) fun y=>match y with | .inl b=>b=false∧∀ z,¬ Sol fs z | .inr y=>∃ t',y=((n:Int),(k:Int),t')∧xX n T k n 0 t'∧0≤T k k:=by
  have hn2:=hf.n2
  have hkk:=hT.dle k hk
  refine wa (fun i t=>((n:Int),(k:Int),i,t)) n (by omega) (fun i t=>xX n T k i 0 t∧(i≤k∨0≤T k k)) t ⟨hs,.inl (by omega)⟩ ?_ ?_
  · rintro i s hi ⟨hin,hik⟩
    unfold q28
    simp only
    refine zR (fun _=>?_) (fun hh=>(hh (by omega)).elim)
    rw [za1 hn2 hi hk]
    have e1:Ta n s.xs i k=T i k:=by rw [hin.2 i k hi hk,if_neg (by omega)]
    refine zf (zf (zx (Zz hin.1 hi hk rfl) (zf (zx (Zz hin.1 hi hk rfl) ?_))))
    rw [e1]
    refine zR (fun h1=>zg (zg ⟨s,rfl,hin.skip h1,?_⟩)) (fun h1=>?_)
    · have:i≠k:=fun e=>by subst e;omega
      omega
    · refine zf ((zjU hf hT hk hi hik s hin h1).mono ?_)
      rintro _ ⟨t',rfl,ht'⟩
      simp only
      rw [za1 hn2 hi hi]
      have e2:Ta n t'.xs i i=exT T k i i:=by rw [ht'.2 i i hi hi,if_pos (by omega)]
      refine zf (zx (Zz ht'.1 hi hi rfl) (zf (zx (Zz ht'.1 hi hi rfl) ?_)))
      rw [e2]
      refine zR (fun h2=>zg (zg ⟨rfl,fun z hz=>?_⟩)) (fun h2=>zg (zg ⟨t',rfl,ht'.row,?_⟩))
      · have:=(zf5 hT hk hi hi (by omega)).sol hz
        omega
      · by_cases e:i=k
        · subst e;exact .inr (zmg (by omega) (by omega))
        · omega
  · rintro s ⟨hin,hik⟩
    unfold q28
    simp only
    exact zR (fun hh=>absurd hh (by omega)) (fun _=>zg ⟨s,rfl,hin,by omega⟩)
theorem Tab.congr {n:Nat}{fs:List Leq}{k:Nat}{T U:Nat→Nat→Int}(hf:Fit n fs) (hk:k≤n) (h:Tab n fs k T) (he:∀ a b,a < n→b < n→U a b=T a b):Tab n fs k U:=by
 refine ⟨fun i j hi hj hfin=>?_,fun f hf1=>?_,fun i hi=>?_,fun i hi=>?_,fun p i j hp hi hj h1 h2=>?_,fun i j hi hj=>?_⟩
 ·rw [he i j hi hj] at hfin ⊢;exact h.snd i j hi hj hfin
 ·obtain ⟨hx,hy,_⟩:=hf.at hf1
  rw [he _ _ hx hy];exact h.fact f hf1
 ·rw [he i i hi hi];exact h.dle i hi
 ·rw [he i i (by omega) (by omega)];exact h.dge i hi
 ·rw [he i p hi (by omega)] at h1 ⊢;rw [he p j (by omega) hj] at h2 ⊢;rw [he i j hi hj];exact h.tri p i j hp hi hj h1 h2
 ·rw [he i j hi hj];exact h.top i j hi hj
theorem zft {n:Nat}{fs:List Leq}(hf:Fit n fs) (t:Sl Int) (hl:t.xs.length=n * n) (h0:Tab n fs 0 (Ta n t.xs)) :
    Tot (lpO q29 ((n:Int),0,t)) fun y=>match y with | .inl b=>b=false∧∀ z,¬ Sol fs z | .inr t'=>t'.xs.length=n * n∧Tab n fs n (Ta n t'.xs):=by
  have hn2:=hf.n2
  refine wa (fun k t=>((n:Int),k,t)) n (by omega) (fun k t=>t.xs.length=n * n∧Tab n fs k (Ta n t.xs)) t ⟨hl,h0⟩ ?_ ?_
  · rintro k s hk ⟨hsl,hT⟩
    unfold q29
    simp only
    refine zR (fun _=>?_) (fun hh=>(hh (by omega)).elim)
    refine zf ((zhe hf hT hk s ⟨hsl,fun a b ha hb=>by rw [if_neg (by omega)]⟩).mono ?_)
    rintro (_ | y) h
    rotate_left
    · obtain ⟨t',rfl,h1,h2⟩:=h
      refine zg ⟨t',rfl,h1.1,(hT.step hf hk h2).congr hf (by omega) fun a b ha hb=>?_⟩
      rw [h1.2 a b ha hb,if_pos (by omega)]
    · exact zg h
  · rintro s ⟨hsl,hT⟩
    unfold q29
    simp only
    exact zR (fun hh=>absurd hh (by omega)) (fun _=>zg ⟨hsl,hT⟩)
end Go.Px
namespace Go.Px
set_option linter.unusedVariables false
theorem znt {a b:Nat}(hb:0 < b):Z9 .i64 (a:Int) (b:Int)=some ((a % b:Nat):Int):=by
 unfold Z9
 rw [if_neg (by omega),Int.tmod_eq_emod_of_nonneg (by omega)]
 rfl
theorem zhf {n:Nat}(hn:n≤96) (r:Sl qe) (t:Sl Int) (hl:t.xs.length=n * n):Tot (lpO q2a ((n:Int),r,0,t)) fun y=>∃ u,y=((n:Int),r,u)∧u.xs.length=n * n∧∀ p,p < n * n→Ax u.xs p=if p % (n+1)=0 then 0 else 4611686018427387904:=by
 have hnn:n * n≤96 * 96:=Nat.mul_le_mul hn hn
 have hw:IntKind.i64.wrap ((n:Int) * n)=((n * n:Nat):Int):=by
  have h2:((n * n:Nat):Int)=(n:Int) * n:=by push_cast;rfl
  rw [← h2,zL (by omega) (by omega)]
 have hw1:IntKind.i64.wrap ((n:Int)+1)=((n+1:Nat):Int):=by rw [zL (by omega) (by omega)];omega
 refine wa (fun j s=>((n:Int),r,j,s)) (n * n) (by omega) (fun j s=>s.xs.length=n * n∧∀ p,p < j→Ax s.xs p=if p % (n+1)=0 then 0 else 4611686018427387904) t ⟨hl,fun p hp=>by omega⟩ ?_ ?_
 ·rintro j s hj ⟨h1,h2⟩
  unfold q2a
  simp only
  rw [hw,hw1]
  refine zR (fun _=>?_) (fun hh=>(hh (by omega)).elim)
  have hs1:zgd s (j:Int) 4611686018427387904=some ⟨s.xs.set j 4611686018427387904,s.nn⟩:=by rw [zfT (by omega) (by omega),Int.toNat_natCast]
  have hl1:(s.xs.set j (4611686018427387904:Int)).length=n * n:=by simp [h1]
  have hs2:zgd (⟨s.xs.set j 4611686018427387904,s.nn⟩:Sl Int) (j:Int) 0=some ⟨(s.xs.set j 4611686018427387904).set j 0,s.nn⟩:=by rw [zfT (by omega) (by simp only;omega),Int.toNat_natCast]
  refine zf (zx (Zy h1 rfl hj) (zf (zx (Zy h1 rfl hj) (zf (zx (znt (by omega)) (zf ?_))))))
  simp only [Sl.set_eq,Int.toNat_natCast]
  refine zR (fun h3=>?_) (fun h3=>?_)
  ·refine zf (zx (Zy hl1 rfl hj) (zf (zx (Zy hl1 rfl hj) (zg (zg ⟨_,rfl,by simp [h1],fun p hp=>?_⟩)))))
   simp only
   rw [YY _ _ _ _ (by omega)]
   by_cases e:p=j
   ·subst e;rw [if_pos rfl,if_pos (by omega)]
   ·rw [if_neg e,YY _ _ _ _ (by omega),if_neg e];exact h2 p (by omega)
  ·refine zg (zg ⟨_,rfl,by simp [h1],fun p hp=>?_⟩)
   simp only
   rw [YY _ _ _ _ (by omega)]
   by_cases e:p=j
   ·subst e;rw [if_pos rfl,if_neg (by omega)]
   ·rw [if_neg e];exact h2 p (by omega)
 ·rintro s hs
  unfold q2a
  simp only
  rw [hw]
  exact zR (fun hh=>absurd hh (by omega)) (fun _=>zg ⟨s,rfl,hs⟩)
theorem zbW {n i j:Nat}(hi:i < n) (hj:j < n):(i * n+j) % (n+1)=0↔i=j:=by
 constructor
 ·intro h
  by_cases hij:i≤j
  ·have:i * n+j=(j - i)+(n+1) * i:=by rw [Nat.add_mul,Nat.mul_comm n i];omega
   rw [this,Nat.add_mul_mod_self_left,Nat.mod_eq_of_lt (by omega)] at h
   omega
  ·have h2:(i - 1) * n+n=i * n:=by
    have:=Nat.succ_mul (i - 1) n
    rw [show (i - 1).succ=i by omega] at this
    omega
   have:i * n+j=(n+1+j - i)+(n+1) * (i - 1):=by rw [Nat.add_mul,Nat.mul_comm n (i - 1)];omega
   rw [this,Nat.add_mul_mod_self_left,Nat.mod_eq_of_lt (by omega)] at h
   omega
 ·rintro rfl
  have:i * n+i=(n+1) * i:=by rw [Nat.add_mul,Nat.mul_comm n i];omega
  rw [this,Nat.mul_mod_right]
theorem zhg {n:Nat}{fs:Sl Leq}(hf:Fit n fs.xs) (r:Sl qe) (hr:r.xs=fs.xs.map ZP) (t:Sl Int) (hl:t.xs.length=n * n) (h0:∀ p,p < n * n→Ax t.xs p=if p % (n+1)=0 then 0 else 4611686018427387904) :
    Tot (lpO q2b ((n:Int),r,0,t)) fun y=>∃ u,y=((n:Int),u)∧u.xs.length=n * n∧Tab n fs.xs 0 (Ta n u.xs):=by
  have hn2:=hf.n2
  have hfl:=hf.len
  have hrl:r.xs.length=fs.xs.length:=by rw [hr];simp
  have st:∀ i j,i < n→j < n→Ta n t.xs i j=if i=j then 0 else 4611686018427387904:=by
    intro i j hi hj
    unfold Ta
    rw [h0 _ (zeP hi hj)]
    by_cases e:i=j
    · rw [if_pos ((zbW hi hj).2 e),if_pos e]
    · rw [if_neg fun h=>e ((zbW hi hj).1 h),if_neg e]
  refine wa (fun m s=>((n:Int),r,m,s)) r.xs.length (by omega) (fun m s=>s.xs.length=n * n∧(∀ i j,i < n→j < n→Ta n s.xs i j≠4611686018427387904→Snd n fs.xs 0 i j (Ta n s.xs i j))∧(∀ f,f < m→Ta n s.xs (fx fs.xs f) (fy fs.xs f)≤fc fs.xs f)∧(∀ i,i < n→Ta n s.xs i i≤0)∧∀ i j,i < n→j < n→Ta n s.xs i j≤4611686018427387904)
    t ⟨hl,fun i j hi hj h=>?_,fun f hf1=>by omega,fun i hi=>by rw [st i i hi hi,if_pos rfl];exact Int.le_refl _,fun i j hi hj=>by rw [st i j hi hj];split <;> omega⟩ ?_ ?_
  · rw [st i j hi hj] at h ⊢
    by_cases e:i=j
    · subst e;rw [if_pos rfl];exact Snd.diag hi
    · rw [if_neg e] at h;exact absurd rfl h
  · rintro m s hm ⟨h1,h2,h3,h4,h5⟩
    unfold q2b
    simp only
    refine zR (fun _=>?_) (fun hh=>(hh (ziJ hm)).elim)
    have hm':m < fs.xs.length:=by omega
    obtain ⟨hx,hy,c1,c2,hX,hY⟩:=hf.at hm'
    have er:=ziM hr hm'
    refine zf (zx er (zf (zx er (zf (zx er ?_)))))
    have hp:IntKind.i64.wrap (IntKind.i64.wrap ((ZP (fs.xs.getD m default)).X_ * n)+(ZP (fs.xs.getD m default)).Y_)=((fx fs.xs m * n+fy fs.xs m:Nat):Int):=by
      show IntKind.i64.wrap (IntKind.i64.wrap ((fs.xs.getD m default).X_ * n)+(fs.xs.getD m default).Y_)=_
      rw [hX,hY];exact za1 hn2 hx hy
    rw [hp]
    refine zf (zx (Zz h1 hx hy rfl) (zf (zx (Zz h1 hx hy rfl) (zf ?_))))
    refine zR (fun hlt=>?_) (fun hge=>?_)
    · have hlt':fc fs.xs m < Ta n s.xs (fx fs.xs m) (fy fs.xs m):=hlt
      refine zf (zx er (zf (zx (Zz h1 hx hy rfl) (zf (zx (Zz h1 hx hy rfl) (zg (zg ⟨⟨s.xs.set (fx fs.xs m * n+fy fs.xs m) (fc fs.xs m),s.nn⟩,rfl,by simp [h1],fun i j hi hj hfin=>?_,fun f hf1=>?_,fun i hi=>?_,fun i j hi hj=>?_⟩)))))))
      · rw [Vp h1 hx hy hi hj] at hfin ⊢
        by_cases e:i=fx fs.xs m∧j=fy fs.xs m
        · rw [if_pos e,e.1,e.2];exact Snd.fact hm'
        · rw [if_neg e] at hfin ⊢;exact h2 i j hi hj hfin
      · obtain ⟨hx',hy',_⟩:=hf.at (i:=f) (by omega)
        rw [Vp h1 hx hy hx' hy']
        by_cases e:fx fs.xs f=fx fs.xs m∧fy fs.xs f=fy fs.xs m
        · rw [if_pos e]
          show fc fs.xs m≤fc fs.xs f
          by_cases e2:f=m
          · subst e2;exact Int.le_refl _
          · have:=h3 f (by omega)
            rw [e.1,e.2] at this
            omega
        · rw [if_neg e]
          refine h3 f ?_
          have:f≠m:=fun h=>e (by rw [h];exact ⟨rfl,rfl⟩)
          omega
      · rw [Vp h1 hx hy hi hi]
        by_cases e:i=fx fs.xs m∧i=fy fs.xs m
        · rw [if_pos e]
          have:=h4 i hi
          rw [← e.1,← e.2] at hlt'
          show fc fs.xs m≤0
          omega
        · rw [if_neg e];exact h4 i hi
      · rw [Vp h1 hx hy hi hj]
        split
        · show fc fs.xs m≤_
          omega
        · exact h5 i j hi hj
    · have hge':¬ fc fs.xs m < Ta n s.xs (fx fs.xs m) (fy fs.xs m):=hge
      refine zg (zg ⟨s,rfl,h1,h2,fun f hf1=>?_,h4,h5⟩)
      by_cases e:f=m
      · subst e;omega
      · exact h3 f (by omega)
  · rintro s ⟨h1,h2,h3,h4,h5⟩
    unfold q2b
    simp only
    exact zR (fun hh=>(zf3 hh).elim) (fun _=>zg ⟨s,rfl,h1,h2,fun f hf1=>h3 f (by omega),h4,fun i hi=>by omega,fun p i j hp=>by omega,h5⟩)
theorem zjV {n:Nat}{fs:Sl Leq}(hf:Fit n fs.xs) (r:Sl qe) (hr:r.xs=fs.xs.map ZP) :
    Tot (q2l ((n:Int),r)) fun q=>(q.1=true∧q.2.xs.length=n * n∧Tab n fs.xs n (Ta n q.2.xs))∨(q.1=false∧∀ z,¬ Sol fs.xs z):=by
  have hn2:=hf.n2
  have hnn:n * n≤96 * 96:=Nat.mul_le_mul hn2 hn2
  have hw:IntKind.i64.wrap ((n:Int) * n)=((n * n:Nat):Int):=by
    have h2:((n * n:Nat):Int)=(n:Int) * n:=by push_cast;rfl
    rw [← h2,zL (by omega) (by omega)]
  unfold q2l q3m
  simp only
  rw [hw]
  refine zf (zx (zes (by omega) (by omega) (by omega)) (zf ((zhf hn2 r _ (by rw [List.length_replicate,Int.toNat_natCast])).mono ?_)))
  rintro _ ⟨y,rfl,y1,y2⟩
  refine zf ((zhg hf r hr y y1 y2).mono ?_)
  rintro _ ⟨u,rfl,u1,u2⟩
  refine zf ((zft hf u u1 u2).mono ?_)
  rintro (b | t) h
  · exact zg (.inr h)
  · exact zg (.inl ⟨rfl,h.1,h.2⟩)
end Go.Px
namespace Go.Px
set_option linter.unusedVariables false
theorem ziN {n:Nat}{fs:List Leq}{T:Nat→Nat→Int}(hf:Fit n fs) (h:Tab n fs n T) {g:Leq}(hx:g.X_.toNat < n) (hy:g.Y_.toNat < n) (hc:g.C_≤8796093022208) :
    T g.X_.toNat g.Y_.toNat≤g.C_↔zeM fs g:=by
  have hn2:=hf.n2
  constructor
  · intro hT z hz
    have:=(h.snd _ _ hx hy (by omega)).sol hz
    omega
  · intro hE
    apply Classical.byContradiction
    intro hno
    obtain ⟨z,hz,hzb⟩:=h.inner hf (Nat.le_refl _)
    have hyy:T g.Y_.toNat g.Y_.toNat=0:=by have:=h.dle _ hy;have:=h.dge _ hy;omega
    have hs:Sol fs (fun x=>if T x g.Y_.toNat=4611686018427387904 then z x+4611686018427387904 else T x g.Y_.toNat):=by
      intro f hf1
      obtain ⟨fx1,fy1,c1,c2,_⟩:=hf.at hf1
      have hT:=h.fact f hf1
      have bx:=hzb _ fx1;have by_:=hzb _ fy1
      have hzz:=hz f hf1 fx1 fy1
      have hhi:=h.hi hf (Nat.le_refl _) fx1 hy
      have ht:=h.tri (fy fs f) (fx fs f) g.Y_.toNat fy1 fx1 hy (by omega)
      simp only
      push_cast at hhi
      by_cases a:T (fy fs f) g.Y_.toNat=4611686018427387904
      · rw [if_pos a]
        by_cases b:T (fx fs f) g.Y_.toNat=4611686018427387904
        · rw [if_pos b];omega
        · rw [if_neg b];have:=hhi b;omega
      · have:=ht a
        rw [if_neg a,if_neg this.1];omega
    have:=hE _ hs
    rw [hyy,if_neg (by omega:¬ (0:Int)=4611686018427387904)] at this
    have hb:=hzb _ hx
    split at this <;> omega
theorem zdp {n:Nat}{fs:Sl Leq}(hf:Fit n fs.xs) (r:Sl qe) (hr:r.xs=fs.xs.map ZP) (g:Leq) (hx:0≤g.X_∧g.X_ < n) (hy:0≤g.Y_∧g.Y_ < n) (hc:g.C_≤8796093022208) :
    Tot (q1z ((n:Int),(⟨g.X_,g.Y_,g.C_⟩:qe),r)) fun b=>b=true↔zeM fs.xs g:=by
  have hn2:=hf.n2
  unfold q1z q36
  simp only
  refine zf ((zjV hf r hr).mono fun q hq=>?_)
  rcases hq with ⟨h1,h2,h3⟩ | ⟨h1,h2⟩
  · rw [h1]
    simp only [Bool.not_true,Bool.false_eq_true,if_false]
    have hp:IntKind.i64.wrap (IntKind.i64.wrap (g.X_ * n)+g.Y_)=((g.X_.toNat * n+g.Y_.toNat:Nat):Int):=by
      have e1:g.X_=(g.X_.toNat:Int):=by omega
      have e2:g.Y_=(g.Y_.toNat:Int):=by omega
      have:=za1 (n:=n) (i:=g.X_.toNat) (j:=g.Y_.toNat) hn2 (by omega) (by omega)
      rw [← e1,← e2] at this
      exact this
    rw [hp]
    refine zf (zx (Zz h2 (by omega) (by omega) rfl) (zf (zx (Zz h2 (by omega) (by omega) rfl) (zg ?_))))
    rw [decide_eq_true_eq]
    exact ziN hf h3 (by omega) (by omega) hc
  · rw [h1]
    exact zg ⟨fun _ z hz=>(h2 z hz).elim,fun _=>rfl⟩
end Go.Px
namespace Go.Px
set_option linter.unusedVariables false
theorem zdd {α β S D:Type}[Inhabited α] {b:Nat}{f:S→Option (Step S D)}(mk:Sl β→Int→S) (dn:Sl β→D) {s:Sl α}(body:α→Sl β→Int→Option (Step S D)) (g:α→β) (a0:Sl β)
    (hf:∀ acc i,f (mk acc i)=if decide (i < s.len)=true then Option.bind (zc s i) (fun x=>body x acc i) else some (.done (dn acc)))
    (hb:∀ x∈s.xs,∀ acc i,zc s i=some x→body x acc i=Option.bind (zH b acc [g x]) fun s'=>some (.next (mk s' (IntKind.i64.wrap (i+1)))))
    (h1:(a0.xs.length+s.xs.length) * b≤140737488355328) (h2:a0.xs.length+s.xs.length≤140737488355328) :
    lpO f (mk a0 0)=some (dn ⟨a0.xs++s.xs.map g,a0.nn || !s.xs.isEmpty⟩):=by
  have key:∀ m j,j+m=s.xs.length→lpO f (mk ⟨a0.xs++(s.xs.take j).map g,a0.nn || decide (j≠0)⟩ (j:Int))=some (dn ⟨a0.xs++s.xs.map g,a0.nn || !s.xs.isEmpty⟩):=by
    intro m
    induction m with
    |zero=>
      intro j hj
      rw [Zx,hf,if_neg (by simp [zt];omega)]
      have hjl:j=s.xs.length:=by omega
      subst hjl
      rw [List.take_length]
      have:decide (s.xs.length≠0) = !s.xs.isEmpty:=by cases s.xs <;> simp
      rw [this];rfl
    |succ m ih=>
      intro j hj
      have hlt:j < s.xs.length:=by omega
      have hb1:(a0.xs.length+j+1) * b≤(a0.xs.length+s.xs.length) * b:=Nat.mul_le_mul_right _ (by omega)
      have hgi:zc s (j:Int)=some (s.xs.getD j default):=Zb default (by omega) (by omega)
      rw [Zx,hf,if_pos (by simp [zt];omega),hgi]
      simp only [Int.toNat_natCast,Option.bind_some]
      rw [hb _ (Z4 default hlt) _ _ hgi,ZY (by simp [Nat.min_eq_left (show j≤s.xs.length by omega)];omega) (by simp;omega)]
      simp only [Option.bind_some]
      rw [show IntKind.i64.wrap ((j:Int)+1)=((j+1:Nat):Int) by rw [zL (by omega) (by omega)];omega]
      have:=ih (j+1) (by omega)
      rw [List.take_add_one] at this
      have e:s.xs[j]?.toList=[s.xs.getD j default]:=by simp [List.getElem?_eq_getElem hlt,List.getD_eq_getElem?_getD]
      rw [e] at this
      simp only [List.map_append,List.map_cons,List.map_nil,← List.append_assoc] at this
      simpa using this
  have:=key s.xs.length 0 (by omega)
  simpa using this
theorem yT {α β S D:Type}[Inhabited α] {b:Nat}{f:S→Option (Step S D)}(mk:Sl β→Int→S) (dn:Sl β→D) {s:Sl α}(body:α→Sl β→Int→Option (Step S D)) (g:α→β) (a0:Sl β)
    (hf:∀ acc i,f (mk acc i)=if decide (i < s.len)=true then Option.bind (zc s i) (fun x=>body x acc i) else some (.done (dn acc)))
    (hb:∀ x∈s.xs,∀ acc i,body x acc i=Option.bind (zH b acc [g x]) fun s'=>some (.next (mk s' (IntKind.i64.wrap (i+1)))))
    (h1:(a0.xs.length+s.xs.length) * b≤140737488355328) (h2:a0.xs.length+s.xs.length≤140737488355328) :
    lpO f (mk a0 0)=some (dn ⟨a0.xs++s.xs.map g,a0.nn || !s.xs.isEmpty⟩):=
  zdd mk dn body g a0 hf (fun x hx acc i _=>hb x hx acc i) h1 h2
theorem zny {D:Type}{f:Int→Option (Step Int D)}(N:Nat) (hN:N≤140737488355328) (p:Nat→Bool) (a b:D)
    (hf:∀ j,j < N→f (j:Int)=if p j=true then some (.done b) else some (.next (IntKind.i64.wrap ((j:Int)+1)))) (he:f (N:Int)=some (.done a)) :
    lpO f 0=some (if (List.range N).any p=true then b else a):=by
  have key:∀ m j,j+m=N→(∀ i,i < j→p i=false)→lpO f (j:Int)=some (if (List.range N).any p=true then b else a):=by
    intro m
    induction m with
    |zero=>
      intro j hj hp
      obtain rfl:j=N:=by omega
      rw [Zx,he]
      have:¬ (List.range j).any p=true:=by
        simp only [List.any_eq_true,List.mem_range,not_exists,not_and]
        intro i hi;rw [hp i hi];simp
      rw [if_neg this];rfl
    |succ m ih=>
      intro j hj hp
      rw [Zx,hf j (by omega)]
      by_cases h:p j=true
      · rw [if_pos h]
        have:(List.range N).any p=true:=List.any_eq_true.2 ⟨j,List.mem_range.2 (by omega),h⟩
        rw [if_pos this];rfl
      · rw [if_neg h]
        simp only [Option.bind_some]
        rw [show IntKind.i64.wrap ((j:Int)+1)=((j+1:Nat):Int) by rw [zL (by omega) (by omega)];omega]
        refine ih (j+1) (by omega) fun i hi=>?_
        by_cases e:i=j
        · subst e;simpa using h
        · exact hp i (by omega)
  have:=key N 0 (by omega) (fun i hi=>by omega)
  simpa using this
theorem wb {a b:Int}(ha:0≤a) (hb:0 < b) (hb2:b≤9223372036854775807):Z9 .i64 a b=some (a % b):=by
 unfold Z9
 have hm:=Int.emod_nonneg a (show b≠0 by omega)
 have hm2:=Int.emod_lt_of_pos a hb
 rw [if_neg (by omega),Int.tmod_eq_emod_of_nonneg ha]
 try rw [zL (by omega) (by omega)]
def pos (x:Int):Int:=if 0 < x then x else 0
theorem wx (x:Int):0≤pos x:=by unfold pos;split <;> omega
def clp (c:Int):Int:=if (-1099511627776) < (if 1099511627776 < c then 1099511627776 else c) then (if 1099511627776 < c then 1099511627776 else c) else (-1099511627776)
theorem zeQ (c:Int) : -1099511627776≤clp c∧clp c≤1099511627776:=by unfold clp;split <;> split at * <;> omega
def fxn (n:Int) (f:Leq):Leq:=⟨pos f.X_ % n,pos f.Y_ % n,clp f.C_⟩
theorem ziO {n:Int}(hn:0 < n) (f:Leq):0≤(fxn n f).X_∧(fxn n f).X_ < n∧0≤(fxn n f).Y_∧(fxn n f).Y_ < n∧ -1099511627776≤(fxn n f).C_∧(fxn n f).C_≤1099511627776:=
 ⟨Int.emod_nonneg _ (by omega),Int.emod_lt_of_pos _ hn,Int.emod_nonneg _ (by omega),Int.emod_lt_of_pos _ hn,(zeQ _).1,(zeQ _).2⟩
theorem vm {α:Type}(l:Sl α) (m:Int) (hm:0≤m) (hl:l.xs.length≤140737488355328):zS l 0 (if m < l.len then m else l.len)=some ⟨l.xs.take m.toNat,l.nn⟩:=by
 rw [zt]
 by_cases h:m < (l.xs.length:Int)
 ·rw [if_pos h,wN (by omega) (by omega) (by omega)];simp
 ·rw [if_neg h,wN (by omega) (by omega) (by omega)]
  rw [List.take_of_length_le (i:=m.toNat) (by omega)];simp
theorem zeR (l:Sl Leq) (n:Int) (hn:0 < n) (hn2:n≤1000000) (hl:l.xs.length≤140737488355328):∃ nn,q1r (l,n)=some ⟨(l.xs.take 9).map (fxn n),nn⟩∧(nn=false→(l.xs.take 9).map (fxn n)=[]):=by
 unfold q1r q3n
 simp only
 rw [vm l 9 (by omega) hl]
 simp only [Option.bind_some]
 have:=yT (b:=24) (f:=q3o q18) (fun acc i=>(n,(⟨l.xs.take 9,l.nn⟩:Sl Leq),Sl.len (⟨l.xs.take 9,l.nn⟩:Sl Leq),i,acc)) id (s:=⟨l.xs.take 9,l.nn⟩) (fun x acc i=>
  Option.bind (Z9 .i64 (if 0 < x.X_ then x.X_ else 0) n) fun q_24=>
  Option.bind (Z9 .i64 (if 0 < x.Y_ then x.Y_ else 0) n) fun q_26=>
  Option.bind (q18 x.C_) fun r_28=>
  Option.bind (zH 24 acc [(⟨q_24,q_26,r_28⟩:qg)]) fun s_40=>
  some (.next (n,(⟨l.xs.take 9,l.nn⟩:Sl Leq),Sl.len (⟨l.xs.take 9,l.nn⟩:Sl Leq),IntKind.i64.wrap (i+1),s_40))) (fxn n) ⟨[],false⟩ (fun acc i=>rfl) (fun x hx acc i=>?_) (by simp;omega) (by simp;omega)
 ·rw [show lpO (q3o q18) (n,(⟨l.xs.take (Int.toNat 9),l.nn⟩:Sl Leq),Sl.len (⟨l.xs.take (Int.toNat 9),l.nn⟩:Sl Leq),(0:Int),(⟨[],false⟩:Sl qg))=_ from this]
  refine ⟨_,rfl,?_⟩
  simp
 ·show Option.bind (Z9 .i64 (pos x.X_) n) _=_
  rw [wb (wx _) hn (by omega)]
  show Option.bind (Z9 .i64 (pos x.Y_) n) _=_
  rw [wb (wx _) hn (by omega)]
  rfl
def sd (l:List qh) (v:Int):Int×Int:=if v=0 then (0,0) else if (l.getD (v - 1).toNat default).Kind_≠1 then (0,0) else ((l.getD (v - 1).toNat default).Var_,(l.getD (v - 1).toNat default).K_)
theorem zeS (s:Sl qh) (v:Int) (h0:0≤v) (h1:v≤s.xs.length) (h2:s.xs.length≤1000000):q1o (v,s)=some ((sd s.xs v).1,(sd s.xs v).2,s):=by
 unfold q1o q3y sd
 simp only
 by_cases h:v=0
 ·rw [if_pos (decide_eq_true h),if_pos h];rfl
 ·have hi:zc s (IntKind.i64.wrap (v - 1))=some (s.xs.getD (v - 1).toNat default):=by
   rw [zL (by omega) (by omega),Zb default (by omega) (by omega)]
  rw [if_neg (by simpa using h),if_neg h,hi]
  simp only [Option.bind_some]
  by_cases hk:(s.xs.getD (v - 1).toNat default).Kind_≠1
  ·rw [if_pos (decide_eq_true hk),if_pos hk]
  ·rw [if_neg (by simpa using hk),if_neg hk,hi];rfl
def ov (l:List qh) (f:Leq):Leq:=⟨(sd l f.X_).1,(sd l f.Y_).1,IntKind.i64.wrap (IntKind.i64.wrap (f.C_ - (sd l f.X_).2)+(sd l f.Y_).2)⟩
theorem zeT (fs:Sl Leq) (s:Sl qh) (h2:s.xs.length≤1000000) (hl:fs.xs.length≤1000000) (hf:∀ f∈fs.xs,0≤f.X_∧f.X_≤s.xs.length∧0≤f.Y_∧f.Y_≤s.xs.length) :
    q1a (fs,s)=some ⟨fs.xs.map (ov s.xs), !fs.xs.isEmpty⟩:=by
  unfold q1a q53
  simp only
  have:=yT (b:=24) (f:=q54 q1o) (fun acc i=>(fs,fs.len,i,s,acc)) id (s:=fs) (fun x acc i=>
    Option.bind (q1o (x.X_,s)) fun r_23=>
    Option.bind (q1o (x.Y_,r_23.2.2)) fun r_30=>
    Option.bind (zH 24 acc [(⟨r_23.1,r_30.1,IntKind.i64.wrap ((IntKind.i64.wrap (x.C_ - r_23.2.1))+r_30.2.1)⟩:qg)]) fun s_40=>
    some (.next (fs,fs.len,IntKind.i64.wrap (i+1),r_30.2.2,s_40))) (ov s.xs) ⟨[],false⟩ (fun acc i=>rfl) (fun x hx acc i=>?_) (by simp;omega) (by simp;omega)
  · rw [show lpO (q54 q1o) (fs,fs.len,(0:Int),s,(⟨[],false⟩:Sl qg))=_ from this]
    simp
  · obtain ⟨a1,a2,a3,a4⟩:=hf x hx
    rw [zeS s _ a1 a2 h2]
    simp only [Option.bind_some]
    rw [zeS s _ a3 a4 h2]
    rfl
end Go.Px
namespace Go.Px
set_option linter.unusedVariables false
set_option linter.unusedSimpArgs false
structure Ck where
 o:Int
 t:Int
 a:Int
 live:Bool
 held:Bool
 arr:Bool
 size:qh
 cells:List qh
def ec (c:q8):Ck:=⟨c.Origin_,c.Type_,c.At_,c.Live_,c.Held_,c.Array_,c.Size_,c.Cells_.xs⟩
def es (s:qi):qh:=⟨s.Kind_,s.Var_,s.K_,s.Block_⟩
def rs (s:qh):qi:=⟨s.Kind_,s.Var_,s.K_,s.Block_⟩
theorem zkJ (s:qh):es (rs s)=s:=rfl
def er (c:qd):Ck:=⟨c.Origin_,c.Type_,c.At_,c.Live_,c.Held_,c.Array_,es c.Size_,c.Cells_.xs.map es⟩
def SG (V:Int) (s:qh):Prop:=s.Kind_=1→0≤s.Var_∧s.Var_ < V∧ -1099511627776≤s.K_∧s.K_≤1099511627776
def CG (V:Int) (c:q8):Prop:=(0≤c.Size_.Var_∧c.Size_.Var_ < V∧ -1099511627776≤c.Size_.K_∧c.Size_.K_≤1099511627776)∧c.Cells_.xs.length≤9∧(c.Cells_.nn=false→c.Cells_.xs=[])∧∀ s∈c.Cells_.xs,SG V s
def FG (V:Int) (f:Leq):Prop:=0≤f.X_∧f.X_ < V∧0≤f.Y_∧f.Y_ < V∧ -8796093022208≤f.C_∧f.C_≤8796093022208
structure IV (x:Sl q8) (V:Int) (f:Sl Leq):Prop where
 v1:1≤V
 v2:V≤96
 nx:x.nn=false→x.xs=[]
 nf:f.nn=false→f.xs=[]
 lx:x.xs.length≤1000
 lf:f.xs.length≤768
 ch:∀ c∈x.xs,CG V c
 fc:∀ g∈f.xs,FG V g
structure RS (x:Sl q8) (f:Sl Leq) (y:Sl qd) (r:Sl qe):Prop where
 ch:y.xs.map er=x.xs.map ec
 fc:r.xs=f.xs.map ZP
theorem RS.len {x:Sl q8}{f:Sl Leq}{y:Sl qd}{r:Sl qe}(R:RS x f y r):y.xs.length=x.xs.length:=by
 have:=congrArg List.length R.ch
 simpa using this
theorem RS.flen {x:Sl q8}{f:Sl Leq}{y:Sl qd}{r:Sl qe}(R:RS x f y r):r.xs.length=f.xs.length:=by rw [R.fc];simp
theorem IV.fit {x:Sl q8}{V:Int}{f:Sl Leq}(I:IV x V f):Fit V.toNat f.xs:=⟨by have:=I.v1;omega,by have:=I.v2;omega,I.lf,fun g hg=>by
 have:=I.fc g hg
 have h1:=I.v1
 unfold FG at this
 omega⟩
open Classical in
noncomputable def Z5 (fs:List Leq) (g:Leq):Bool:=decide (fs.length < 768∧ -8796093022208≤g.C_∧g.C_ < 8796093022208∧zeM fs g)
theorem YZ {fs:List Leq}{g:Leq}:Z5 fs g=true↔fs.length < 768∧ -8796093022208≤g.C_∧g.C_ < 8796093022208∧zeM fs g:=by simp [Z5]
theorem zbX {x:Sl q8}{V:Int}{f:Sl Leq}(I:IV x V f) {g:Leq}(hx:0≤g.X_∧g.X_ < V) (hy:0≤g.Y_∧g.Y_ < V):q14 (g,V,x,f)=some (Z5 f.xs g,V,x,f):=by
 apply WB
 have h1:=I.v1;have h2:=I.v2;have h3:=I.lf
 unfold q14 q1u
 simp only
 refine zf ((zhd V g f (by omega) I.nf).mono fun r hr=>?_)
 obtain ⟨r1,r2,r3⟩:=hr
 suffices hh:(r.1 && decide (r.2=0))=Z5 f.xs g by
  refine zf (Tot.mono (Q:=fun y=>y=(Z5 f.xs g,V,x,f)) ?_ fun y hy=>zg hy)
  refine zcu (fun h=>zg ?_) (fun h=>zg ?_)
  ·rw [← hh,h];rfl
  ·rw [← hh,h];rfl
 by_cases hg:f.xs.length < 768∧ -8796093022208≤g.C_∧g.C_ < 8796093022208
 ·obtain ⟨a,b,c⟩:=hg
  have hfv:XN V (f.xs++[g])=0:=by
   have hf:Fit V.toNat (f.xs++[g]):=by
    refine ⟨by omega,by omega,by simp;omega,fun k hk=>?_⟩
    rcases List.mem_append.1 hk with hk | hk
    ·exact I.fit.ok k hk
    ·rw [List.mem_singleton.1 hk];omega
   have:=zlG hf
   rw [show ((V.toNat:Nat):Int)=V by omega] at this
   exact this
  have h0:zcA V g f.xs=0:=by
   unfold zcA
   rw [if_neg (by rw [hfv];simp),if_neg (by omega)]
  rw [r1,h0] at r3
  rw [r1,h0]
  simp only [decide_true,Bool.and_true]
  rw [Bool.eq_iff_iff,r3 rfl,YZ]
  exact ⟨fun h=>⟨a,b,c,h⟩,fun h=>h.2.2.2⟩
 ·have hne:zcA V g f.xs≠0:=by
   unfold zcA
   by_cases hf:XN V (f.xs++[g])≠0
   ·rw [if_pos hf];exact hf
   ·rw [if_neg hf]
    have hf:XN V (f.xs++[g])=0:=by omega
    obtain ⟨hF,_⟩:=ziK hf
    have hl:=hF.len
    have hk:=hF.ok g (by simp)
    simp only [List.length_append,List.length_cons,List.length_nil] at hl
    have:g.C_=8796093022208:=by omega
    rw [if_pos this];decide
  rw [r1] at r2
  rw [r1,r2 hne]
  have:Z5 f.xs g=false:=by
   cases e:Z5 f.xs g with
   |false=>rfl
   |true=>exact absurd ⟨(YZ.1 e).1,(YZ.1 e).2.1,(YZ.1 e).2.2.1⟩ hg
  rw [this];rfl
theorem VU {x:Sl q8}{V:Int}{f:Sl Leq}(I:IV x V f) {y:Sl qd}{r:Sl qe}(hr:r.xs=f.xs.map ZP) {g:Leq}(hx:0≤g.X_∧g.X_ < V) (hy:0≤g.Y_∧g.Y_ < V):qz ((⟨g.X_,g.Y_,g.C_⟩:qe),V,y,r)=some (Z5 f.xs g,V,y,r):=by
  apply WB
  have h1:=I.v1;have h2:=I.v2;have h3:=I.lf
  have hl:r.len=(f.xs.length:Int):=by rw [zt,hr];simp
  unfold qz q37
  simp only
  rw [hl]
  have hif:(if decide (768≤(f.xs.length:Int))=true then some (true,V,y,r,(⟨g.X_,g.Y_,g.C_⟩:qe)) else if decide (8796093022208≤g.C_)=true then some (true,V,y,r,(⟨g.X_,g.Y_,g.C_⟩:qe)) else some (decide (g.C_ < -8796093022208),V,y,r,(⟨g.X_,g.Y_,g.C_⟩:qe))) =
      some (decide (¬ (f.xs.length < 768∧ -8796093022208≤g.C_∧g.C_ < 8796093022208)),V,y,r,(⟨g.X_,g.Y_,g.C_⟩:qe)):=by
    by_cases h1:768≤(f.xs.length:Int)
    · rw [if_pos (decide_eq_true h1),decide_eq_true (show ¬ (f.xs.length < 768∧_) by omega)]
    · rw [if_neg (by simpa using h1)]
      by_cases h2:8796093022208≤g.C_
      · rw [if_pos (decide_eq_true h2),decide_eq_true (show ¬ (f.xs.length < 768∧_) by omega)]
      · rw [if_neg (by simpa using h2)]
        congr 2
        rw [decide_eq_decide]
        omega
  rw [hif,Option.bind_some]
  by_cases hg:f.xs.length < 768∧ -8796093022208≤g.C_∧g.C_ < 8796093022208
  · obtain ⟨a,b,c⟩:=hg
    rw [if_neg (by simp;omega)]
    simp only
    have:=zdp I.fit r hr g (by omega) (by omega) (by omega)
    rw [show ((V.toNat:Nat):Int)=V by omega] at this
    refine zf (this.mono fun q hq=>zg ?_)
    have:q=Z5 f.xs g:=by
      rw [Bool.eq_iff_iff,hq,YZ]
      exact ⟨fun h=>⟨a,b,c,h⟩,fun h=>h.2.2.2⟩
    rw [this]
  · rw [if_pos (decide_eq_true hg)]
    refine zg ?_
    cases e:Z5 f.xs g with
    |false=>rfl
    |true=>exact absurd ⟨(YZ.1 e).1,(YZ.1 e).2.1,(YZ.1 e).2.2.1⟩ hg
theorem zeU (f:Sl Leq):q55 f=some f:=by
 unfold q55 q4o
 rw [decide_eq_true rfl,cond_true,zt,wN (by omega) (by omega) (by omega),Option.bind_some]
 simp
theorem zde {x:Sl q8}{V:Int}{f:Sl Leq}(I:IV x V f) (l:Sl Leq) (hl:l.xs.length≤1000) (hg:∀ g∈l.xs,FG V g) :
    ∃ f',qq (l,V,x,f)=some (if 768 < f.xs.length+l.xs.length then (22,V,x,f) else (0,V,x,f'))∧f'.xs=f.xs++l.xs∧(¬ 768 < f.xs.length+l.xs.length→IV x V f'):=by
  have h3:=I.lf
  refine ⟨⟨f.xs++l.xs,f.nn || !l.xs.isEmpty⟩,?_,rfl,fun h=>⟨I.v1,I.v2,I.nx,fun hn=>?_,I.lx,by simp;omega,I.ch,fun g hm=>?_⟩⟩
  · unfold qq q1n
    simp only
    rw [zt,zt,zL (by omega) (by omega)]
    by_cases h:768 < f.xs.length+l.xs.length
    · rw [if_pos (by simp;omega),if_pos h]
    · rw [if_neg (by simp;omega),if_neg h,zeU,Option.bind_some,ZY (by omega) (by omega)]
      rfl
  · simp only [Bool.or_eq_false_iff,Bool.not_eq_false'] at hn
    have h1:=I.nf hn.1
    have h2:l.xs=[]:=by simpa using hn.2
    simp [h1,h2]
  · rcases List.mem_append.1 hm with hm | hm
    · exact I.fc g hm
    · exact hg g hm
theorem zbY {V:Int}{y:Sl qd}{f l:Sl Leq}{r k:Sl qe}(hr:r.xs=f.xs.map ZP) (hk:k.xs=l.xs.map ZP) (hf:f.xs.length≤768) (hl:l.xs.length≤1000) :
    ∃ r',q10 (k,V,y,r)=some (if 768 < f.xs.length+l.xs.length then (22,V,y,r) else (0,V,y,r'))∧r'.xs=(f.xs++l.xs).map ZP:=by
  refine ⟨⟨r.xs++k.xs,r.nn || !k.xs.isEmpty⟩,?_,by rw [hr,hk];simp⟩
  unfold q10 q3e
  simp only
  have e1:r.len=(f.xs.length:Int):=by rw [zt,hr];simp
  have e2:k.len=(l.xs.length:Int):=by rw [zt,hk];simp
  have e3:r.xs.length=f.xs.length:=by rw [hr];simp
  have e4:k.xs.length=l.xs.length:=by rw [hk];simp
  rw [e1,e2,zL (by omega) (by omega)]
  by_cases h:768 < f.xs.length+l.xs.length
  · rw [if_pos (by simp;omega),if_pos h]
  · rw [if_neg (by simp;omega),if_neg h]
    have:=yT (b:=24) (f:=q5k) (fun acc i=>(k,i,V,y,acc)) (fun acc=>(V,y,acc)) (s:=k) (fun x acc i=>Option.bind (zH 24 acc [x]) fun s_25=>some (.next (k,IntKind.i64.wrap (i+1),V,y,s_25))) (fun x=>x) r (fun acc i=>rfl) (fun x hx acc i=>rfl) (by omega) (by omega)
    rw [this];simp
def Xm (V:Int):List Leq:=[⟨V,0,1099511627776⟩,⟨0,V,1099511627776⟩]
theorem SG.up {V W:Int}(h:V≤W) {s:qh}(g:SG V s):SG W s:=fun k=>by have:=g k;omega
theorem CG.up {V W:Int}(h:V≤W) {c:q8}(g:CG V c):CG W c:=⟨by have:=g.1;omega,g.2.1,g.2.2.1,fun s hs=>(g.2.2.2 s hs).up h⟩
theorem FG.up {V W:Int}(h:V≤W) {f:Leq}(g:FG V f):FG W f:=by unfold FG at *;omega
def xY (V:Int) (n:Nat):Prop:=96≤V∨766 < n
instance (V:Int) (n:Nat):Decidable (xY V n):=by unfold xY;infer_instance
theorem zeV {x:Sl q8}{V:Int}{f:Sl Leq}(I:IV x V f) :
    ∃ f',qr (V,x,f)=some (if xY V f.xs.length then (⟨0,0,0,0⟩,22,V,x,f) else (⟨1,V,0,0⟩,0,V+1,x,f'))∧f'.xs=f.xs++Xm V∧(¬ xY V f.xs.length→IV x (V+1) f'):=by
  have h1:=I.v1;have h2:=I.v2;have h3:=I.lf
  have hA:∃ f',qq (⟨Xm V,true⟩,V,x,f)=some (if 768 < f.xs.length+2 then (22,V,x,f) else (0,V,x,f'))∧f'.xs=f.xs++Xm V∧f'.nn=true:=by
    refine ⟨⟨f.xs++Xm V,true⟩,?_,rfl,rfl⟩
    unfold qq q1n
    simp only
    rw [zt,zt]
    have e:(Xm V).length=2:=rfl
    rw [e,zL (by omega) (by omega)]
    by_cases h:768 < f.xs.length+2
    · rw [if_pos (by simp;omega),if_pos h]
    · rw [if_neg (by simp;omega),if_neg h,zeU,Option.bind_some,ZY (by rw [e];omega) (by rw [e];omega)]
      simp [Xm]
  obtain ⟨f',hA,hx,hn⟩:=hA
  refine ⟨f',?_,hx,fun h=>?_⟩
  · unfold qr q2g
    simp only
    by_cases hv:96≤V
    · rw [if_pos (by simpa using hv),if_pos (show xY V f.xs.length from .inl hv)]
    · rw [if_neg (by simpa using hv),show (⟨[(⟨V,0,1099511627776⟩:qg),(⟨0,V,1099511627776⟩:qg)],true⟩:Sl qg)=⟨Xm V,true⟩ from rfl,hA,Option.bind_some]
      by_cases hl:768 < f.xs.length+2
      · rw [if_pos hl,if_pos (show xY V f.xs.length from .inr (by omega))];rfl
      · rw [if_neg hl,if_neg (show ¬ xY V f.xs.length from fun h=>by rcases h with h | h <;> omega)]
        simp only
        rw [if_neg (by simp),zL (by omega) (by omega)]
  · unfold xY at h
    refine ⟨by omega,by omega,I.nx,fun e=>(by rw [hn] at e;cases e),I.lx,by rw [hx];simp [Xm];omega,fun c hc=>(I.ch c hc).up (by omega),fun g hg=>?_⟩
    rw [hx] at hg
    rcases List.mem_append.1 hg with hg | hg
    · exact (I.fc g hg).up (by omega)
    · simp only [Xm,List.mem_cons,List.not_mem_nil,or_false] at hg
      rcases hg with rfl | rfl <;> (unfold FG;simp only;omega)
theorem zdf {V:Int}{y:Sl qd}{f:Sl Leq}{r:Sl qe}(hr:r.xs=f.xs.map ZP) (hf:f.xs.length≤768) (hV:V≤96∧0≤V) :
    ∃ r',ql (V,y,r)=some (if xY V f.xs.length then (⟨0,0,0,0⟩,22,V,y,r) else (⟨1,V,0,0⟩,0,V+1,y,r'))∧r'.xs=(f.xs++Xm V).map ZP:=by
  refine ⟨⟨r.xs++[(⟨V,0,1099511627776⟩:qe)]++[⟨0,V,1099511627776⟩],true⟩,?_,by rw [hr];simp [Xm,ZP]⟩
  have e1:r.len=(f.xs.length:Int):=by rw [zt,hr];simp
  have e2:r.xs.length=f.xs.length:=by rw [hr];simp
  unfold ql q2y
  simp only
  rw [e1]
  have hif:(if decide (96≤V)=true then some (true,V,y,r,qi.mk 0 0 0 0) else some (decide (766 < (f.xs.length:Int)),V,y,r,qi.mk 0 0 0 0))=some (decide (xY V f.xs.length),V,y,r,qi.mk 0 0 0 0):=by
    unfold xY
    by_cases h:96≤V
    · simp [h]
    · simp only [h,decide_false,Bool.false_eq_true,if_false,false_or]
      congr 2
      rw [decide_eq_decide];omega
  rw [hif,Option.bind_some]
  simp only
  by_cases h:xY V f.xs.length
  · have h':96≤V∨766 < f.xs.length:=h
    rw [if_pos (decide_eq_true h),if_pos h]
  · have h':¬ (96≤V∨766 < f.xs.length):=h
    rw [if_neg (by simpa using h),if_neg h,ZY (by simp [e2];omega) (by simp [e2];omega),Option.bind_some,ZY (by simp [e2];omega) (by simp [e2];omega),Option.bind_some,zL (by omega) (by omega)]
    simp
end Go.Px
namespace Go.Px
set_option linter.unusedVariables false
set_option linter.unusedSimpArgs false
def Yi (V:Int) (n:Nat) (s:qh):qh:=if s.Kind_=1 then ⟨1,pos s.Var_ % V,clp s.K_,0⟩ else if s.Kind_=2∧0 < n then ⟨2,0,0,pos s.Block_ % n⟩ else ⟨0,0,0,0⟩
theorem WC {x:Sl q8}{V:Int}{f:Sl Leq}(I:IV x V f) (s:qh):q19 (s,V,x,f)=some (Yi V x.xs.length s,V,x,f):=by
 have h1:=I.v1;have h2:=I.v2;have h3:=I.lx
 unfold q19 q4e Yi
 simp only
 by_cases k1:s.Kind_=1
 ·rw [if_pos (by simpa using k1),if_pos k1]
  show Option.bind (Option.bind (Z9 .i64 (pos s.Var_) V) _) _=_
  rw [wb (wx _) (by omega) (by omega)]
  rfl
 ·rw [if_neg (by simpa using k1),if_neg k1]
  by_cases k2:s.Kind_=2
  ·rw [if_pos (by simpa using k2)]
   rw [zt]
   by_cases hn:0 < x.xs.length
   ·rw [if_pos (show decide ((0:Int) < (x.xs.length:Int))=true by simp;omega),if_pos (show s.Kind_=2∧0 < x.xs.length from ⟨k2,hn⟩)]
    show Option.bind (Option.bind (Option.bind (Z9 .i64 (pos s.Block_) (x.xs.length:Int)) _) _) _=_
    rw [wb (a:=pos s.Block_) (b:=(x.xs.length:Int)) (wx _) (by omega) (by omega)]
    rfl
   ·rw [if_neg (show ¬ decide ((0:Int) < (x.xs.length:Int))=true by rw [decide_eq_true_eq];omega),if_neg (show ¬ (s.Kind_=2∧0 < x.xs.length) from fun h=>hn h.2)]
    rfl
  ·rw [if_neg (by simpa using k2),if_neg (by omega)]
   rfl
theorem VV {V:Int}(hV:1≤V) (n:Nat) (s:qh):SG V (Yi V n s):=by
 unfold Yi SG
 split
 ·intro _
  have:=zeQ s.K_
  exact ⟨Int.emod_nonneg _ (by omega),Int.emod_lt_of_pos _ (by omega),this.1,this.2⟩
 ·split
  ·intro h;simp at h
  ·intro h;simp at h
theorem zjW {V:Int}{n:Nat}{s:qh}(h:(Yi V n s).Kind_=2):0≤(Yi V n s).Block_∧(Yi V n s).Block_ < n:=by
 unfold Yi at h ⊢
 split at h
 ·simp at h
 ·rename_i h1
  split at h
  ·rename_i h2
   rw [if_neg h1,if_pos h2]
   exact ⟨Int.emod_nonneg _ (by omega),Int.emod_lt_of_pos _ (by omega)⟩
  ·simp at h
theorem zhh {x:Sl q8}{V:Int}{f:Sl Leq}(I:IV x V f) (s:Sl qh) (hs:s.xs.length≤9) (t0 t1:Int×Int×Int×Bool×Bool×Bool×Int×Int×Int×Int) :
    lpO (q3p q19) (s,s.len,0,V,x,f,t0,t1,⟨[],false⟩)=some (V,x,f,t0,t1,⟨s.xs.map (Yi V x.xs.length), !s.xs.isEmpty⟩):=by
  have:=yT (b:=32) (f:=q3p q19) (fun acc i=>(s,s.len,i,V,x,f,t0,t1,acc)) (fun acc=>(V,x,f,t0,t1,acc)) (s:=s) (fun y acc i=>
    Option.bind (q19 (y,V,x,f)) fun r_51=>
    Option.bind (zH 32 acc [r_51.1]) fun s_64=>
    some (.next (s,s.len,IntKind.i64.wrap (i+1),r_51.2.1,r_51.2.2.1,r_51.2.2.2,t0,t1,s_64))) (Yi V x.xs.length) ⟨[],false⟩ (fun acc i=>rfl) (fun y hy acc i=>?_) (by simp;omega) (by simp;omega)
  · rw [this];simp
  · rw [WC I];rfl
def clO (o:Int):Int:=if 0 < if 8 < o then 8 else o then if 8 < o then 8 else o else 0
def clA (a:Int):Int:=if -1 < if 9 < a then 9 else a then if 9 < a then 9 else a else -1
def chS (V:Int) (n:Nat) (c:q8):qh:=if c.Array_ then Yi V n ⟨1,c.Size_.Var_,c.Size_.K_,0⟩ else ⟨0,0,0,0⟩
def chC (V:Int) (n:Nat) (c:q8):List qh:=if c.Array_ then [] else (c.Cells_.xs.take 9).map (Yi V n)
def pC (V:Int) (n:Nat) (c:q8) (nn:Bool):q8:=⟨clO c.Origin_,pos c.Type_ % 9,clA c.At_,c.Live_,c.Held_,c.Array_,chS V n c,⟨chC V n c,nn⟩⟩
theorem zjX {x:Sl q8}{V:Int}{f:Sl Leq}(I:IV x V f) (c:q8) (hc:c.Cells_.xs.length≤140737488355328) :
    ∃ nn,q2m (c,V,x,f)=some (pC V x.xs.length c nn,V,x,f)∧(nn=false→chC V x.xs.length c=[]):=by
  unfold q2m q3q pC chS chC
  simp only
  have ht:(if 0 < c.Type_ then c.Type_ else 0).tmod 9=pos c.Type_ % 9:=Int.tmod_eq_emod_of_nonneg (wx _)
  rw [ht]
  cases ha:c.Array_ with
  |true=>
    refine ⟨false,?_,fun _=>rfl⟩
    rw [if_pos rfl,WC I,Option.bind_some]
    rfl
  |false=>
    refine ⟨!(c.Cells_.xs.take 9).isEmpty,?_,fun h=>?_⟩
    · rw [if_neg (by decide),vm c.Cells_ 9 (by omega) hc,Option.bind_some]
      rw [zhh I ⟨c.Cells_.xs.take (Int.toNat 9),c.Cells_.nn⟩ (by simp;omega)]
      rfl
    · have:c.Cells_.xs.take 9=[]:=by simpa using h
      simp [this]
theorem zmh {V:Int}(hV:1≤V) (n:Nat) (c:q8):0≤(chS V n c).Var_∧(chS V n c).Var_ < V∧ -1099511627776≤(chS V n c).K_∧(chS V n c).K_≤1099511627776:=by
 unfold chS
 split
 ·exact VV hV n ⟨1,c.Size_.Var_,c.Size_.K_,0⟩ (by unfold Yi;rw [if_pos rfl])
 ·simp only;omega
theorem zmi {V:Int}(hV:1≤V) (n:Nat) (c:q8):(chC V n c).length≤9∧∀ s∈chC V n c,SG V s:=by
 unfold chC
 split
 ·exact ⟨by simp,fun s hs=>by cases hs⟩
 ·refine ⟨by simp;omega,fun s hs=>?_⟩
  obtain ⟨t,_,rfl⟩:=List.mem_map.1 hs
  exact VV hV n t
theorem zjY (s:Sl qh) (h:s.nn=false→s.xs=[]) (hl:s.xs.length≤1000):∃ nn,q2c s=some ⟨s.xs,nn⟩∧(nn=false→s.xs=[]):=by
 unfold q2c q4r
 cases hn:s.nn with
 |false=>rw [h hn];exact ⟨false,rfl,fun _=>rfl⟩
 |true=>
  rw [if_neg (by decide),ZY (by simp;omega) (by simp;omega)]
  exact ⟨_,rfl,fun h=>by simp at h⟩
theorem zhi (x:Sl q8):q56 x=some x:=by
 unfold q56 q4p
 rw [decide_eq_true rfl,cond_true,zt,wN (by omega) (by omega) (by omega),Option.bind_some]
 simp
theorem put_ok {x:Sl q8}{V:Int}{f:Sl Leq}(I:IV x V f) (hx:x.xs.length < 1000) (k:q8)
    (h1:0≤k.Size_.Var_∧k.Size_.Var_ < V∧ -1099511627776≤k.Size_.K_∧k.Size_.K_≤1099511627776) (h2:k.Cells_.xs.length≤9) (h3:k.Cells_.nn=false→k.Cells_.xs=[]) (h4:∀ s∈k.Cells_.xs,SG V s) :
    ∃ x' c,q2n (k,V,x,f)=some (⟨2,0,0,x.xs.length⟩,V,f,x')∧x'.xs=x.xs++[c]∧ec c=ec k∧IV x' V f:=by
  obtain ⟨nn,hc,hn⟩:=zjY k.Cells_ h3 (by omega)
  refine ⟨⟨x.xs++[⟨k.Origin_,k.Type_,k.At_,k.Live_,k.Held_,k.Array_,k.Size_,⟨k.Cells_.xs,nn⟩⟩],true⟩,⟨k.Origin_,k.Type_,k.At_,k.Live_,k.Held_,k.Array_,k.Size_,⟨k.Cells_.xs,nn⟩⟩,?_,rfl,rfl,?_⟩
  · unfold q2n q38
    simp only
    rw [hc,Option.bind_some,zav,zhi,Option.bind_some,ZY (by simp;omega) (by simp;omega),Option.bind_some,Option.bind_some,zt]
    simp only [List.length_append,List.length_cons,List.length_nil]
    rw [zL (by omega) (by omega),show (((x.xs.length+(0+1):Nat):Int) - 1)=(x.xs.length:Int) by omega]
    simp
  · refine ⟨I.v1,I.v2,(fun h=>by simp at h),I.nf,by simp;omega,I.lf,fun c hc=>?_,I.fc⟩
    rcases List.mem_append.1 hc with hc | hc
    · exact I.ch c hc
    · rw [List.mem_singleton.1 hc]
      exact ⟨h1,h2,hn,h4⟩
theorem zaC (c:q8) (h:c.Cells_.xs.length≤9):∃ nn,qx c=some ((c.Origin_,c.Type_,c.At_,c.Live_,c.Held_,c.Array_,c.Size_.Kind_,c.Size_.Var_,c.Size_.K_,c.Size_.Block_),⟨c.Cells_.xs.map rs,nn⟩):=by
 unfold qx q2z
 rw [show q17 c.Size_=some (rs c.Size_) from rfl,Option.bind_some]
 have:=yT (b:=32) (f:=q4z q17) (fun acc i=>(c.Cells_,c.Cells_.len,i,(0,0,0,false,false,false,0,0,0,0),(c.Origin_,c.Type_,c.At_,c.Live_,c.Held_,c.Array_,c.Size_.Kind_,c.Size_.Var_,c.Size_.K_,c.Size_.Block_),acc)) (fun acc=>((0,0,0,false,false,false,0,0,0,0),(c.Origin_,c.Type_,c.At_,c.Live_,c.Held_,c.Array_,c.Size_.Kind_,c.Size_.Var_,c.Size_.K_,c.Size_.Block_),acc)) (s:=c.Cells_) (fun y acc i=>
  Option.bind (q17 y) fun r_43=>
  Option.bind (zH 32 acc [r_43]) fun s_55=>
  some (.next (c.Cells_,c.Cells_.len,IntKind.i64.wrap (i+1),(0,0,0,false,false,false,0,0,0,0),(c.Origin_,c.Type_,c.At_,c.Live_,c.Held_,c.Array_,c.Size_.Kind_,c.Size_.Var_,c.Size_.K_,c.Size_.Block_),s_55))) rs ⟨[],false⟩ (fun acc i=>rfl) (fun y hy acc i=>rfl) (by simp;omega) (by simp;omega)
 rw [show (rs c.Size_).Kind_=c.Size_.Kind_ from rfl,show (rs c.Size_).Var_=c.Size_.Var_ from rfl,show (rs c.Size_).K_=c.Size_.K_ from rfl,show (rs c.Size_).Block_=c.Size_.Block_ from rfl,this]
 exact ⟨!c.Cells_.xs.isEmpty,by simp⟩
theorem zlJ {V:Int}{y:Sl qd}{r:Sl qe}(hy:y.xs.length < 1000) (k:qd) (h:k.Cells_.xs.length≤9) :
    ∃ y' c,q3a (k,V,y,r)=some (⟨2,0,0,y.xs.length⟩,V,r,y')∧y'.xs=y.xs++[c]∧er c=er k:=by
  have:=yT (b:=32) (f:=q6a) (fun acc i=>(i,V,y,r,k,(⟨0,0,0,0⟩:qi),acc)) (fun acc=>(V,y,r,k,(⟨0,0,0,0⟩:qi),acc)) (s:=k.Cells_) (fun z acc i=>
    Option.bind (zH 32 acc [z]) fun s_55=>
    some (.next (IntKind.i64.wrap (i+1),V,y,r,k,(⟨0,0,0,0⟩:qi),s_55))) (fun y=>y) ⟨[],false⟩ (fun acc i=>rfl) (fun y hy acc i=>rfl) (by simp;omega) (by simp;omega)
  refine ⟨⟨y.xs++[⟨k.Origin_,k.Type_,k.At_,k.Live_,k.Held_,k.Array_,k.Size_,⟨k.Cells_.xs, !k.Cells_.xs.isEmpty⟩⟩],true⟩,⟨k.Origin_,k.Type_,k.At_,k.Live_,k.Held_,k.Array_,k.Size_,⟨k.Cells_.xs, !k.Cells_.xs.isEmpty⟩⟩,?_,rfl,rfl⟩
  unfold q3a q4f
  simp only
  rw [this,Option.bind_some,ZY (by simp;omega) (by simp;omega),Option.bind_some,zt]
  simp only [List.length_append,List.length_cons,List.length_nil]
  rw [zL (by omega) (by omega),show (((y.xs.length+(0+1):Nat):Int) - 1)=(y.xs.length:Int) by omega]
  simp
theorem RS.at {x:Sl q8}{f:Sl Leq}{y:Sl qd}{r:Sl qe}(R:RS x f y r) {i:Int}(h0:0≤i) (h1:i < x.xs.length) :
    ∃ c d,zc x i=some c∧zc y i=some d∧c∈x.xs∧x.xs[i.toNat]?=some c∧y.xs[i.toNat]?=some d∧er d=ec c:=by
  have hl:=R.len
  have k1:=List.getElem?_eq_getElem (show i.toNat < x.xs.length by omega)
  have k2:=List.getElem?_eq_getElem (show i.toNat < y.xs.length by omega)
  refine ⟨_,_,zD.2 ⟨h0,k1⟩,zD.2 ⟨h0,k2⟩,List.getElem_mem _,k1,k2,?_⟩
  have:=congrArg (fun l=>l[i.toNat]?) R.ch
  simp only [List.getElem?_map,k1,k2,Option.map_some,Option.some.injEq] at this
  exact this
theorem Yj {c:q8}{d:qd}(h:er d=ec c):d.Origin_=c.Origin_∧d.Type_=c.Type_∧d.At_=c.At_∧d.Live_=c.Live_∧d.Held_=c.Held_∧d.Array_=c.Array_∧es d.Size_=c.Size_∧d.Cells_.xs.map es=c.Cells_.xs:=by
 simpa [er,ec] using h
theorem vn (s:qh) (k:Int):q2r (s,k)=some (if s.Kind_=k then 0 else if s.Kind_=0 then 41 else 40):=by
 unfold q2r q3z
 simp only
 by_cases h:s.Kind_=k
 ·rw [if_pos (by simpa using h),if_pos h];rfl
 ·rw [if_neg (by simpa using h),if_neg h]
  by_cases h0:s.Kind_=0
  ·rw [if_pos (by simpa using h0),if_pos h0];rfl
  ·rw [if_neg (by simpa using h0),if_neg h0];rfl
theorem zbZ (s:qh) (k:Int):q1s (rs s,k)=some (if s.Kind_=k then 0 else if s.Kind_=0 then 41 else 40):=by
 unfold q1s q4s
 simp only
 show (if decide (s.Kind_=k)=true then some 0 else if decide (s.Kind_=0)=true then some 41 else some 40)=_
 by_cases h:s.Kind_=k
 ·rw [if_pos (by simpa using h),if_pos h]
 ·rw [if_neg (by simpa using h),if_neg h]
  by_cases h0:s.Kind_=0
  ·rw [if_pos (by simpa using h0),if_pos h0]
  ·rw [if_neg (by simpa using h0),if_neg h0]
def yp (x:List q8) (p:qh):Int:=if p.Kind_=2 then (if p.Block_ < 0∨(x.length:Int)≤p.Block_ then 43 else match x[p.Block_.toNat]? with | some c=>if c.Live_ then 0 else 43 | none=>43) else if p.Kind_=0 then 41 else 40
theorem Xn {x:List q8}{p:qh}(h:yp x p=0):p.Kind_=2∧0≤p.Block_∧p.Block_ < x.length:=by
 unfold yp at h
 split at h
 ·rename_i hk
  split at h
  ·simp at h
  ·rename_i hb;exact ⟨hk,by omega,by omega⟩
 ·split at h <;> simp at h
theorem Vq {x:Sl q8}{V:Int}{f:Sl Leq}(p:qh):q1i (p,V,x,f)=some (if yp x.xs p=0 then .inr (p.Block_,0,V,x,f) else .inl (yp x.xs p,V,x,f)):=by
 unfold q1i q2h yp
 simp only
 rw [vn,Option.bind_some,zt]
 by_cases hk:p.Kind_=2
 ·rw [if_pos hk,if_pos hk,if_neg (by decide)]
  by_cases hb:p.Block_ < 0∨(x.xs.length:Int)≤p.Block_
  ·rw [if_pos hb]
   have hif:∀ {α:Type} (a b:Option α),(if decide (p.Block_ < 0)=true then a else if decide ((x.xs.length:Int)≤p.Block_)=true then a else b)=a:=fun a b=>by
    by_cases h:p.Block_ < 0
    ·rw [if_pos (decide_eq_true h)]
    ·rw [if_neg (by simpa using h),if_pos (decide_eq_true (by omega))]
   rw [hif,Option.bind_some]
   rfl
  ·have k1:=List.getElem?_eq_getElem (show p.Block_.toNat < x.xs.length by omega)
   have g1:zc x p.Block_=some _:=zD.2 ⟨by omega,k1⟩
   rw [if_neg hb,if_neg (by simp;omega),if_neg (by simp;omega),g1,k1]
   simp only [Option.bind_some]
   rw [g1]
   cases x.xs[p.Block_.toNat].Live_ <;> rfl
 ·rw [if_neg hk,if_neg hk]
  by_cases h0:p.Kind_=0
  ·simp [h0]
  ·simp [h0]
theorem za2 {V:Int}{x:Sl q8}{f:Sl Leq}{y:Sl qd}{r:Sl qe}(R:RS x f y r) (p:qh):q1e (rs p,V,y,r)=some (yp x.xs p,V,y,r):=by
 unfold q1e q40 yp
 simp only
 have hl:=R.len
 rw [zbZ,Option.bind_some,zt,hl]
 by_cases hk:p.Kind_=2
 ·rw [if_pos hk,if_pos hk,if_neg (by decide)]
  have hif:(if decide ((rs p).Block_ < 0)=true then some (true,V,y,r,rs p) else some (decide ((x.xs.length:Int)≤(rs p).Block_),V,y,r,rs p))=some (decide (p.Block_ < 0∨(x.xs.length:Int)≤p.Block_),V,y,r,rs p):=by
   show (if decide (p.Block_ < 0)=true then some (true,V,y,r,rs p) else some (decide ((x.xs.length:Int)≤p.Block_),V,y,r,rs p))=_
   by_cases h:p.Block_ < 0
   ·simp [h]
   ·simp [h]
  rw [hif,Option.bind_some]
  simp only
  by_cases hb:p.Block_ < 0∨(x.xs.length:Int)≤p.Block_
  ·rw [if_pos hb,if_pos (decide_eq_true hb)]
  ·obtain ⟨c,d,g1,g2,_,k1,k2,hcd⟩:=R.at (i:=p.Block_) (by omega) (by omega)
   have:=(Yj hcd).2.2.2.1
   rw [if_neg hb,if_neg (by simpa using hb),k1,show (rs p).Block_=p.Block_ from rfl,g2]
   simp only [Option.bind_some]
   rw [this]
   cases hL:c.Live_ <;> simp [hL]
 ·rw [if_neg hk,if_neg hk]
  by_cases h0:p.Kind_=0
  ·simp [h0]
  ·simp [h0]
end Go.Px
namespace Go.Px
set_option linter.unusedVariables false
set_option linter.unusedSimpArgs false
noncomputable def vo (f:List Leq) (c:q8) (i:qh) (w:Bool):Int:=
 if w=true∧(c.Origin_=3∨c.Origin_=8) then 44
 else if c.Origin_=6∧c.Held_=false then 45
 else if c.Array_=true then (if (Z5 f ⟨0,i.Var_,i.K_⟩ && Z5 f ⟨i.Var_,c.Size_.Var_,c.Size_.K_ - i.K_ - 1⟩)=true then 0 else 42)
 else if i.Var_≠0∨i.K_ < 0∨(c.Cells_.xs.length:Int)≤i.K_ then 42
 else if c.Origin_=6∧i.K_=c.At_ then 45 else 0
noncomputable def rcE (x:List q8) (f:List Leq) (p i:qh) (w:Bool):Int:=
 if p.Kind_=2 then (if i.Kind_=1 then (if yp x p=0 then (match x[p.Block_.toNat]? with | some c=>vo f c i w | none=>43) else yp x p) else if i.Kind_=0 then 41 else 40)
 else if p.Kind_=0 then 41 else 40
theorem zkK {x:List q8}{f:List Leq}{p i:qh}{w:Bool}(h:rcE x f p i w=0):i.Kind_=1∧yp x p=0∧0≤p.Block_∧p.Block_ < x.length∧∀ c,x[p.Block_.toNat]?=some c→vo f c i w=0:=by
 unfold rcE at h
 split at h
 ·split at h
  ·rename_i h1
   split at h
   ·rename_i hl
    obtain ⟨_,b1,b2⟩:=Xn hl
    refine ⟨h1,hl,b1,b2,fun c hc=>?_⟩
    rw [hc] at h
    exact h
   ·rename_i hl;exact absurd h hl
  ·split at h <;> simp at h
 ·split at h <;> simp at h
theorem zf6 {f:List Leq}{c:q8}{i:qh}{w:Bool}(h:vo f c i w=0) (ha:c.Array_=false):0≤i.K_∧i.K_ < c.Cells_.xs.length:=by
 unfold vo at h
 rw [ha] at h
 split at h
 ·simp at h
 ·split at h
  ·simp at h
  ·rw [if_neg (by decide)] at h
   split at h
   ·simp at h
   ·rename_i h1;omega
theorem ziP {x:Sl q8}{V:Int}{f:Sl Leq}(I:IV x V f) {i s:qh}(hi:0≤i.Var_∧i.Var_ < V∧ -1099511627776≤i.K_∧i.K_≤1099511627776) (hs:0≤s.Var_∧s.Var_ < V∧ -1099511627776≤s.K_∧s.K_≤1099511627776) :
    q2i (i,s,V,x,f)=some (Z5 f.xs ⟨0,i.Var_,i.K_⟩ && Z5 f.xs ⟨i.Var_,s.Var_,s.K_ - i.K_ - 1⟩,V,x,f):=by
  have h1:=I.v1
  unfold q2i q22
  simp only
  rw [zbX I (by simp only;omega) (by simp only;omega),Option.bind_some,zL (n:=s.K_ - i.K_) (by omega) (by omega),zL (by omega) (by omega)]
  simp only
  cases Z5 f.xs ⟨0,i.Var_,i.K_⟩ with
  |false=>rfl
  |true=>
    rw [if_pos rfl,zbX I (by simp only;omega) (by simp only;omega)]
    rfl
theorem zeW {x:Sl q8}{V:Int}{f:Sl Leq}(I:IV x V f) (p:qh) {i:qh}(hi:SG V i) (w:Bool) :
    q1y (p,i,w,V,x,f)=some (if rcE x.xs f.xs p i w=0 then .inr (p.Block_,0,V,x,f) else .inl (rcE x.xs f.xs p i w,V,x,f)):=by
  unfold q1y q2j rcE
  simp only
  rw [vn,Option.bind_some]
  by_cases k2:p.Kind_=2
  case neg=>
    rw [if_neg k2,if_neg k2]
    by_cases h0:p.Kind_=0 <;> simp [h0]
  rw [if_pos k2,if_pos k2,if_neg (by decide),vn,Option.bind_some]
  by_cases k1:i.Kind_=1
  case neg=>
    rw [if_neg k1,if_neg k1]
    by_cases h0:i.Kind_=0 <;> simp [h0]
  rw [if_pos k1,if_pos k1,if_neg (by decide),Vq,Option.bind_some]
  by_cases hl:yp x.xs p=0
  case neg=>simp [hl]
  obtain ⟨_,b1,b2⟩:=Xn hl
  have e1:=List.getElem?_eq_getElem (show p.Block_.toNat < x.xs.length by omega)
  have g1:zc x p.Block_=some _:=zD.2 ⟨b1,e1⟩
  have hc:=I.ch _ (List.getElem_mem (show p.Block_.toNat < x.xs.length by omega))
  rw [if_pos hl,if_pos hl,e1]
  generalize x.xs[p.Block_.toNat]=c at e1 g1 hc
  have hw:=ziP I (hi k1) hc.1
  unfold vo
  have hlen:c.Cells_.len=(c.Cells_.xs.length:Int):=zt _
  simp only [Sum.elim_inr,Option.bind_some,g1,hw,hlen,ne_eq,not_true_eq_false,decide_false,Bool.false_eq_true,if_false]
  by_cases w1:w=true∧(c.Origin_=3∨c.Origin_=8)
  · obtain ⟨rfl,ho⟩:=w1
    rcases ho with ho | ho <;> simp [ho]
  have y43:(if w=true then if decide (c.Origin_=3)=true then some (p.Block_,true,V,x,f,i) else some (p.Block_,decide (c.Origin_=8),V,x,f,i) else some (p.Block_,false,V,x,f,i))=some (p.Block_,false,V,x,f,i):=by
    cases w with
    |false=>rfl
    |true=>
      simp only [true_and,not_or] at w1
      simp [w1.1,w1.2]
  rw [if_neg w1,y43]
  simp only [Option.bind_some,Bool.false_eq_true,if_false,g1]
  by_cases o6:c.Origin_=6∧c.Held_=false
  · rw [if_pos o6];simp [o6.1,o6.2]
  have y6:(if decide (c.Origin_=6)=true then some (p.Block_, !c.Held_,V,x,f,i) else some (p.Block_,false,V,x,f,i))=some (p.Block_,false,V,x,f,i):=by
    by_cases h:c.Origin_=6
    · have:c.Held_=true:=by
        cases hh:c.Held_ with
        |false=>exact absurd ⟨h,hh⟩ o6
        |true=>rfl
      simp [h,this]
    · simp [h]
  rw [if_neg o6,y6]
  simp only [Option.bind_some,Bool.false_eq_true,if_false,g1,hw,hlen]
  cases ha:c.Array_ with
  |true=>
    simp only [if_true]
    cases Z5 f.xs ⟨0,i.Var_,i.K_⟩ && Z5 f.xs ⟨i.Var_,c.Size_.Var_,c.Size_.K_ - i.K_ - 1⟩ <;> rfl
  |false=>
    simp only [Bool.false_eq_true,if_false]
    have yq:(if decide ¬i.Var_=0=true then some (p.Block_,true,V,x,f,i) else if decide (i.K_ < 0)=true then some (p.Block_,true,V,x,f,i) else some (p.Block_,decide ((c.Cells_.xs.length:Int)≤i.K_),V,x,f,i))=some (p.Block_,decide (i.Var_≠0∨i.K_ < 0∨(c.Cells_.xs.length:Int)≤i.K_),V,x,f,i):=by
      by_cases h1:i.Var_=0
      · by_cases h2:i.K_ < 0
        · simp [h1,h2]
        · simp [h1,h2]
      · simp [h1]
    rw [yq]
    simp only [Option.bind_some]
    by_cases q:i.Var_≠0∨i.K_ < 0∨(c.Cells_.xs.length:Int)≤i.K_
    · rw [if_pos q,if_pos (decide_eq_true q)];rfl
    · rw [if_neg q,if_neg (by simpa using q)]
      by_cases q6:c.Origin_=6
      · by_cases qa:i.K_=c.At_
        · simp [g1,q6,qa]
        · simp [g1,q6,qa]
      · simp [g1,q6]
theorem zdg {x:Sl q8}{V:Int}{f:Sl Leq}(I:IV x V f) {y:Sl qd}{r:Sl qe}(R:RS x f y r) (p:qh) {i:qh}(hi:SG V i) (w:Bool) :
    q1t (rs p,rs i,w,V,y,r)=some (rcE x.xs f.xs p i w,V,y,r):=by
  have h1:=I.v1
  unfold q1t q3r rcE
  simp only
  rw [zbZ,Option.bind_some]
  by_cases k2:p.Kind_=2
  case neg=>
    rw [if_neg k2,if_neg k2]
    by_cases h0:p.Kind_=0 <;> simp [h0]
  rw [if_pos k2,if_pos k2,if_neg (by decide),zbZ,Option.bind_some]
  by_cases k1:i.Kind_=1
  case neg=>
    rw [if_neg k1,if_neg k1]
    by_cases h0:i.Kind_=0 <;> simp [h0]
  rw [if_pos k1,if_pos k1,if_neg (by decide),za2 R,Option.bind_some]
  by_cases hl:yp x.xs p=0
  case neg=>simp [hl]
  obtain ⟨_,b1,b2⟩:=Xn hl
  obtain ⟨c,d,g1,g2,hm,e1,e2,hcd⟩:=R.at b1 b2
  have hc:=I.ch _ hm
  obtain ⟨d1,d2,d3,d4,d5,d6,d7,d8⟩:=Yj hcd
  have hii:=hi k1
  have hlen:d.Cells_.len=(c.Cells_.xs.length:Int):=by rw [zt,← d8];simp
  have hsz:(d.Size_.Var_=c.Size_.Var_)∧d.Size_.K_=c.Size_.K_:=by rw [← d7];exact ⟨rfl,rfl⟩
  have q1:(rs p).Block_=p.Block_:=rfl
  have q2:(rs i).Var_=i.Var_:=rfl
  have q3:(rs i).K_=i.K_:=rfl
  rw [if_pos hl,hl,e1]
  simp only [Option.bind_some,ne_eq,not_true_eq_false,decide_false,Bool.false_eq_true,if_false,q1,q2,q3,g2,d1,d3,d5,d6,hlen,hsz.1,hsz.2]
  unfold vo
  by_cases w1:w=true∧(c.Origin_=3∨c.Origin_=8)
  · obtain ⟨rfl,ho⟩:=w1
    rcases ho with ho | ho <;> simp [ho]
  rw [if_neg w1]
  have yw:∀ {α:Type} (a:Bool→Option α),(if w=true then if decide (c.Origin_=3)=true then a true else a (decide (c.Origin_=8)) else a false)=a false:=fun a=>by
    cases w with
    |false=>rfl
    |true=>
      simp only [true_and,not_or] at w1
      simp [w1.1,w1.2]
  rw [yw fun b=>some (b,V,y,r,rs i,c.Origin_,d.Type_,c.At_,d.Live_,c.Held_,c.Array_,d.Size_.Kind_,c.Size_.Var_,c.Size_.K_,d.Size_.Block_,p.Block_)]
  simp only [Option.bind_some,Bool.false_eq_true,if_false]
  by_cases o6:c.Origin_=6∧c.Held_=false
  · rw [if_pos o6];simp [o6.1,o6.2]
  rw [if_neg o6]
  have y6:∀ {α:Type} (a:Bool→Option α),(if decide (c.Origin_=6)=true then a (!c.Held_) else a false)=a false:=fun a=>by
    by_cases h:c.Origin_=6
    · have:c.Held_=true:=by
        cases hh:c.Held_ with
        |false=>exact absurd ⟨h,hh⟩ o6
        |true=>rfl
      simp [h,this]
    · simp [h]
  rw [y6 fun b=>some (b,V,y,r,rs i,c.Origin_,d.Type_,c.At_,d.Live_,c.Held_,c.Array_,d.Size_.Kind_,c.Size_.Var_,c.Size_.K_,d.Size_.Block_,p.Block_)]
  simp only [Option.bind_some,Bool.false_eq_true,if_false]
  cases ha:c.Array_ with
  |true=>
    have a1:=VU I (y:=y) R.fc (g:=⟨0,i.Var_,i.K_⟩) (by simp only;omega) (by simp only;omega)
    have a2:=VU I (y:=y) R.fc (g:=⟨i.Var_,c.Size_.Var_,c.Size_.K_ - i.K_ - 1⟩) (by simp only;omega) (by have:=hc.1;simp only;omega)
    simp only at a1 a2
    have:=hc.1
    simp only [if_true,q2,q3]
    rw [zL (n:=c.Size_.K_ - 1) (by omega) (by omega),zL (by omega) (by omega),show c.Size_.K_ - 1 - i.K_=c.Size_.K_ - i.K_ - 1 by omega,a1]
    simp only [Option.bind_some]
    rw [a2]
    cases Z5 f.xs ⟨0,i.Var_,i.K_⟩ <;> cases Z5 f.xs ⟨i.Var_,c.Size_.Var_,c.Size_.K_ - i.K_ - 1⟩ <;> rfl
  |false=>
    simp only [Bool.false_eq_true,if_false,Option.bind_some,Sum.elim_inr,q2,q3,g2,hlen]
    have yq:∀ {α:Type} (a:Bool→Option α),(if decide ¬i.Var_=0=true then a true else if decide (i.K_ < 0)=true then a true else a (decide ((c.Cells_.xs.length:Int)≤i.K_)))=a (decide (i.Var_≠0∨i.K_ < 0∨(c.Cells_.xs.length:Int)≤i.K_)):=fun a=>by
      by_cases h1:i.Var_=0
      · by_cases h2:i.K_ < 0
        · simp [h1,h2]
        · simp [h1,h2]
      · simp [h1]
    rw [yq fun b=>some (b,V,y,r,rs i,c.Origin_,d.Type_,c.At_,d.Live_,c.Held_,false,d.Size_.Kind_,c.Size_.Var_,c.Size_.K_,d.Size_.Block_,p.Block_)]
    simp only [Option.bind_some]
    by_cases q:i.Var_≠0∨i.K_ < 0∨(c.Cells_.xs.length:Int)≤i.K_
    · rw [if_pos q,if_pos (decide_eq_true q)]
    · rw [if_neg q,if_neg (by simpa using q)]
      by_cases q6:c.Origin_=6
      · by_cases qa:i.K_=c.At_
        · simp [q6,qa,q3]
        · simp [q6,qa,q3]
      · simp [q6]
end Go.Px
namespace Go.Px
set_option linter.unusedVariables false
set_option linter.unusedSimpArgs false
def Kpt (c c':q8):Prop:=c'.Origin_=c.Origin_∧c'.Array_=c.Array_∧c'.Cells_.xs.length=c.Cells_.xs.length∧((c.Origin_=3∨c.Origin_=8∨c.Origin_=2∨c.Origin_=4∨c.Origin_=6)→c'.Live_=c.Live_)∧
 ((c.Origin_=3∨c.Origin_=8∨(c.Origin_=6∧c.Held_=false∧c'.Held_=false))→c'.Cells_.xs=c.Cells_.xs)
theorem Kpt.refl (c:q8):Kpt c c:=⟨rfl,rfl,rfl,fun _=>rfl,fun _=>rfl⟩
def KR (x x':List q8):Prop:=∀ (i:Nat) c,x[i]?=some c→∃ c',x'[i]?=some c'∧Kpt c c'
theorem KR.refl (x:List q8):KR x x:=fun i c h=>⟨c,h,Kpt.refl c⟩
theorem KR.set {x:List q8}{k:Nat}{c c':q8}(h:x[k]?=some c) (hk:Kpt c c'):KR x (x.set k c'):=by
 intro i d hd
 by_cases e:k=i
 ·subst e
  rw [h] at hd;cases hd
  exact ⟨c',by rw [List.getElem?_set_self (List.getElem?_eq_some_iff.1 h).1],hk⟩
 ·exact ⟨d,by rw [List.getElem?_set_ne e];exact hd,Kpt.refl d⟩
theorem KR.app (x:List q8) (l:List q8):KR x (x++l):=fun i c h=>⟨c,by rw [List.getElem?_append_left (List.getElem?_eq_some_iff.1 h).1];exact h,Kpt.refl c⟩
def FL (f f':Sl Leq) (V V':Int):Prop:=(f'.xs.length:Int)≤f.xs.length+2 * (V' - V)
theorem FL.refl (f:Sl Leq) (V:Int):FL f f V V:=by unfold FL;omega
theorem vp {x:Sl q8}{V:Int}{f:Sl Leq}(I:IV x V f) {y:Sl qd}{r:Sl qe}(R:RS x f y r) :
    ∃ s e V' f' r',qr (V,x,f)=some (s,e,V',x,f')∧ql (V,y,r)=some (rs s,e,V',y,r')∧IV x V' f'∧RS x f' y r'∧V≤V'∧FL f f' V V':=by
  obtain ⟨f',h1,h2,h3⟩:=zeV I
  obtain ⟨r',k1,k2⟩:=zdf (y:=y) (V:=V) R.fc I.lf ⟨I.v2,by have:=I.v1;omega⟩
  by_cases h:xY V f.xs.length
  · rw [if_pos h] at h1 k1
    exact ⟨_,_,_,_,_,h1,k1,I,R,Int.le_refl _,FL.refl _ _⟩
  · rw [if_neg h] at h1 k1
    exact ⟨_,_,_,_,_,h1,k1,h3 h,⟨R.ch,by rw [k2,h2]⟩,by omega,by unfold FL;rw [h2,List.length_append,show (Xm V).length=2 from rfl];omega⟩
theorem WD {α:Type}(x:Sl α) (i:Int) (a:α):(Sl.set x i a).xs.length=x.xs.length:=by unfold Sl.set;simp
theorem wy {x:Sl q8}{V:Int}{f:Sl Leq}(I:IV x V f) {y:Sl qd}{r:Sl qe}(R:RS x f y r) (i:Int) {c:q8}{d:qd}(hc:CG V c) (h:er d=ec c) :
    IV (Sl.set x i c) V f∧RS (Sl.set x i c) f (Sl.set y i d) r:=by
  refine ⟨⟨I.v1,I.v2,fun hn=>?_,I.nf,by unfold Sl.set;simp;exact I.lx,I.lf,fun k hk=>?_,I.fc⟩,⟨?_,R.fc⟩⟩
  · have:x.xs=[]:=I.nx hn
    unfold Sl.set;simp [this]
  · rcases List.mem_or_eq_of_mem_set hk with hk | rfl
    · exact I.ch k hk
    · exact hc
  · unfold Sl.set
    simp only [List.map_set,R.ch,h]
theorem ziQ {x:Sl q8}{V:Int}{f:Sl Leq}(I:IV x V f) {y:Sl qd}{r:Sl qe}(R:RS x f y r) (p:qh) {i:qh}(hi:SG V i) :
    ∃ s e V' f' r',q23 (p,i,V,x,f)=some (s,e,V',x,f')∧q30 (rs p,rs i,V,y,r)=some (rs s,e,V',y,r')∧IV x V' f'∧RS x f' y r'∧V≤V'∧FL f f' V V':=by
  unfold q23 q2t q30 q41
  simp only
  rw [zeW I p hi,zdg I R p hi,Option.bind_some,Option.bind_some]
  by_cases h:rcE x.xs f.xs p i false=0
  case neg=>
    refine ⟨⟨0,0,0,0⟩,rcE x.xs f.xs p i false,V,f,r,?_,?_,I,R,Int.le_refl _,FL.refl _ _⟩
    · simp [h]
    · simp [h];rfl
  obtain ⟨k1,hl,b1,b2,hce⟩:=zkK h
  obtain ⟨c,d,g1,g2,hm,e1,e2,hcd⟩:=R.at b1 b2
  obtain ⟨d1,d2,d3,d4,d5,d6,d7,d8⟩:=Yj hcd
  have q1:(rs p).Block_=p.Block_:=rfl
  have q3:(rs i).K_=i.K_:=rfl
  rw [if_pos h,h]
  simp only [Option.bind_some,Sum.elim_inr,ne_eq,not_true_eq_false,decide_false,Bool.false_eq_true,if_false,q1,q3,g1,g2,d6]
  cases ha:c.Array_ with
  |true=>
    obtain ⟨s,e,V',f',r',q1,q2,q3,q4,q5⟩:=vp I R
    refine ⟨s,e,V',f',r',?_,?_,q3,q4,q5⟩
    · simp [q1]
    · simp [q2]
  |false=>
    obtain ⟨z1,z2⟩:=zf6 (hce c e1) ha
    have n1:=List.getElem?_eq_getElem (show i.K_.toNat < c.Cells_.xs.length by omega)
    have n2:d.Cells_.xs[i.K_.toNat]?=some (rs c.Cells_.xs[i.K_.toNat]):=by
      have:(d.Cells_.xs.map es)[i.K_.toNat]?=some c.Cells_.xs[i.K_.toNat]:=by rw [d8];exact n1
      rw [List.getElem?_map] at this
      cases hq:d.Cells_.xs[i.K_.toNat]? with
      |none=>rw [hq] at this;simp at this
      |some q=>
        rw [hq] at this
        simp only [Option.map_some,Option.some.injEq] at this
        rw [← this]
        rfl
    have m1:zc c.Cells_ i.K_=some _:=zD.2 ⟨z1,n1⟩
    have m2:zc d.Cells_ i.K_=some _:=zD.2 ⟨z1,n2⟩
    simp only [m1,m2,Option.bind_some,Bool.false_eq_true,if_false]
    generalize c.Cells_.xs[i.K_.toNat]=u at m1 m2
    have q4:(rs u).Kind_=u.Kind_:=rfl
    rw [q4]
    by_cases hu:u.Kind_=0
    · refine ⟨⟨0,0,0,0⟩,41,V,f,r,?_,?_,I,R,Int.le_refl _,FL.refl _ _⟩
      · simp [hu]
      · simp [hu];rfl
    · refine ⟨u,0,V,f,r,?_,?_,I,R,Int.le_refl _,FL.refl _ _⟩
      · simp [hu,g1,m1]
      · simp [hu]
theorem zhj {x:Sl q8}{V:Int}{f:Sl Leq}(I:IV x V f) {y:Sl qd}{r:Sl qe}(R:RS x f y r) (p:qh) {i v:qh}(hi:SG V i) (hv:SG V v) :
    ∃ e x' y',q3u (p,i,v,V,x,f)=some (e,V,x',f)∧q2o (rs p,rs i,rs v,V,y,r)=some (e,V,y',r)∧IV x' V f∧RS x' f y' r∧x'.xs.length=x.xs.length∧KR x.xs x'.xs:=by
  unfold q3u q57 q2o q3s
  simp only
  rw [zeW I p hi,zdg I R p hi,Option.bind_some,Option.bind_some]
  by_cases h:rcE x.xs f.xs p i true=0
  case neg=>
    refine ⟨rcE x.xs f.xs p i true,x,y,?_,?_,I,R,rfl,KR.refl _⟩
    · simp [h]
    · simp [h]
  obtain ⟨k1,hl,b1,b2,hce⟩:=zkK h
  obtain ⟨c,d,g1,g2,hm,e1,e2,hcd⟩:=R.at b1 b2
  obtain ⟨d1,d2,d3,d4,d5,d6,d7,d8⟩:=Yj hcd
  have q1:(rs p).Block_=p.Block_:=rfl
  have q3:(rs i).K_=i.K_:=rfl
  have q4:(rs v).Kind_=v.Kind_:=rfl
  rw [if_pos h,h]
  simp only [Option.bind_some,Sum.elim_inr,ne_eq,not_true_eq_false,decide_false,Bool.false_eq_true,if_false,q1,q3,q4,g1,g2,d6]
  by_cases hu:v.Kind_=0
  · refine ⟨41,x,y,?_,?_,I,R,rfl,KR.refl _⟩
    · simp [hu]
    · simp [hu]
  cases ha:c.Array_ with
  |true=>
    refine ⟨if v.Kind_=1 then 0 else if v.Kind_=0 then 41 else 40,x,y,?_,?_,I,R,rfl,KR.refl _⟩
    · simp only [hu,decide_false,Bool.false_eq_true,if_false,if_true,vn,Option.bind_some,Sum.elim_inl]
    · simp only [hu,decide_false,Bool.false_eq_true,if_false,if_true,zbZ,Option.bind_some]
  |false=>
    obtain ⟨z1,z2⟩:=zf6 (hce c e1) ha
    have hlen:d.Cells_.xs.length=c.Cells_.xs.length:=by rw [← d8];simp
    have m1:zc c.Cells_ i.K_=some (c.Cells_.xs.getD i.K_.toNat default):=Zb default z1 (by omega)
    have m2:zc d.Cells_ i.K_=some (d.Cells_.xs.getD i.K_.toNat default):=Zb default z1 (by omega)
    have hc:=I.ch c hm
    obtain ⟨q5,q6⟩:=wy I R p.Block_ (c:=⟨c.Origin_,c.Type_,c.At_,c.Live_,c.Held_,c.Array_,c.Size_,⟨c.Cells_.xs.set i.K_.toNat v,c.Cells_.nn⟩⟩) (d:=⟨d.Origin_,d.Type_,d.At_,d.Live_,d.Held_,d.Array_,d.Size_,⟨d.Cells_.xs.set i.K_.toNat (rs v),d.Cells_.nn⟩⟩) ⟨hc.1,by simp;exact hc.2.1,fun hn=>by have:=hc.2.2.1 hn;simp [this],fun s hs=>by
      rcases List.mem_or_eq_of_mem_set hs with hs | rfl
      · exact hc.2.2.2 s hs
      · exact hv⟩ (by
      unfold er ec
      simp only [d1,d2,d3,d4,d5,d6,d7,List.map_set,d8,zkJ])
    have hw:=hce c e1
    have hkp:Kpt c ⟨c.Origin_,c.Type_,c.At_,c.Live_,c.Held_,c.Array_,c.Size_,⟨c.Cells_.xs.set i.K_.toNat v,c.Cells_.nn⟩⟩:=by
      refine ⟨rfl,rfl,by simp,fun _=>rfl,fun h=>?_⟩
      exfalso
      unfold vo at hw
      by_cases w1:true=true∧(c.Origin_=3∨c.Origin_=8)
      · rw [if_pos w1] at hw;simp at hw
      rw [if_neg w1] at hw
      by_cases w2:c.Origin_=6∧c.Held_=false
      · rw [if_pos w2] at hw;simp at hw
      rcases h with h | h | h
      · exact w1 ⟨rfl,.inl h⟩
      · exact w1 ⟨rfl,.inr h⟩
      · exact w2 ⟨h.1,h.2.1⟩
    refine ⟨0,_,_,?_,?_,q5,q6,WD _ _ _,by rw [Sl.set_eq];exact KR.set e1 hkp⟩
    · simp only [hu,ha,decide_false,Bool.false_eq_true,if_false,Option.bind_some,Sum.elim_inr,g1,m1,Sl.set_eq]
    · simp only [hu,d6,ha,decide_false,Bool.false_eq_true,if_false,Option.bind_some,g2,m2,Sl.set_eq]
theorem ziR {x:Sl q8}{V:Int}{f:Sl Leq}(I:IV x V f) {y:Sl qd}{r:Sl qe}(R:RS x f y r) (p:qh) :
    ∃ e x' y',q4g (p,V,x,f)=some (e,V,x',f)∧q31 (rs p,V,y,r)=some (e,V,y',r)∧IV x' V f∧RS x' f y' r∧x'.xs.length=x.xs.length∧KR x.xs x'.xs:=by
  unfold q4g q5n q31 q42
  simp only
  rw [Vq,za2 R,Option.bind_some,Option.bind_some]
  by_cases h:yp x.xs p=0
  case neg=>
    refine ⟨yp x.xs p,x,y,?_,?_,I,R,rfl,KR.refl _⟩
    · simp [h]
    · simp [h]
  obtain ⟨_,b1,b2⟩:=Xn h
  obtain ⟨c,d,g1,g2,hm,e1,e2,hcd⟩:=R.at b1 b2
  obtain ⟨d1,d2,d3,d4,d5,d6,d7,d8⟩:=Yj hcd
  have q1:(rs p).Block_=p.Block_:=rfl
  rw [if_pos h,h]
  simp only [Option.bind_some,Sum.elim_inr,ne_eq,not_true_eq_false,decide_false,Bool.false_eq_true,if_false,q1,g1,g2,d1]
  have hc:=I.ch c hm
  obtain ⟨q5,q6⟩:=wy I R p.Block_ (c:=⟨c.Origin_,c.Type_,c.At_,false,c.Held_,c.Array_,c.Size_,c.Cells_⟩) (d:=⟨d.Origin_,d.Type_,d.At_,false,d.Held_,d.Array_,d.Size_,d.Cells_⟩) hc (by
    unfold er ec
    simp only [d1,d2,d3,d5,d6,d7,d8])
  rw [d1] at q6
  by_cases o3:c.Origin_=3
  · exact ⟨44,x,y,by simp [o3],by simp [o3],I,R,rfl,KR.refl _⟩
  by_cases o8:c.Origin_=8
  · exact ⟨44,x,y,by simp [o8],by simp [o8],I,R,rfl,KR.refl _⟩
  by_cases o2:c.Origin_=2
  · exact ⟨43,x,y,by simp [o2],by simp [o2],I,R,rfl,KR.refl _⟩
  by_cases o4:c.Origin_=4
  · exact ⟨43,x,y,by simp [o4],by simp [o4],I,R,rfl,KR.refl _⟩
  by_cases o6:c.Origin_=6
  · exact ⟨43,x,y,by simp [o6],by simp [o6],I,R,rfl,KR.refl _⟩
  refine ⟨0,_,_,?_,?_,q5,q6,WD _ _ _,by rw [Sl.set_eq];exact KR.set e1 ⟨rfl,rfl,rfl,fun h=>by simp [o3,o8,o2,o4,o6] at h,fun _=>rfl⟩⟩
  · simp [o3,o8,o2,o4,o6,g1]
  · simp [o3,o8,o2,o4,o6,g2,q1,d1]
theorem zjZ {x:Sl q8}{V:Int}{f:Sl Leq}(I:IV x V f) {y:Sl qd}{r:Sl qe}(R:RS x f y r) (s:qh) (n:Int) :
    ∃ v e V' f' r',q50 (s,n,V,x,f)=some (v,e,V',x,f')∧q3b (rs s,n,V,y,r)=some (rs v,e,V',y,r')∧IV x V' f'∧RS x f' y r'∧V≤V'∧FL f f' V V':=by
  unfold q50 q61 q3b q4h
  have q1:(rs s).Kind_=s.Kind_:=rfl
  have q2:(rs s).K_=s.K_:=rfl
  have q3:(rs s).Var_=s.Var_:=rfl
  have q4:(rs s).Block_=s.Block_:=rfl
  simp only [q1,q2,q3,q4]
  by_cases h0:s.Kind_=0
  · refine ⟨⟨0,0,0,0⟩,41,V,f,r,?_,?_,I,R,Int.le_refl _,FL.refl _ _⟩
    · simp [h0]
    · simp [h0];rfl
  by_cases hn:n=0
  · refine ⟨s,0,V,f,r,?_,?_,I,R,Int.le_refl _,FL.refl _ _⟩
    · simp [h0,hn]
    · simp [h0,hn]
  by_cases h1:s.Kind_=1
  case neg=>
    refine ⟨⟨0,0,0,0⟩,40,V,f,r,?_,?_,I,R,Int.le_refl _,FL.refl _ _⟩
    · simp [h0,hn,h1]
    · simp [h0,hn,h1];rfl
  obtain ⟨v,e,V',f',r',a1,a2,a3,a4,a5⟩:=vp I R
  by_cases hb1:1099511627776 < IntKind.i64.wrap (s.K_+n)
  · refine ⟨v,e,V',f',r',?_,?_,a3,a4,a5⟩
    · simp [hn,h1,hb1,a1]
    · simp [hn,h1,hb1,a2]
  by_cases hb2:IntKind.i64.wrap (s.K_+n) < -1099511627776
  · refine ⟨v,e,V',f',r',?_,?_,a3,a4,a5⟩
    · simp [hn,h1,hb1,hb2,a1]
    · simp [hn,h1,hb1,hb2,a2]
  · refine ⟨⟨s.Kind_,s.Var_,IntKind.i64.wrap (s.K_+n),s.Block_⟩,0,V,f,r,?_,?_,I,R,Int.le_refl _,FL.refl _ _⟩
    · simp [hn,h1,hb1,hb2]
    · simp [hn,h1,hb1,hb2];rfl
end Go.Px
namespace Go.Px
set_option linter.unusedVariables false
set_option linter.unusedSimpArgs false
theorem ziS (s:Sl qh) (h:s.nn=false→s.xs=[]) (hl:s.xs.length≤1000):q2c s=some s:=by
 unfold q2c q4r
 obtain ⟨xs,nn⟩:=s
 cases nn with
 |false=>have:xs=[]:=h rfl;subst this;rfl
 |true=>
  simp only [Bool.not_true,Bool.false_eq_true,if_false]
  rw [ZY (by simp;simp at hl;omega) (by simp;simp at hl;omega)]
  simp
theorem ziT (s:Sl Leq) (h:s.nn=false→s.xs=[]) (hl:s.xs.length≤1000):q26 s=some s:=by
 unfold q26 q4q
 obtain ⟨xs,nn⟩:=s
 cases nn with
 |false=>have:xs=[]:=h rfl;subst this;rfl
 |true=>
  simp only [Bool.not_true,Bool.false_eq_true,if_false]
  rw [ZY (by simp;simp at hl;omega) (by simp;simp at hl;omega)]
  simp
theorem ziU (s:Sl q8) (h:s.nn=false→s.xs=[]) (hl:s.xs.length≤1000):q24 s=some s:=by
 unfold q24 q3j
 obtain ⟨xs,nn⟩:=s
 cases nn with
 |false=>have:xs=[]:=h rfl;subst this;rfl
 |true=>
  simp only [Bool.not_true,Bool.false_eq_true,if_false]
  rw [ZY (by simp;simp at hl;omega) (by simp;simp at hl;omega)]
  simp
theorem set_same {x:Sl q8}{j:Nat}{c:q8}(h:x.xs[j]?=some c):Sl.set x (j:Int) c=x:=by
 obtain ⟨hj,hc⟩:=List.getElem?_eq_some_iff.1 h
 rw [Sl.set_eq,Int.toNat_natCast]
 obtain ⟨xs,nn⟩:=x
 simp only at h hj hc ⊢
 rw [← hc]
 simp
theorem VW {x:Sl q8}{V:Int}{f:Sl Leq}(I:IV x V f):qy ⟨x,V,f⟩=some (V,x,f):=by
 have hlx:=I.lx
 have hlf:=I.lf
 have c4:=ziT f I.nf (by omega)
 have c3:=ziU x I.nx (by omega)
 have loop:∀ m j,j+m=x.xs.length→lpO (q1j q24 q26 q2c) (x.len,(j:Int),V,((j:Int),x),f)=some (V,((x.xs.length:Int),x),f):=by
  intro m
  induction m with
  |zero=>
   intro j hj
   have hj:j=x.xs.length:=by omega
   subst hj
   rw [Zx]
   unfold q1j
   simp only
   rw [if_neg (by rw [zt];simp)]
   rfl
  |succ m ih=>
   intro j hj
   have hg:=List.getElem?_eq_getElem (show j < x.xs.length by omega)
   have hc:=I.ch _ (List.getElem_mem (show j < x.xs.length by omega))
   generalize x.xs[j]=c at hg hc
   have g1:zc x (j:Int)=some c:=zD.2 ⟨by omega,by simpa using hg⟩
   rw [Zx]
   unfold q1j
   simp only
   rw [if_pos (by rw [zt];simp;omega)]
   simp only [g1,Option.bind_some,ziS c.Cells_ hc.2.2.1 (by have:=hc.2.1;omega),decide_true,cond_true]
   rw [ziD (by omega),set_same hg,show (j:Int)+1=((j+1:Nat):Int) by omega]
   exact ih (j+1) (by omega)
 unfold qy q2u
 simp only
 rw [c3,Option.bind_some,c4,Option.bind_some]
 have hl:lpO (q1j q24 q26 q2c) (x.len,0,V,(0,x),f)=_:=loop x.xs.length 0 (by omega)
 rw [hl,Option.bind_some]
 simp only [zt,Int.le_refl,decide_true,cond_true,Option.bind_some]
theorem zf7 {x:Sl q8}{V:Int}{f:Sl Leq}(I:IV x V f) {y:Sl qd}{r:Sl qe}(R:RS x f y r) :
    ∃ y' r',qt ⟨y,V,r⟩=some (V,y',r')∧RS x f y' r':=by
  have hlx:=I.lx;have hlf:=I.lf;have hly:=R.len;have hlr:=R.flen
  have a:=yT (b:=24) (f:=q65) (fun acc i=>((⟨y,V,r⟩:qk),i,V,acc)) (fun acc=>((⟨y,V,r⟩:qk),V,acc)) (s:=r) (fun z acc i=>
    Option.bind (zH 24 acc [z]) fun s_29=>some (.next ((⟨y,V,r⟩:qk),IntKind.i64.wrap (i+1),V,s_29))) (fun z=>z) ⟨[],false⟩ (fun acc i=>rfl) (fun z hz acc i=>rfl) (by simp;omega) (by simp;omega)
  have hcl:∀ d∈y.xs,d.Cells_.xs.length≤9:=fun d hd=>by
    obtain ⟨i,hi,rfl⟩:=List.getElem_of_mem hd
    obtain ⟨c,d',g1,g2,hm,e1,e2,hcd⟩:=R.at (i:=(i:Int)) (by omega) (by omega)
    rw [Int.toNat_natCast,List.getElem?_eq_getElem hi] at e2
    cases e2
    have:=(Yj hcd).2.2.2.2.2.2.2
    have h2:=(I.ch c hm).2.1
    rw [← this] at h2
    simpa using h2
  generalize hR:(⟨r.xs, !r.xs.isEmpty⟩:Sl qe)=r2
  have b:=yT (b:=88) (f:=q66) (fun acc i=>((⟨y,V,r⟩:qk),i,V,acc,r2)) (fun acc=>(V,acc,r2)) (s:=y) (fun d acc i=>
    Option.bind (lpO q43 ((⟨y,V,r⟩:qk),i,0,V,d,(⟨[],false⟩:Sl qi),acc,r2)) fun y9=>
    Option.bind (zH 88 y9.2.2.2.2.2.1 [(⟨y9.2.2.2.1.Origin_,y9.2.2.2.1.Type_,y9.2.2.2.1.At_,y9.2.2.2.1.Live_,y9.2.2.2.1.Held_,y9.2.2.2.1.Array_,y9.2.2.2.1.Size_,y9.2.2.2.2.1⟩:qd)]) fun y10=>
    some (.next (y9.1,IntKind.i64.wrap (y9.2.1+1),y9.2.2.1,y10,y9.2.2.2.2.2.2))) (fun d=>⟨d.Origin_,d.Type_,d.At_,d.Live_,d.Held_,d.Array_,d.Size_,⟨d.Cells_.xs, !d.Cells_.xs.isEmpty⟩⟩) ⟨[],false⟩ (fun acc i=>rfl) (fun d hd acc i=>?_) (by simp;omega) (by simp;omega)
  · refine ⟨⟨y.xs.map fun d=>⟨d.Origin_,d.Type_,d.At_,d.Live_,d.Held_,d.Array_,d.Size_,⟨d.Cells_.xs, !d.Cells_.xs.isEmpty⟩⟩, !y.xs.isEmpty⟩,r2,?_,?_,by rw [← hR];exact R.fc⟩
    · unfold qt q44
      simp only
      rw [a,Option.bind_some]
      simp only [List.nil_append,List.map_id',Bool.false_or,hR]
      rw [b]
      simp
    · rw [List.map_map,← R.ch]
      rfl
  · have c:=yT (b:=32) (f:=q43) (fun cs k=>((⟨y,V,r⟩:qk),i,k,V,d,cs,acc,r2)) (fun cs=>((⟨y,V,r⟩:qk),i,V,d,cs,acc,r2)) (s:=d.Cells_) (fun z cs k=>
      Option.bind (zH 32 cs [z]) fun s_71=>some (.next ((⟨y,V,r⟩:qk),i,IntKind.i64.wrap (k+1),V,d,s_71,acc,r2))) (fun z=>z) ⟨[],false⟩ (fun acc i=>rfl) (fun z hz acc i=>rfl) (by have:=hcl d hd;simp;omega) (by have:=hcl d hd;simp;omega)
    rw [c]
    simp only [Option.bind_some,List.map_id',List.nil_append,Bool.false_or,id]
def lkE (x:List q8) (p:qh) (n:Int) (hd:Bool):Int:=
 if yp x p=0 then (match x[p.Block_.toNat]? with | some c=>if c.Origin_≠6∨c.Held_≠hd then 45 else if n≠c.At_ then 42 else 0 | none=>43) else yp x p
theorem zkL {x:List q8}{p:qh}{n:Int}{hd:Bool}(h:lkE x p n hd=0):0≤p.Block_∧p.Block_ < x.length∧∀ c,x[p.Block_.toNat]?=some c→c.Origin_=6∧c.Held_=hd∧n=c.At_:=by
 unfold lkE at h
 split at h
 ·rename_i hl
  obtain ⟨_,b1,b2⟩:=Xn hl
  refine ⟨b1,b2,fun c hc=>?_⟩
  rw [hc] at h
  simp only at h
  split at h
  ·simp at h
  ·rename_i h1
   split at h
   ·simp at h
   ·rename_i h2
    simp only [not_or,Decidable.not_not] at h1 h2
    exact ⟨h1.1,h1.2,h2⟩
 ·rename_i hl;exact absurd h hl
theorem zkM {x:Sl q8}{V:Int}{f:Sl Leq}(p:qh) (n:Int) (hd:Bool):q13 (p,n,hd,V,x,f)=some (if lkE x.xs p n hd=0 then .inr (p.Block_,0,V,x,f) else .inl (lkE x.xs p n hd,V,x,f)):=by
 unfold q13 q2v lkE
 simp only
 rw [Vq,Option.bind_some]
 by_cases hl:yp x.xs p=0
 case neg=>simp [hl]
 obtain ⟨_,b1,b2⟩:=Xn hl
 have e1:=List.getElem?_eq_getElem (show p.Block_.toNat < x.xs.length by omega)
 have g1:zc x p.Block_=some _:=zD.2 ⟨b1,e1⟩
 rw [if_pos hl,if_pos hl,e1]
 generalize x.xs[p.Block_.toNat]=c at e1 g1
 simp only [Option.bind_some,Sum.elim_inr,ne_eq,not_true_eq_false,decide_false,Bool.false_eq_true,if_false,g1]
 by_cases q0:c.Origin_=6
 ·by_cases q1:c.Held_=hd
  ·by_cases q2:n=c.At_
   ·simp [q0,q1,q2,g1]
   ·simp [q0,q1,q2,g1]
  ·simp [q0,q1,g1]
 ·simp [q0,g1]
theorem ziV {V:Int}{x:Sl q8}{f:Sl Leq}{y:Sl qd}{r:Sl qe}(R:RS x f y r) (p:qh) (n:Int) (hd:Bool):qm (rs p,n,hd,V,y,r)=some (lkE x.xs p n hd,V,y,r):=by
 unfold qm q39 lkE
 simp only
 rw [za2 R,Option.bind_some]
 by_cases hl:yp x.xs p=0
 case neg=>simp [hl]
 obtain ⟨_,b1,b2⟩:=Xn hl
 obtain ⟨c,d,g1,g2,hm,e1,e2,hcd⟩:=R.at b1 b2
 obtain ⟨d1,d2,d3,d4,d5,d6,d7,d8⟩:=Yj hcd
 have q1:(rs p).Block_=p.Block_:=rfl
 rw [if_pos hl,hl,e1]
 simp only [Option.bind_some,ne_eq,not_true_eq_false,decide_false,Bool.false_eq_true,if_false,q1,g2,d1,d3,d5]
 by_cases q0:c.Origin_=6
 ·by_cases q1:c.Held_=hd
  ·by_cases q2:n=c.At_
   ·simp [q0,q1,q2]
   ·simp [q0,q1,q2]
  ·simp [q0,q1]
 ·simp [q0]
end Go.Px
namespace Go.Px
set_option linter.unusedVariables false
set_option linter.unusedSimpArgs false
theorem znM {x:Sl q8}{i:Int}{a:q8}(h0:0≤i) (h1:i < x.xs.length):zc (Sl.set x i a) i=some a:=by
 refine zD.2 ⟨h0,?_⟩
 unfold Sl.set
 simp only
 rw [List.getElem?_set_self (by omega)]
theorem XD {j:Nat}(h:j≤1000000):IntKind.i64.wrap ((j:Int)+1)=((j+1:Nat):Int):=by rw [zL (by omega) (by omega)];omega
theorem zfu {x:Sl q8}{V:Int}{f:Sl Leq}(I:IV x V f) {y:Sl qd}{r:Sl qe}(R:RS x f y r) :
    ∃ s e V' f' r',qr (V,x,f)=some (s,e,V',x,f')∧ql (V,y,r)=some (rs s,e,V',y,r')∧IV x V' f'∧RS x f' y r'∧V≤V'∧SG V' s∧FL f f' V V':=by
  have h1:=I.v1
  obtain ⟨f',a1,h2,h3⟩:=zeV I
  obtain ⟨r',k1,k2⟩:=zdf (y:=y) (V:=V) R.fc I.lf ⟨I.v2,by omega⟩
  by_cases h:xY V f.xs.length
  · rw [if_pos h] at a1 k1
    exact ⟨_,_,_,_,_,a1,k1,I,R,Int.le_refl _,fun h=>by simp at h,FL.refl _ _⟩
  · rw [if_neg h] at a1 k1
    exact ⟨_,_,_,_,_,a1,k1,h3 h,⟨R.ch,by rw [k2,h2]⟩,by omega,fun _=>by simp only;omega,by unfold FL;rw [h2,List.length_append,show (Xm V).length=2 from rfl];omega⟩
structure LkI (x0:List q8) (f0:Sl Leq) (lv ar:Bool) (N:Nat) (B:Int) (at_ L V0:Int) (x:Sl q8) (V:Int) (f:Sl Leq) (y:Sl qd) (r:Sl qe):Prop where
 iv:IV x V f
 rs:RS x f y r
 le:V0≤V
 len:(x.xs.length:Int)=L
 ck:∃ c,x.xs[B.toNat]?=some c∧c.Cells_.xs.length=N∧c.At_=at_
 ot:∀ i,i≠B.toNat→x.xs[i]?=x0[i]?
 sm:∀ c,x.xs[B.toNat]?=some c→c.Origin_=6∧c.Live_=lv∧c.Array_=ar
 fl:FL f0 f V0 V
abbrev CT:=Int×Int×Int×Bool×Bool×Bool×Int×Int×Int×Int×Int
theorem ziW {x0:List q8}{f0:Sl Leq}{lv ar:Bool}{N:Nat}{p:qh}{at_ L V0:Int}{l:Sl Leq}{x:Sl q8}{f:Sl Leq}{k:Sl qe}{y:Sl qd}{r:Sl qe}{ct:CT}(b0:0≤p.Block_) (b1:p.Block_ < L) (ha:ct.2.2.1=at_) (hb:ct.2.2.2.2.2.2.2.2.2.2=p.Block_) :
    ∀ (m j:Nat) (x1:Sl q8) (V:Int) (f1:Sl Leq) (y1:Sl qd) (r1:Sl qe),j+m=N→LkI x0 f0 lv ar N p.Block_ at_ L V0 x1 V f1 y1 r1→
    (∃ e,lpO (q12 q13 qy qr q1a qq) (l,p.Block_,(N:Int),(j:Int),V0,x,f,V,x1,f1)=some (.inl (e,V0,x,f))∧
      lpO (q11 qm qt ql qn q10) (k,(j:Int),V0,y,r,Go.Px.rs p,V,ct,y1,r1)=some (.inl (e,V0,y,r)))∨
    (∃ x2 V2 f2 y2 r2,lpO (q12 q13 qy qr q1a qq) (l,p.Block_,(N:Int),(j:Int),V0,x,f,V,x1,f1)=some (.inr (l,p.Block_,V0,x,f,V2,x2,f2))∧
      lpO (q11 qm qt ql qn q10) (k,(j:Int),V0,y,r,Go.Px.rs p,V,ct,y1,r1)=some (.inr (k,V0,y,r,Go.Px.rs p,V2,ct,y2,r2))∧LkI x0 f0 lv ar N p.Block_ at_ L V0 x2 V2 f2 y2 r2):=by
  intro m
  induction m with
  |zero=>
    intro j x1 V f1 y1 r1 hj H
    obtain ⟨c,hc,hn,hat⟩:=H.ck
    obtain ⟨c',d,g1,g2,hm,e1,e2,hcd⟩:=H.rs.at (i:=p.Block_) b0 (by rw [H.len];exact b1)
    rw [hc] at e1;cases e1
    have hdl:d.Cells_.len=(N:Int):=by rw [zt,← hn,← (Yj hcd).2.2.2.2.2.2.2];simp
    right
    refine ⟨x1,V,f1,y1,r1,?_,?_,H⟩
    · rw [Zx]
      unfold q12
      simp only
      rw [if_neg (by simp;omega)]
      rfl
    · rw [Zx]
      unfold q11
      simp only [hb,g2,Option.bind_some,hdl]
      rw [if_neg (by simp;omega)]
      rfl
  |succ m ih=>
    intro j x1 V f1 y1 r1 hj H
    obtain ⟨c,hc,hn,hat⟩:=H.ck
    obtain ⟨c',d,g1,g2,hm,e1,e2,hcd⟩:=H.rs.at (i:=p.Block_) b0 (by rw [H.len];exact b1)
    rw [hc] at e1;cases e1
    obtain ⟨d1,d2,d3,d4,d5,d6,d7,d8⟩:=Yj hcd
    have hdl:d.Cells_.len=(N:Int):=by rw [zt,← hn,← d8];simp
    have hdn:d.Cells_.xs.length=N:=by rw [← hn,← d8];simp
    have hci:=H.iv.ch c hm
    have hN:N≤9:=by rw [← hn];exact hci.2.1
    rw [Zx,Zx]
    by_cases hja:(j:Int)=at_
    · have p1:q12 q13 qy qr q1a qq (l,p.Block_,(N:Int),(j:Int),V0,x,f,V,x1,f1)=some (.next (l,p.Block_,(N:Int),((j+1:Nat):Int),V0,x,f,V,x1,f1)):=by
        unfold q12
        simp only
        rw [if_pos (by simp;omega),g1]
        simp only [Option.bind_some,hat,hja,decide_true,if_true,Sum.elim_inl]
        rw [← hja,XD (by omega)]
      have p2:q11 qm qt ql qn q10 (k,(j:Int),V0,y,r,rs p,V,ct,y1,r1)=some (.next (k,((j+1:Nat):Int),V0,y,r,rs p,V,ct,y1,r1)):=by
        unfold q11
        simp only [hb,g2,Option.bind_some,hdl]
        rw [if_pos (by simp;omega)]
        simp only [ha,hja,decide_true,if_true,Option.bind_some,Sum.elim_inl]
        rw [← hja,XD (by omega)]
      rw [p1,p2]
      exact ih (j+1) x1 V f1 y1 r1 (by omega) H
    · obtain ⟨s,e,V',f',r',q1,q2,q3,q4,q5,q6,q7⟩:=zfu H.iv H.rs
      by_cases he:e=0
      · subst he
        have m1:zc c.Cells_ (j:Int)=some (c.Cells_.xs.getD j default):=Zb default (by omega) (by omega)
        have m2:zc d.Cells_ (j:Int)=some (d.Cells_.xs.getD j default):=Zb default (by omega) (by omega)
        have p1:q12 q13 qy qr q1a qq (l,p.Block_,(N:Int),(j:Int),V0,x,f,V,x1,f1)=some (.next (l,p.Block_,(N:Int),((j+1:Nat):Int),V0,x,f,V',Sl.set x1 p.Block_ ⟨c.Origin_,c.Type_,c.At_,c.Live_,c.Held_,c.Array_,c.Size_,⟨c.Cells_.xs.set j s,c.Cells_.nn⟩⟩,f')):=by
          unfold q12
          simp only
          rw [if_pos (by simp;omega),g1]
          simp only [Option.bind_some,hat,hja,decide_false,Bool.false_eq_true,if_false,q1,ne_eq,not_true_eq_false,g1,m1,Sum.elim_inl,Sl.set_eq,Int.toNat_natCast]
          rw [XD (by omega)]
        have p2:q11 qm qt ql qn q10 (k,(j:Int),V0,y,r,rs p,V,ct,y1,r1)=some (.next (k,((j+1:Nat):Int),V0,y,r,rs p,V',ct,Sl.set y1 p.Block_ ⟨d.Origin_,d.Type_,d.At_,d.Live_,d.Held_,d.Array_,d.Size_,⟨d.Cells_.xs.set j (rs s),d.Cells_.nn⟩⟩,r')):=by
          unfold q11
          simp only [hb,g2,Option.bind_some,hdl]
          rw [if_pos (by simp;omega)]
          simp only [ha,hja,decide_false,Bool.false_eq_true,if_false,q2,ne_eq,not_true_eq_false,Option.bind_some,hb,g2,m2,Sum.elim_inl,Sl.set_eq,Int.toNat_natCast]
          rw [XD (by omega)]
        rw [p1,p2]
        have hc':=hci.up (W:=V') q5
        obtain ⟨u1,u2⟩:=wy q3 q4 p.Block_ (c:=⟨c.Origin_,c.Type_,c.At_,c.Live_,c.Held_,c.Array_,c.Size_,⟨c.Cells_.xs.set j s,c.Cells_.nn⟩⟩) (d:=⟨d.Origin_,d.Type_,d.At_,d.Live_,d.Held_,d.Array_,d.Size_,⟨d.Cells_.xs.set j (rs s),d.Cells_.nn⟩⟩) ⟨hc'.1,by show (c.Cells_.xs.set j s).length≤9;rw [List.length_set];exact hci.2.1,fun hn=>by have:=hc'.2.2.1 hn;simp [this],fun t ht=>by
          rcases List.mem_or_eq_of_mem_set ht with ht | rfl
          · exact hc'.2.2.2 t ht
          · exact q6⟩ (by
          unfold er ec
          simp only [d1,d2,d3,d4,d5,d6,d7,List.map_set,d8,zkJ])
        refine ih (j+1) _ V' f' _ r' (by omega) ⟨u1,u2,by have:=H.le;omega,by rw [WD];exact H.len,⟨⟨c.Origin_,c.Type_,c.At_,c.Live_,c.Held_,c.Array_,c.Size_,⟨c.Cells_.xs.set j s,c.Cells_.nn⟩⟩,?_,by show (c.Cells_.xs.set j s).length=N;rw [List.length_set];exact hn,hat⟩,fun i hi=>?_,fun c2 hc2=>?_,?_⟩
        · unfold Sl.set
          simp only
          rw [List.getElem?_set_self (by have:=H.len;omega)]
        · rw [Sl.set_eq]
          simp only
          rw [List.getElem?_set_ne (Ne.symm hi)]
          exact H.ot i hi
        · rw [Sl.set_eq] at hc2
          simp only at hc2
          rw [List.getElem?_set_self (by have:=H.len;omega)] at hc2
          cases hc2
          exact H.sm c hc
        · have:=H.fl;unfold FL at this q7 ⊢;omega
      · have p1:q12 q13 qy qr q1a qq (l,p.Block_,(N:Int),(j:Int),V0,x,f,V,x1,f1)=some (.done (.inl (e,V0,x,f))):=by
          unfold q12
          simp only
          rw [if_pos (by simp;omega),g1]
          simp [hat,hja,q1,he]
        have p2:q11 qm qt ql qn q10 (k,(j:Int),V0,y,r,rs p,V,ct,y1,r1)=some (.done (.inl (e,V0,y,r))):=by
          unfold q11
          simp only [hb,g2,Option.bind_some,hdl]
          rw [if_pos (by simp;omega)]
          simp [ha,hja,q2,he]
        rw [p1,p2]
        exact .inl ⟨e,rfl,rfl⟩
theorem zf8 (cs:Sl qh) (cs':Sl qi) (he:cs'.xs.map es=cs.xs) (v:Int) (h0:0≤v) (h1:v≤cs.xs.length) (h2:cs.xs.length≤1000000):q15 (v,cs')=some (sd cs.xs v):=by
 unfold q15 q45 sd
 simp only
 have hl:cs'.xs.length=cs.xs.length:=by rw [← he];simp
 by_cases h:v=0
 ·rw [if_pos (decide_eq_true h),if_pos h]
 ·have hi:zc cs' (IntKind.i64.wrap (v - 1))=some (cs'.xs.getD (v - 1).toNat default):=by
   rw [zL (by omega) (by omega),Zb default (by omega) (by omega)]
  have hg:es (cs'.xs.getD (v - 1).toNat default)=cs.xs.getD (v - 1).toNat default:=by
   rw [← he]
   simp only [List.getD_eq_getElem?_getD,List.getElem?_map]
   rw [List.getElem?_eq_getElem (show (v - 1).toNat < cs'.xs.length by omega)]
   rfl
  rw [if_neg (by simpa using h),if_neg h]
  simp only [hi,Option.bind_some]
  rw [← hg]
  by_cases hk:(cs'.xs.getD (v - 1).toNat default).Kind_≠1
  ·rw [if_pos (decide_eq_true hk),if_pos (show (es (cs'.xs.getD (v - 1).toNat default)).Kind_≠1 from hk)]
  ·rw [if_neg (by simpa using hk),if_neg (show ¬ (es (cs'.xs.getD (v - 1).toNat default)).Kind_≠1 from hk)]
   rfl
theorem zeX (fs:Sl Leq) (k:Sl qe) (hk:k.xs=fs.xs.map ZP) (cs:Sl qh) (cs':Sl qi) (he:cs'.xs.map es=cs.xs) (h2:cs.xs.length≤1000000) (hl:fs.xs.length≤1000000) (hf:∀ f∈fs.xs,0≤f.X_∧f.X_≤cs.xs.length∧0≤f.Y_∧f.Y_≤cs.xs.length) :
    ∃ q,qn (k,cs')=some q∧q.xs=(fs.xs.map (ov cs.xs)).map ZP:=by
  have:=zdd (b:=24) (f:=q67 q15) (fun acc i=>(k,cs',i,acc)) id (s:=k) (fun x acc i=>
    Option.bind (q15 (x.X_,cs')) fun r_23=>
    Option.bind (zc k i) fun x2=>
    Option.bind (q15 (x2.Y_,cs')) fun r_30=>
    Option.bind (zc k i) fun x3=>
    Option.bind (zH 24 acc [(⟨r_23.1,r_30.1,IntKind.i64.wrap ((IntKind.i64.wrap (x3.C_ - r_23.2))+r_30.2)⟩:qe)]) fun s_40=>
    some (.next (k,cs',IntKind.i64.wrap (i+1),s_40))) (fun x=>ZP (ov cs.xs ⟨x.X_,x.Y_,x.C_⟩)) ⟨[],false⟩ (fun acc i=>rfl) (fun x hx acc i hi=>?_) (by rw [hk];simp;omega) (by rw [hk];simp;omega)
  · refine ⟨_,by unfold qn q46;simp only;rw [this];rfl,?_⟩
    simp only [id,List.nil_append,hk,List.map_map]
    rfl
  · rw [hk] at hx
    obtain ⟨f,hm,rfl⟩:=List.mem_map.1 hx
    obtain ⟨a1,a2,a3,a4⟩:=hf f hm
    simp only [hi,Option.bind_some]
    show Option.bind (q15 (f.X_,cs')) _=_
    rw [zf8 cs cs' he f.X_ a1 a2 h2]
    simp only [Option.bind_some]
    show Option.bind (q15 (f.Y_,cs')) _=_
    rw [zf8 cs cs' he f.Y_ a3 a4 h2]
    rfl
theorem zkN {V:Int}(hV:1≤V) {l:List qh}(h:∀ s∈l,SG V s) (v:Int) (h0:0≤v) (h1:v≤l.length):0≤(sd l v).1∧(sd l v).1 < V∧ -1099511627776≤(sd l v).2∧(sd l v).2≤1099511627776:=by
 unfold sd
 split
 ·simp only;omega
 ·rename_i hv
  split
  ·simp only;omega
  ·rename_i hk
   exact h _ (Z4 default (by omega)) (by simpa using hk)
theorem zkO {V:Int}(hV:1≤V) {l:List qh}(h:∀ s∈l,SG V s) {f:Leq}(hx:0≤f.X_∧f.X_≤l.length) (hy:0≤f.Y_∧f.Y_≤l.length) (hc : -1099511627776≤f.C_∧f.C_≤1099511627776):FG V (ov l f):=by
 have a:=zkN hV h f.X_ hx.1 hx.2
 have b:=zkN hV h f.Y_ hy.1 hy.2
 unfold ov FG
 simp only
 rw [zL (n:=f.C_ - (sd l f.X_).2) (by omega) (by omega),zL (by omega) (by omega)]
 omega
theorem ziX {x:Sl q8}{V:Int}{f:Sl Leq}(I:IV x V f) {y:Sl qd}{r:Sl qe}(R:RS x f y r) (p:qh) (n:Int) (l:Sl Leq) (k:Sl qe) (hk:k.xs=l.xs.map ZP) (hl:l.xs.length≤9)
    (hf:∀ c,x.xs[p.Block_.toNat]?=some c→∀ g∈l.xs,(0≤g.X_∧g.X_≤c.Cells_.xs.length)∧(0≤g.Y_∧g.Y_≤c.Cells_.xs.length)∧ -1099511627776≤g.C_∧g.C_≤1099511627776) :
    (∃ e,q1q (p,n,l,V,x,f)=some (.inl (e,V,x,f))∧q1v (rs p,n,k,V,y,r)=some (.inl (e,V,y,r)))∨
    ∃ x' V' f' y' r',q1q (p,n,l,V,x,f)=some (.inr (0,V',x,f,x',f'))∧q1v (rs p,n,k,V,y,r)=some (.inr (0,V',y,r,y',r'))∧IV x' V' f'∧RS x' f' y' r'∧V≤V'∧x'.xs.length=x.xs.length∧KR x.xs x'.xs∧(f'.xs.length:Int)≤f.xs.length+2 * (V' - V)+9:=by
  unfold q1q q2w q1v q47
  simp only
  rw [zkM,ziV R,Option.bind_some,Option.bind_some]
  by_cases h:lkE x.xs p n false=0
  case neg=>
    refine .inl ⟨lkE x.xs p n false,?_,?_⟩
    · simp [h]
    · simp [h]
  obtain ⟨b1,b2,hce⟩:=zkL h
  obtain ⟨y2,r2,ht,R2⟩:=zf7 I R
  obtain ⟨c,d,g1,g2,hm,e1,e2,hcd⟩:=R2.at b1 b2
  obtain ⟨d1,d2,d3,d4,d5,d6,d7,d8⟩:=Yj hcd
  have hc:=I.ch c hm
  have q1:(rs p).Block_=p.Block_:=rfl
  have hF:=hf c e1
  rw [if_pos h,h]
  simp only [Option.bind_some,Sum.elim_inr,ne_eq,not_true_eq_false,decide_false,Bool.false_eq_true,if_false,VW I,ht,g1,q1,g2,zt]
  have hlp:=ziW (x0:=x.xs) (f0:=f) (lv:=c.Live_) (ar:=c.Array_) (N:=c.Cells_.xs.length) (p:=p) (at_:=c.At_) (L:=x.xs.length) (V0:=V) (l:=l) (x:=x) (f:=f) (k:=k) (y:=y) (r:=r)
    (ct:=(d.Origin_,d.Type_,d.At_,d.Live_,d.Held_,d.Array_,d.Size_.Kind_,d.Size_.Var_,d.Size_.K_,d.Size_.Block_,p.Block_)) b1 b2 d3 rfl c.Cells_.xs.length 0 x V f y2 r2 (by omega) ⟨I,R2,Int.le_refl _,rfl,⟨c,e1,rfl,rfl⟩,fun _ _=>rfl,fun c2 hc2=>(by rw [e1] at hc2;cases hc2;exact ⟨(hce c e1).1,rfl,rfl⟩),FL.refl _ _⟩
  rcases hlp with ⟨e,a,b⟩ | ⟨x3,V3,f3,y3,r3,a,b,H⟩
  · have a:lpO (q12 q13 qy qr q1a qq) (l,p.Block_,(c.Cells_.xs.length:Int),0,V,x,f,V,x,f)=_:=a
    have b:lpO (q11 qm qt ql qn q10) (k,0,V,y,r,rs p,V,(d.Origin_,d.Type_,d.At_,d.Live_,d.Held_,d.Array_,d.Size_.Kind_,d.Size_.Var_,d.Size_.K_,d.Size_.Block_,p.Block_),y2,r2)=_:=b
    rw [a,b]
    exact .inl ⟨e,rfl,rfl⟩
  have a:lpO (q12 q13 qy qr q1a qq) (l,p.Block_,(c.Cells_.xs.length:Int),0,V,x,f,V,x,f)=_:=a
  have b:lpO (q11 qm qt ql qn q10) (k,0,V,y,r,rs p,V,(d.Origin_,d.Type_,d.At_,d.Live_,d.Held_,d.Array_,d.Size_.Kind_,d.Size_.Var_,d.Size_.K_,d.Size_.Block_,p.Block_),y2,r2)=_:=b
  rw [a,b]
  obtain ⟨c3,hc3,hn3,ha3⟩:=H.ck
  obtain ⟨c3',d3x,k1,k2,km,z1,z2,hcd3⟩:=H.rs.at (i:=p.Block_) b1 (by rw [H.len];exact b2)
  rw [hc3] at z1;cases z1
  obtain ⟨w1,w2,w3,w4,w5,w6,w7,w8⟩:=Yj hcd3
  have hci:=H.iv.ch c3 km
  have hcs9:c3.Cells_.xs.length≤9:=hci.2.1
  have o1:=zeT l c3.Cells_ (by omega) (by omega) (fun g hg=>by have:=hF g hg;rw [hn3];omega)
  obtain ⟨q,o2,o3⟩:=zeX l k hk c3.Cells_ d3x.Cells_ w8 (by omega) (by omega) (fun g hg=>by have:=hF g hg;rw [hn3];omega)
  have hov:∀ g∈l.xs.map (ov c3.Cells_.xs),FG V3 g:=fun g hg=>by
    obtain ⟨g0,hm0,rfl⟩:=List.mem_map.1 hg
    have:=hF g0 hm0
    exact zkO (l:=c3.Cells_.xs) H.iv.v1 hci.2.2.2 (by rw [hn3];exact this.1) (by rw [hn3];exact this.2.1) this.2.2
  obtain ⟨f4,a1,a2,a3⟩:=zde H.iv ⟨l.xs.map (ov c3.Cells_.xs), !l.xs.isEmpty⟩ (by simp;omega) hov
  obtain ⟨r4,a4,a5⟩:=zbY (V:=V3) (y:=y3) (l:=⟨l.xs.map (ov c3.Cells_.xs), !l.xs.isEmpty⟩) (k:=q) H.rs.fc o3 H.iv.lf (by simp;omega)
  simp only [Option.bind_some,Sum.elim_inr,k1,k2,o1,o2,a1,a4]
  by_cases hfl:768 < f3.xs.length+(l.xs.map (ov c3.Cells_.xs)).length
  · rw [if_pos hfl,if_pos hfl]
    exact .inl ⟨22,by simp,by simp⟩
  · rw [if_neg hfl,if_neg hfl]
    have I3:=a3 hfl
    have R3:RS x3 f4 y3 r4:=⟨H.rs.ch,by rw [a5,a2]⟩
    obtain ⟨s1,s2⟩:=wy I3 R3 p.Block_ (c:=⟨c3.Origin_,c3.Type_,c3.At_,c3.Live_,true,c3.Array_,c3.Size_,c3.Cells_⟩) (d:=⟨d3x.Origin_,d3x.Type_,d3x.At_,d3x.Live_,true,d3x.Array_,d3x.Size_,d3x.Cells_⟩) hci (by
      unfold er ec
      simp only [w1,w2,w3,w4,w6,w7,w8])
    refine .inr ⟨_,V3,f4,_,r4,?_,?_,s1,s2,H.le,by rw [WD];have:=H.len;omega,?_,?_⟩
    · simp [k1]
    · simp [k2,q1]
    · intro i c4 h4
      have hs:=H.sm c3 hc3
      have ho:=hce c e1
      by_cases e:i=p.Block_.toNat
      · subst e
        have e1':x.xs[p.Block_.toNat]?=some c:=e1
        rw [e1'] at h4
        cases h4
        refine ⟨⟨c3.Origin_,c3.Type_,c3.At_,c3.Live_,true,c3.Array_,c3.Size_,c3.Cells_⟩,?_,?_⟩
        · rw [Sl.set_eq]
          simp only
          rw [List.getElem?_set_self (by have:=H.len;omega)]
        · refine ⟨by rw [ho.1];exact hs.1,hs.2.2,hn3,fun _=>hs.2.1,fun h=>?_⟩
          rw [ho.1] at h
          simp at h
      · refine ⟨c4,?_,Kpt.refl _⟩
        rw [Sl.set_eq]
        simp only
        rw [List.getElem?_set_ne (Ne.symm e),H.ot i e]
        exact h4
    · have:=H.fl
      unfold FL at this
      rw [a2]
      simp
      omega
end Go.Px
namespace Go.Px
set_option linter.unusedVariables false
set_option linter.unusedSimpArgs false
theorem yJ {S D:Type}{f:S→Option (Step S D)}(mk:Int→S) (N:Nat) (hN:N≤1000000) (p:Nat→Bool) (a b:D)
    (hf:∀ j,j < N→f (mk (j:Int))=if p j=true then some (.done b) else some (.next (mk (IntKind.i64.wrap ((j:Int)+1))))) (he:f (mk (N:Int))=some (.done a)) :
    lpO f (mk 0)=some (if (List.range N).any p=true then b else a):=by
  have key:∀ m j,j+m=N→(∀ i,i < j→p i=false)→lpO f (mk (j:Int))=some (if (List.range N).any p=true then b else a):=by
    intro m
    induction m with
    |zero=>
      intro j hj hp
      obtain rfl:j=N:=by omega
      rw [Zx,he]
      have:¬ (List.range j).any p=true:=by
        simp only [List.any_eq_true,List.mem_range,not_exists,not_and]
        intro i hi;rw [hp i hi];simp
      rw [if_neg this];rfl
    |succ m ih=>
      intro j hj hp
      rw [Zx,hf j (by omega)]
      by_cases h:p j=true
      · rw [if_pos h]
        have:(List.range N).any p=true:=List.any_eq_true.2 ⟨j,List.mem_range.2 (by omega),h⟩
        rw [if_pos this];rfl
      · rw [if_neg h]
        simp only [Option.bind_some]
        rw [XD (by omega)]
        refine ih (j+1) (by omega) fun i hi=>?_
        by_cases e:i=j
        · subst e;simpa using h
        · exact hp i (by omega)
  exact key N 0 (by omega) (fun i hi=>by omega)
theorem ziY {α:Type}[Inhabited α] (l:List α) (p:α→Bool):(List.range l.length).any (fun j=>p (l.getD j default))=l.any p:=by
 rw [Bool.eq_iff_iff]
 simp only [List.any_eq_true,List.mem_range]
 constructor
 ·rintro ⟨j,hj,h⟩
  exact ⟨_,Z4 default hj,h⟩
 ·rintro ⟨a,ha,h⟩
  obtain ⟨j,hj,rfl⟩:=List.getElem_of_mem ha
  refine ⟨j,hj,?_⟩
  rw [List.getD_eq_getElem?_getD,List.getElem?_eq_getElem hj]
  exact h
def za3 (c:q8) (j:Nat):Bool:=decide ((j:Int)≠c.At_) && decide ((c.Cells_.xs.getD j default).Kind_≠1)
theorem zlK {x:Sl q8}{V B:Int}{f l:Sl Leq}{c:q8}(g:zc x B=some c) (hl:c.Cells_.xs.length≤9) :
    lpO (q3c q13 q1a q1w) (l,B,B,c.Cells_.len,0,V,x,f)=some (if (List.range c.Cells_.xs.length).any (za3 c)=true then .inl (47,V,x,f) else .inr (l,B,V,x,f)):=by
  refine yJ (fun j=>(l,B,B,c.Cells_.len,j,V,x,f)) c.Cells_.xs.length (by omega) (za3 c) _ _ (fun j hj=>?_) ?_
  · have m1:zc c.Cells_ (j:Int)=some (c.Cells_.xs.getD j default):=Zb default (by omega) (by omega)
    unfold q3c za3
    simp only
    rw [if_pos (by rw [zt];simp;omega)]
    simp only [g,m1,Option.bind_some]
    by_cases h:(j:Int)≠c.At_
    · simp [h]
    · simp [h]
  · unfold q3c
    simp only
    rw [if_neg (by rw [zt];simp)]
theorem zj0 {y:Sl qd}{V:Int}{r:Sl qe}{k:Sl qe}{p:qi}{d:qd}{c:q8}{ct:CT}(g:zc y p.Block_=some d) (hb:ct.2.2.2.2.2.2.2.2.2.2=p.Block_) (hat:ct.2.2.1=c.At_) (hl:c.Cells_.xs.length≤9) (he:d.Cells_.xs.map es=c.Cells_.xs) :
    lpO (q20 qm qn qz) (k,0,V,y,r,p,ct)=some (if (List.range c.Cells_.xs.length).any (za3 c)=true then .inl (47,V,y,r) else .inr (k,V,y,r,p,ct)):=by
  have hlen:d.Cells_.xs.length=c.Cells_.xs.length:=by rw [← he];simp
  refine yJ (fun j=>(k,j,V,y,r,p,ct)) c.Cells_.xs.length (by omega) (za3 c) _ _ (fun j hj=>?_) ?_
  · have m1:zc d.Cells_ (j:Int)=some (d.Cells_.xs.getD j default):=Zb default (by omega) (by omega)
    have hg:es (d.Cells_.xs.getD j default)=c.Cells_.xs.getD j default:=by
      rw [← he]
      simp only [List.getD_eq_getElem?_getD,List.getElem?_map]
      rw [List.getElem?_eq_getElem (show j < d.Cells_.xs.length by omega)]
      rfl
    unfold q20 za3
    simp only [hb,hat,g,Option.bind_some,m1]
    rw [if_pos (by rw [zt];simp;omega),← hg]
    by_cases h:(j:Int)≠c.At_
    · simp [h,es]
    · simp [h]
  · unfold q20
    simp only [hb,g,Option.bind_some]
    rw [if_neg (by rw [zt];simp;omega)]
theorem zmj {x:Sl q8}{V:Int}{f:Sl Leq}(I:IV x V f) {g:Leq}(hg:FG V g):q1f (g,V,x,f)=some (!Z5 f.xs g,V,x,f):=by
 unfold q1f q48
 rw [zbX I (by unfold FG at hg;omega) (by unfold FG at hg;omega)]
 rfl
theorem zeY {x:Sl q8}{V:Int}{f:Sl Leq}(I:IV x V f) (l:Sl Leq) (hl:l.xs.length≤1000) (hg:∀ g∈l.xs,FG V g):q1w (l,V,x,f)=some (l.xs.any fun g=> !Z5 f.xs g,V,x,f):=by
 apply WB
 unfold q1w q49 q58 q4t
 simp only
 refine zf (zf ((zf4 (p:=fun g=> !Z5 f.xs g) (f:=q1f) (g:=q6h q1f) (fun x=>rfl) (st:=(V,x,f)) l (by omega) (fun g hm=>zmj I (hg g hm))).mono ?_))
 rintro (⟨i,st⟩ | st) h
 ·obtain ⟨h1,rfl,h2⟩:=h
  refine zg (zg ?_)
  rw [h2,decide_eq_true h1]
 ·obtain ⟨rfl,h2⟩:=h
  refine zg (zg ?_)
  rw [h2];rfl
theorem zj1 {x:Sl q8}{V:Int}{f:Sl Leq}(I:IV x V f) {y:Sl qd}{r:Sl qe}(hr:r.xs=f.xs.map ZP) (l:List Leq) (k:Sl qe) (hk:k.xs=l.map ZP) (hl:l.length≤1000) (hg:∀ g∈l,FG V g) (p:qi) (ct:CT) :
    lpO (q21 qm qn qz) (0,V,y,r,p,ct,k)=some (if (l.any fun g=> !Z5 f.xs g)=true then .inl (47,V,y,r) else .inr (V,y,r,p,ct)):=by
  have hlen:k.xs.length=l.length:=by rw [hk];simp
  rw [← ziY]
  refine yJ (fun j=>(j,V,y,r,p,ct,k)) l.length (by omega) (fun j=> !Z5 f.xs (l.getD j default)) _ _ (fun j hj=>?_) ?_
  · have hm:=hg _ (Z4 default hj)
    have he:=VU (y:=y) I hr (g:=l.getD j default) (by unfold FG at hm;omega) (by unfold FG at hm;omega)
    have hgd:zc k (j:Int)=some (⟨(l.getD j default).X_,(l.getD j default).Y_,(l.getD j default).C_⟩:qe):=by
      refine zD.2 ⟨by omega,?_⟩
      rw [Int.toNat_natCast,hk,List.getElem?_map,List.getElem?_eq_getElem hj,List.getD_eq_getElem?_getD,List.getElem?_eq_getElem hj]
      rfl
    unfold q21
    simp only
    rw [if_pos (by rw [zt];simp;omega)]
    simp only [hgd,Option.bind_some,he]
  · unfold q21
    simp only
    rw [if_neg (by rw [zt];simp;omega)]
theorem zj2 {y:Sl qd}{V:Int}{r:Sl qe}{p:qi}{d:qd}{ct:CT}(b0:0≤p.Block_) (b1:p.Block_ < y.xs.length) (hb:ct.2.2.2.2.2.2.2.2.2.2=p.Block_) (N:Nat) (hN:N≤9):∀ (m j:Nat) (l:List qi) (y1:Sl qd),j+m=N→l.length=N→(∀ i,i < j→l[i]?=some ⟨0,0,0,0⟩)→
    y1=Sl.set y p.Block_ (⟨d.Origin_,d.Type_,d.At_,d.Live_,d.Held_,d.Array_,d.Size_,⟨l,d.Cells_.nn⟩⟩:qd)→
    lpO (q1h qm qn qz) ((j:Int),V,y1,r,p,ct)=some (V,Sl.set y p.Block_ (⟨d.Origin_,d.Type_,d.At_,d.Live_,d.Held_,d.Array_,d.Size_,⟨List.replicate N ⟨0,0,0,0⟩,d.Cells_.nn⟩⟩:qd),r,p):=by
  intro m
  induction m with
  |zero=>
    intro j l y1 hj hl hz hy
    have hr:l=List.replicate N ⟨0,0,0,0⟩:=by
      refine List.ext_getElem? fun i=>?_
      by_cases hi:i < N
      · rw [hz i (by omega),List.getElem?_replicate_of_lt hi]
      · rw [List.getElem?_eq_none (by omega),List.getElem?_eq_none (by simp;omega)]
    have g:zc y1 p.Block_=some (⟨d.Origin_,d.Type_,d.At_,d.Live_,d.Held_,d.Array_,d.Size_,⟨l,d.Cells_.nn⟩⟩:qd):=by
      rw [hy]
      refine zD.2 ⟨b0,?_⟩
      rw [Sl.set_eq]
      simp only
      rw [List.getElem?_set_self (by omega)]
    rw [Zx]
    unfold q1h
    simp only [hb,g,Option.bind_some]
    rw [if_neg (by rw [zt];simp;omega),hy,hr]
    rfl
  |succ m ih=>
    intro j l y1 hj hl hz hy
    have g:zc y1 p.Block_=some (⟨d.Origin_,d.Type_,d.At_,d.Live_,d.Held_,d.Array_,d.Size_,⟨l,d.Cells_.nn⟩⟩:qd):=by
      rw [hy]
      refine zD.2 ⟨b0,?_⟩
      rw [Sl.set_eq]
      simp only
      rw [List.getElem?_set_self (by omega)]
    have m1:zc (⟨l,d.Cells_.nn⟩:Sl qi) (j:Int)=some (l.getD j default):=Zb default (by omega) (by simp;omega)
    rw [Zx]
    unfold q1h
    simp only [hb,g,Option.bind_some]
    rw [if_pos (by rw [zt];simp;omega)]
    simp only [m1,Option.bind_some]
    rw [XD (by omega)]
    refine ih (j+1) (l.set j ⟨0,0,0,0⟩) _ (by omega) (by simp;omega) (fun i hi=>?_) ?_
    · by_cases e:i=j
      · subst e;rw [List.getElem?_set_self (by omega)]
      · rw [List.getElem?_set_ne (by omega)];exact hz i (by omega)
    · rw [hy]
      simp [Sl.set_eq]
theorem zfv {x:Sl q8}{V:Int}{f:Sl Leq}(I:IV x V f) {y:Sl qd}{r:Sl qe}(R:RS x f y r) (p:qh) (n:Int) (l:Sl Leq) (k:Sl qe) (hk:k.xs=l.xs.map ZP) (hl:l.xs.length≤9)
    (hf:∀ c,x.xs[p.Block_.toNat]?=some c→∀ g∈l.xs,(0≤g.X_∧g.X_≤c.Cells_.xs.length)∧(0≤g.Y_∧g.Y_≤c.Cells_.xs.length)∧ -1099511627776≤g.C_∧g.C_≤1099511627776) :
    ∃ e x' y',q3k (p,n,l,V,x,f)=some (e,V,x',f)∧q2d (rs p,n,k,V,y,r)=some (e,V,y',r)∧IV x' V f∧RS x' f y' r∧x'.xs.length=x.xs.length∧KR x.xs x'.xs:=by
  unfold q3k q4u q2d q3f
  simp only
  rw [zkM,ziV R,Option.bind_some,Option.bind_some]
  by_cases h:lkE x.xs p n true=0
  case neg=>
    refine ⟨lkE x.xs p n true,x,y,?_,?_,I,R,rfl,KR.refl _⟩
    · simp [h]
    · simp [h]
  obtain ⟨b1,b2,hce⟩:=zkL h
  obtain ⟨c,d,g1,g2,hm,e1,e2,hcd⟩:=R.at b1 b2
  obtain ⟨d1,d2,d3,d4,d5,d6,d7,d8⟩:=Yj hcd
  have hc:=I.ch c hm
  have hc9:=hc.2.1
  have hF:=hf c e1
  have g2':zc y (rs p).Block_=some d:=g2
  have hdl:d.Cells_.xs.length=c.Cells_.xs.length:=by rw [← d8];simp
  have hly:=R.len
  have p1:=zlK (V:=V) (f:=f) (l:=l) g1 hc9
  have p2:=fun ct hb hat=>zj0 (V:=V) (r:=r) (k:=k) (c:=c) (ct:=ct) g2' hb hat hc9 d8
  rw [if_pos h]
  simp only [h,Option.bind_some,Sum.elim_inr,ne_eq,not_true_eq_false,decide_false,Bool.false_eq_true,if_false,g1,g2',p1]
  rw [p2 _ rfl d3,Option.bind_some]
  by_cases ho:(List.range c.Cells_.xs.length).any (za3 c)=true
  · rw [if_pos ho,if_pos ho]
    exact ⟨47,x,y,rfl,rfl,I,R,rfl,KR.refl _⟩
  rw [if_neg ho,if_neg ho]
  have o1:=zeT l c.Cells_ (by omega) (by omega) (fun g hg=>by have:=hF g hg;omega)
  obtain ⟨q,o2,o3⟩:=zeX l k hk c.Cells_ d.Cells_ d8 (by omega) (by omega) (fun g hg=>by have:=hF g hg;omega)
  have hov:∀ g∈l.xs.map (ov c.Cells_.xs),FG V g:=fun g hg=>by
    obtain ⟨g0,hm0,rfl⟩:=List.mem_map.1 hg
    have:=hF g0 hm0
    exact zkO (l:=c.Cells_.xs) I.v1 hc.2.2.2 this.1 this.2.1 this.2.2
  have q1:=zeY I ⟨l.xs.map (ov c.Cells_.xs), !l.xs.isEmpty⟩ (by simp;omega) hov
  have q2:=zj1 (y:=y) I R.fc (l.xs.map (ov c.Cells_.xs)) q o3 (by simp;omega) hov
  simp only [Sum.elim_inr,g1,g2',o1,o2,q1,q2,Option.bind_some]
  generalize (l.xs.map (ov c.Cells_.xs)).any (fun g=> !Z5 f.xs g)=bb
  cases bb with
  |true=>exact ⟨47,x,y,rfl,rfl,I,R,rfl,KR.refl _⟩
  |false=>
  simp only [Bool.false_eq_true,if_false,Sum.elim_inr]
  have z0:y=Sl.set y (rs p).Block_ (⟨d.Origin_,d.Type_,d.At_,d.Live_,d.Held_,d.Array_,d.Size_,⟨d.Cells_.xs,d.Cells_.nn⟩⟩:qd):=by
    obtain ⟨ys,yn⟩:=y
    rw [Sl.set_eq]
    simp only
    congr 1
    show ys=ys.set p.Block_.toNat d
    obtain ⟨hj,hd⟩:=List.getElem?_eq_some_iff.1 e2
    rw [← hd]
    simp
  have u3:=fun ct hb=>zj2 (V:=V) (r:=r) (p:=rs p) (y:=y) (d:=d) (ct:=ct) b1 (by show p.Block_ < _;omega) hb c.Cells_.xs.length hc9 c.Cells_.xs.length 0 d.Cells_.xs y (by omega) hdl (fun i hi=>by omega) z0
  have u4:=u3 (d.Origin_,d.Type_,d.At_,d.Live_,d.Held_,d.Array_,d.Size_.Kind_,d.Size_.Var_,d.Size_.K_,d.Size_.Block_,(rs p).Block_) rfl
  simp only [Int.natCast_zero] at u4
  have u5:lpO (q1h qm qn qz) (0,V,y,r,rs p,d.Origin_,d.Type_,d.At_,d.Live_,d.Held_,d.Array_,d.Size_.Kind_,d.Size_.Var_,d.Size_.K_,d.Size_.Block_,(rs p).Block_)=_:=u4
  rw [u5]
  obtain ⟨s1,s2⟩:=wy I R p.Block_ (c:=⟨c.Origin_,c.Type_,c.At_,c.Live_,false,c.Array_,c.Size_,⟨List.replicate c.Cells_.xs.length ⟨0,0,0,0⟩,c.Cells_.nn⟩⟩) (d:=⟨d.Origin_,d.Type_,d.At_,d.Live_,false,d.Array_,d.Size_,⟨List.replicate c.Cells_.xs.length ⟨0,0,0,0⟩,d.Cells_.nn⟩⟩) ⟨hc.1,by simp;exact hc9,fun hn=>by have:=hc.2.2.1 hn;simp [this],fun s hs=>by
      have:=List.eq_of_mem_replicate hs
      subst this
      intro h;simp at h⟩ (by
    unfold er ec
    simp only [d1,d2,d3,d4,d6,d7,List.map_replicate]
    rfl)
  have gx:∀ v:q8,zc (Sl.set x p.Block_ v) p.Block_=some v:=fun v=>by
    refine zD.2 ⟨b1,?_⟩
    rw [Sl.set_eq]
    simp only
    rw [List.getElem?_set_self (by omega)]
  have gy:∀ v:qd,zc (Sl.set y (rs p).Block_ v) (rs p).Block_=some v:=fun v=>by
    refine zD.2 ⟨b1,?_⟩
    rw [Sl.set_eq]
    simp only
    show (y.xs.set p.Block_.toNat v)[p.Block_.toNat]?=_
    rw [List.getElem?_set_self (by omega)]
  refine ⟨0,_,_,?_,?_,s1,s2,WD _ _ _,by
    have ho:=hce c e1
    rw [Sl.set_eq]
    exact KR.set e1 ⟨rfl,rfl,by simp,fun _=>rfl,fun h=>by rw [ho.1,ho.2.1] at h;simp at h⟩⟩
  · simp only [gx,Option.bind_some]
    simp [Sl.set_eq]
  · simp only [gy,Option.bind_some]
    simp [Sl.set_eq]
    rfl
end Go.Px
namespace Go.Px
set_option linter.unusedVariables false
set_option linter.unusedSimpArgs false
theorem zcB (l:Sl Leq) (hl:l.xs.length≤1000):∃ k,q32 l=some k∧k.xs=l.xs.map ZP:=by
 have:=yT (b:=24) (f:=q68) (fun acc i=>(l,l.len,i,acc)) id (s:=l) (fun x acc i=>
  Option.bind (zH 24 acc [(⟨x.X_,x.Y_,x.C_⟩:qe)]) fun s_20=>some (.next (l,l.len,IntKind.i64.wrap (i+1),s_20))) ZP ⟨[],false⟩ (fun acc i=>rfl) (fun x hx acc i=>rfl) (by simp;omega) (by simp;omega)
 refine ⟨⟨l.xs.map ZP, !l.xs.isEmpty⟩,?_,rfl⟩
 unfold q32 q4a
 rw [this]
 simp
theorem ziZ {β:Type}{x:Sl q8}{V:Int}{f:Sl Leq}(I:IV x V f) (p:qh) (hp:p.Kind_=2→0≤p.Block_∧p.Block_ < x.xs.length) (l:Sl Leq) (hl:l.xs.length≤140737488355328) (st:β) :
    ∃ q:Sl Leq,(if decide (p.Kind_=2)=true then (zc x p.Block_).bind fun (y3:q8)=>(zc x p.Block_).bind fun (y4:q8)=>(zc x p.Block_).bind fun (y5:q8)=>(q1r (l,IntKind.i64.wrap (y5.Cells_.len+1))).bind fun (y6:Sl qg)=>some (y6,st) else some (⟨[],false⟩,st))=some (q,st)∧q.xs.length≤9∧
      ∀ c,x.xs[p.Block_.toNat]?=some c→∀ g∈q.xs,(0≤g.X_∧g.X_≤c.Cells_.xs.length)∧(0≤g.Y_∧g.Y_≤c.Cells_.xs.length)∧ -1099511627776≤g.C_∧g.C_≤1099511627776:=by
  by_cases hk:p.Kind_=2
  · obtain ⟨b1,b2⟩:=hp hk
    have e1:=List.getElem?_eq_getElem (show p.Block_.toNat < x.xs.length by omega)
    have g1:zc x p.Block_=some _:=zD.2 ⟨b1,e1⟩
    have hc:=I.ch _ (List.getElem_mem (show p.Block_.toNat < x.xs.length by omega))
    rw [if_pos (by simpa using hk),g1,Option.bind_some,Option.bind_some,Option.bind_some]
    generalize x.xs[p.Block_.toNat]=c at e1 hc
    have h9:=hc.2.1
    obtain ⟨nn,h1,h2⟩:=zeR l ((c.Cells_.xs.length:Int)+1) (by omega) (by omega) hl
    rw [zt,zL (by omega) (by omega),h1]
    refine ⟨_,rfl,by simp;omega,fun c' hc' g hg=>?_⟩
    rw [e1] at hc'
    cases hc'
    obtain ⟨g0,_,rfl⟩:=List.mem_map.1 hg
    have:=ziO (n:=(c.Cells_.xs.length:Int)+1) (by omega) g0
    omega
  · rw [if_neg (by simpa using hk)]
    exact ⟨_,rfl,by simp,fun c hc g hg=>by cases hg⟩
def znu (x:Sl q8) (V:Int) (f:Sl Leq) (a:Option (Bool×Int×Int×Sl q8×Sl Leq×Sl qd×Sl qe)):Prop:=
 ∃ x' V' f' y' r',a=some (true,V',V',x',f',y',r')∧IV x' V' f'∧RS x' f' y' r'∧V≤V'∧x.xs.length≤x'.xs.length∧x'.xs.length≤x.xs.length+1∧KR x.xs x'.xs∧(f'.xs.length:Int)≤f.xs.length+2 * (V' - V)+9
theorem bs {α β:Type}{a:Option α}{f:α→Option β}{v:α}{P:Option β→Prop}(h:a=some v) (k:P (f v)):P (a.bind f):=by rw [h];exact k
theorem yK (s:qh):q17 s=some (rs s):=rfl
theorem za4 {x:Sl q8}{V:Int}{f:Sl Leq}(I:IV x V f) {y:Sl qd}{r:Sl qe}(R:RS x f y r) (hx:x.xs.length < 1000) (o:qj) (h1:o.Chunk_.Cells_.xs.length≤140737488355328) (h2:o.Facts_.xs.length≤140737488355328) :
    znu x V f (qu (o,V,V,x,f,y,r)):=by
  have hV:=I.v1
  have hV2:=I.v2
  unfold qu q2p
  refine bs (WC I _) (bs (WC I _) (bs (WC I _) ?_))
  have hp:(Yi V x.xs.length o.P_).Kind_=2→0≤(Yi V x.xs.length o.P_).Block_∧(Yi V x.xs.length o.P_).Block_ < x.xs.length:=fun h=>zjW h
  have hi:=VV hV x.xs.length o.I_
  have hv:=VV hV x.xs.length o.V_
  simp only
  generalize Yi V x.xs.length o.P_=p at hp ⊢
  generalize Yi V x.xs.length o.I_=i at hi ⊢
  generalize Yi V x.xs.length o.V_=v at hv ⊢
  obtain ⟨q,q1,q9,qf⟩:=ziZ I p hp o.Facts_ h2 (V,V,x,f,y,r,o,p,i,v)
  refine bs q1 ?_
  simp only
  have m:∀ {c:Int},¬ o.Kind_=c→decide (o.Kind_=c)=false:=fun h=>by rw [decide_eq_false_iff_not];exact h
  have e:∀ {c:Int},o.Kind_=c→decide (o.Kind_=c)=true:=fun h=>by rw [decide_eq_true_eq];exact h
  by_cases k1:o.Kind_=1
  · obtain ⟨nn,c1,c2⟩:=zjX I o.Chunk_ h1
    have s1:=zmh hV x.xs.length o.Chunk_
    have s2:=zmi hV x.xs.length o.Chunk_
    obtain ⟨x',c,p1,p2,p3,p4⟩:=put_ok I hx (pC V x.xs.length o.Chunk_ nn) s1 s2.1 c2 s2.2
    obtain ⟨nn2,r1⟩:=zaC (pC V x.xs.length o.Chunk_ nn) s2.1
    obtain ⟨y',d,t1,t2,t3⟩:=zlJ (V:=V) (y:=y) (r:=r) (by rw [R.len];exact hx) ⟨(pC V x.xs.length o.Chunk_ nn).Origin_,(pC V x.xs.length o.Chunk_ nn).Type_,(pC V x.xs.length o.Chunk_ nn).At_,(pC V x.xs.length o.Chunk_ nn).Live_,(pC V x.xs.length o.Chunk_ nn).Held_,(pC V x.xs.length o.Chunk_ nn).Array_,rs (pC V x.xs.length o.Chunk_ nn).Size_,⟨(pC V x.xs.length o.Chunk_ nn).Cells_.xs.map rs,nn2⟩⟩ (by simp;exact s2.1)
    generalize pC V x.xs.length o.Chunk_ nn=pc at *
    simp only [rs] at t1
    simp only [e k1,if_true,c1,Option.bind_some,p1,yK,r1,t1]
    refine ⟨x',V,f,y',r,?_,p4,⟨?_,R.fc⟩,Int.le_refl _,by rw [p2];simp,by rw [p2];simp,by rw [p2];exact KR.app _ _,by omega⟩
    · simp [rs,R.len]
    · rw [p2,t2,List.map_append,List.map_append,R.ch]
      simp only [List.map_cons,List.map_nil,p3,t3,List.map_map]
      have:(es ∘ rs)=id:=rfl
      simp only [er,ec,List.map_map,this,List.map_id]
      rfl
  by_cases k2:o.Kind_=2
  · obtain ⟨s,er,V',f',r',a1,a2,a3,a4,a5,a6⟩:=vp I R
    simp only [m k1,e k2,if_true,Bool.false_eq_true,if_false,Option.bind_some,a1,a2,yK,Sum.elim_inl,Sum.elim_inr]
    exact ⟨x,V',f',y,r',by simp,a3,a4,a5,Nat.le_refl _,by omega,KR.refl _,by unfold FL at a6;omega⟩
  by_cases k3:o.Kind_=3
  · obtain ⟨nn,b1,b2⟩:=zeR o.Facts_ V (by omega) (by omega) h2
    have hg:∀ g∈(o.Facts_.xs.take 9).map (fxn V),FG V g:=fun g hg=>by
      obtain ⟨g0,_,rfl⟩:=List.mem_map.1 hg
      have:=ziO (n:=V) (by omega) g0
      unfold FG
      omega
    obtain ⟨f',c1,c2,c3⟩:=zde I ⟨(o.Facts_.xs.take 9).map (fxn V),nn⟩ (by simp;omega) hg
    obtain ⟨k,d1,d2⟩:=zcB ⟨(o.Facts_.xs.take 9).map (fxn V),nn⟩ (by simp;omega)
    obtain ⟨r',g1,g2⟩:=zbY (V:=V) (y:=y) R.fc d2 I.lf (by simp;omega)
    simp only [m k1,m k2,e k3,if_true,Bool.false_eq_true,if_false,Option.bind_some,b1,c1,d1,g1,Sum.elim_inl,Sum.elim_inr]
    by_cases hfl:768 < f.xs.length+((o.Facts_.xs.take 9).map (fxn V)).length
    · rw [if_pos hfl,if_pos hfl]
      exact ⟨x,V,f,y,r,by simp,I,R,Int.le_refl _,Nat.le_refl _,by omega,KR.refl _,by omega⟩
    · rw [if_neg hfl,if_neg hfl]
      exact ⟨x,V,f',y,r',by simp,c3 hfl,⟨R.ch,by rw [g2,c2]⟩,Int.le_refl _,Nat.le_refl _,by omega,KR.refl _,by rw [c2];simp;omega⟩
  by_cases k4:o.Kind_=4
  · have cut:∃ nn,q18 o.N_=some nn:=⟨_,rfl⟩
    obtain ⟨nn,cut⟩:=cut
    obtain ⟨s,er,V',f',r',a1,a2,a3,a4,a5,a6⟩:=zjZ I R v nn
    simp only [m k1,m k2,m k3,e k4,if_true,Bool.false_eq_true,if_false,Option.bind_some,cut,a1,a2,yK,Sum.elim_inl,Sum.elim_inr]
    exact ⟨x,V',f',y,r',by simp,a3,a4,a5,Nat.le_refl _,by omega,KR.refl _,by unfold FL at a6;omega⟩
  by_cases k5:o.Kind_=5
  · obtain ⟨s,er,V',f',r',a1,a2,a3,a4,a5,a6⟩:=ziQ I R p hi
    simp only [m k1,m k2,m k3,m k4,e k5,if_true,Bool.false_eq_true,if_false,Option.bind_some,a1,a2,yK,Sum.elim_inl,Sum.elim_inr]
    exact ⟨x,V',f',y,r',by simp,a3,a4,a5,Nat.le_refl _,by omega,KR.refl _,by unfold FL at a6;omega⟩
  by_cases k6:o.Kind_=6
  · obtain ⟨er,x',y',a1,a2,a3,a4,a5,a6⟩:=zhj I R p hi hv
    simp only [m k1,m k2,m k3,m k4,m k5,e k6,if_true,Bool.false_eq_true,if_false,Option.bind_some,a1,a2,yK,Sum.elim_inl,Sum.elim_inr]
    exact ⟨x',V,f,y',r,by simp,a3,a4,Int.le_refl _,by omega,by omega,a6,by omega⟩
  by_cases k7:o.Kind_=7
  · obtain ⟨er,x',y',a1,a2,a3,a4,a5,a6⟩:=ziR I R p
    simp only [m k1,m k2,m k3,m k4,m k5,m k6,e k7,if_true,Bool.false_eq_true,if_false,Option.bind_some,a1,a2,yK,Sum.elim_inl,Sum.elim_inr]
    exact ⟨x',V,f,y',r,by simp,a3,a4,Int.le_refl _,by omega,by omega,a6,by omega⟩
  by_cases k8:o.Kind_=8
  · obtain ⟨k,d1,d2⟩:=zcB q (by omega)
    rcases ziX I R p o.N_ q k d2 q9 qf with ⟨er,a1,a2⟩ | ⟨x',V',f',y',r',a1,a2,a3,a4,a5,a6,a7,a8⟩
    · simp only [m k1,m k2,m k3,m k4,m k5,m k6,m k7,e k8,if_true,Bool.false_eq_true,if_false,Option.bind_some,d1,a1,a2,yK,Sum.elim_inl,Sum.elim_inr]
      exact ⟨x,V,f,y,r,by simp,I,R,Int.le_refl _,by omega,by omega,KR.refl _,by omega⟩
    · simp only [m k1,m k2,m k3,m k4,m k5,m k6,m k7,e k8,if_true,Bool.false_eq_true,if_false,Option.bind_some,d1,a1,a2,yK,Sum.elim_inl,Sum.elim_inr]
      exact ⟨x',V',f',y',r',by simp,a3,a4,a5,by omega,by omega,a7,a8⟩
  by_cases k9:o.Kind_=9
  · obtain ⟨k,d1,d2⟩:=zcB q (by omega)
    obtain ⟨er,x',y',a1,a2,a3,a4,a5,a6⟩:=zfv I R p o.N_ q k d2 q9 qf
    simp only [m k1,m k2,m k3,m k4,m k5,m k6,m k7,m k8,e k9,if_true,Bool.false_eq_true,if_false,Option.bind_some,d1,a1,a2,yK,Sum.elim_inl,Sum.elim_inr]
    exact ⟨x',V,f,y',r,by simp,a3,a4,Int.le_refl _,by omega,by omega,a6,by omega⟩
  by_cases k10:o.Kind_=10
  · simp only [m k1,m k2,m k3,m k4,m k5,m k6,m k7,m k8,m k9,e k10,if_true,Bool.false_eq_true,if_false,Option.bind_some,VW I,Sum.elim_inl,Sum.elim_inr]
    exact ⟨x,V,f,y,r,by simp,I,R,Int.le_refl _,Nat.le_refl _,by omega,KR.refl _,by omega⟩
  · simp only [m k1,m k2,m k3,m k4,m k5,m k6,m k7,m k8,m k9,m k10,if_true,Bool.false_eq_true,if_false,Option.bind_some,Sum.elim_inl,Sum.elim_inr]
    exact ⟨x,V,f,y,r,by simp,I,R,Int.le_refl _,Nat.le_refl _,by omega,KR.refl _,by omega⟩
end Go.Px
namespace Go.Px
set_option linter.unusedVariables false
set_option linter.unusedSimpArgs false
abbrev OpT:=qj
def OpG (o:OpT):Prop:=o.Chunk_.Cells_.xs.length≤140737488355328∧o.Facts_.xs.length≤140737488355328
theorem iv0:IV ⟨[],false⟩ 1 ⟨[],false⟩:=⟨by omega,by omega,fun _=>rfl,fun _=>rfl,by simp,by simp,fun c hc=>(by cases hc),fun g hg=>(by cases hg)⟩
theorem rs0:RS ⟨[],false⟩ ⟨[],false⟩ ⟨[],false⟩ ⟨[],false⟩:=⟨rfl,rfl⟩
abbrev St6:=Int×Int×Sl q8×Sl Leq×Sl qd×Sl qe
theorem zdh {S D:Type}{fn:S→Option (Step S D)}(mk:Int→St6→S) (dn:St6→D) (s:Sl OpT) (hs:s.xs.length≤100) (hg:∀ o∈s.xs,OpG o)
    (hf:∀ (j:Int) st,fn (mk j st)=if decide (j < s.len)=true then Option.bind (zc s j) (fun o=>Option.bind (qu (o,st)) fun q=>
      some (.next (mk (IntKind.i64.wrap (j+1)) q.2))) else some (.done (dn st))) :
    ∀ (m j:Nat) (x:Sl q8) (V:Int) (f:Sl Leq) (y:Sl qd) (r:Sl qe),j+m=s.xs.length→IV x V f→RS x f y r→x.xs.length+m≤900→
    ∃ x' V' f' y' r',lpO fn (mk (j:Int) (V,V,x,f,y,r))=some (dn (V',V',x',f',y',r'))∧IV x' V' f'∧RS x' f' y' r'∧V≤V'∧x'.xs.length≤x.xs.length+m∧(f'.xs.length:Int)≤f.xs.length+2 * (V' - V)+9 * m:=by
  intro m
  induction m with
  |zero=>
    intro j x V f y r hj I R hl
    refine ⟨x,V,f,y,r,?_,I,R,Int.le_refl _,by omega,by omega⟩
    rw [Zx,hf,if_neg (by rw [zt];simp;omega)]
    rfl
  |succ m ih=>
    intro j x V f y r hj I R hl
    have ho:=hg _ (Z4 default (show j < s.xs.length by omega))
    obtain ⟨x',V',f',y',r',a1,a2,a3,a4,a5,a6,a7,a8⟩:=za4 I R (by omega) (s.xs.getD j default) ho.1 ho.2
    obtain ⟨x2,V2,f2,y2,r2,b1,b2,b3,b5,b4,b6⟩:=ih (j+1) x' V' f' y' r' (by omega) a2 a3 (by omega)
    refine ⟨x2,V2,f2,y2,r2,?_,b2,b3,by omega,by omega,by omega⟩
    rw [Zx,hf,if_pos (by rw [zt];simp;omega),Zb default (by omega) (by omega),Option.bind_some,Int.toNat_natCast,a1,Option.bind_some,XD (by omega)]
    exact b1
theorem zm2 (wk:qw ()=some true) (a0:Sl OpT) (a1:Sl Leq) (h0:a0.xs.length≤140737488355328) (h1:a1.xs.length≤140737488355328) (hg:∀ o∈a0.xs,OpG o):q1k (a0,a1)=some true:=by
 unfold q1k q25
 simp only
 rw [wk,Option.bind_some,if_neg (by decide),vm a0 30 (by omega) h0,Option.bind_some]
 obtain ⟨x,V,f,y,r,b1,I,R,b5,b4,b6⟩:=zdh (fn:=q4b qw qu q14 qz)
  (fun j st=>(a1,⟨a0.xs.take (Int.toNat 30),a0.nn⟩,(⟨a0.xs.take (Int.toNat 30),a0.nn⟩:Sl OpT).len,j,st)) (fun st=>(a1,st)) ⟨a0.xs.take (Int.toNat 30),a0.nn⟩ (by simp;omega) (fun o ho=>hg o (List.mem_of_mem_take ho)) (fun _ _=>rfl)
  (a0.xs.take (Int.toNat 30)).length 0 ⟨[],false⟩ 1 ⟨[],false⟩ ⟨[],false⟩ ⟨[],false⟩ (by simp) iv0 rs0 (by simp;omega)
 simp only [Int.natCast_zero] at b1
 rw [b1,Option.bind_some]
 simp only
 rw [vm a1 9 (by omega) h1,Option.bind_some]
 have hV:=I.v1
 have hV2:=I.v2
 generalize hs:(⟨a1.xs.take (Int.toNat 9),a1.nn⟩:Sl Leq)=s
 have hsl:s.xs.length≤9:=by rw [← hs];simp;omega
 have hloop:=yJ (f:=q1g qw qu q14 qz) (fun j=>(s,s.len,j,V,V,x,f,y,r)) s.xs.length (by omega) (fun _=>false) (.inr ()) (.inl false) (fun j hj=>by
  unfold q1g
  simp only
  rw [if_pos (by rw [zt];simp;omega),Zb default (by omega) (by omega),Option.bind_some]
  generalize s.xs.getD (Int.toNat (j:Int)) default=g
  show Option.bind (Z9 .i64 (pos g.X_) V) _=_
  rw [wb (wx _) (by omega) (by omega),Option.bind_some]
  show Option.bind (Z9 .i64 (pos g.Y_) V) _=_
  rw [wb (wx _) (by omega) (by omega),Option.bind_some]
  have q1:=Int.emod_nonneg (pos g.X_) (show V≠0 by omega)
  have q2:=Int.emod_lt_of_pos (pos g.X_) (show 0 < V by omega)
  have q3:=Int.emod_nonneg (pos g.Y_) (show V≠0 by omega)
  have q4:=Int.emod_lt_of_pos (pos g.Y_) (show 0 < V by omega)
  rw [zbX I (g:=⟨pos g.X_ % V,pos g.Y_ % V,g.C_⟩) ⟨q1,q2⟩ ⟨q3,q4⟩,Option.bind_some]
  have:=VU I (y:=y) R.fc (g:=⟨pos g.X_ % V,pos g.Y_ % V,g.C_⟩) ⟨q1,q2⟩ ⟨q3,q4⟩
  rw [this,Option.bind_some]
  simp) (by
  unfold q1g
  simp only
  rw [if_neg (by rw [zt];simp)])
 have hany:(List.range s.xs.length).any (fun _=>false)=false:=by simp
 rw [hany] at hloop
 rw [hloop]
 rfl
end Go.Px
namespace Go.Px
set_option linter.unusedVariables false
set_option linter.unusedSimpArgs false
theorem XY (N:Nat):(List.range N).any (fun _=>false)=false:=by simp
theorem zmk {c:q8}{d:qd}(h:d.Cells_.xs.map es=c.Cells_.xs):c.Cells_.xs.map rs=d.Cells_.xs:=by
 rw [← h,List.map_map]
 have:(rs ∘ es)=id:=rfl
 rw [this,List.map_id]
theorem zj3 {L i V V':Int}{x:Sl q8}{f:Sl Leq}{y:Sl qd}{r:Sl qe}{ct:Int×Int×Int×Bool×Bool×Bool×Int×Int×Int×Int}{cu:CT}{cells:Sl qi}{d:qd}
    (g:zc y cu.2.2.2.2.2.2.2.2.2.2=some d) (h:cells.xs=d.Cells_.xs) (hl:cells.xs.length≤9) :
    lpO (q1b qx) (L,i,cells.len,0,V,V',x,f,y,r,ct,cu,cells)=some (.inr (L,i,V,V',x,f,y,r)):=by
  have:=yJ (f:=q1b qx) (fun k=>(L,i,cells.len,k,V,V',x,f,y,r,ct,cu,cells)) cells.xs.length (by omega) (fun _=>false) (.inr (L,i,V,V',x,f,y,r)) (.inl (false,V,V',x,f,y,r)) (fun k hk=>by
    have m1:zc cells (k:Int)=some (cells.xs.getD k default):=Zb default (by omega) (by omega)
    have m2:zc d.Cells_ (k:Int)=some (cells.xs.getD k default):=by rw [h];exact Zb default (by omega) (by rw [← h];omega)
    unfold q1b
    simp only [g,m1,m2,Option.bind_some]
    rw [if_pos (by rw [zt];simp;omega)]
    simp) (by
    unfold q1b
    simp only
    rw [if_neg (by rw [zt];simp)])
  rw [XY] at this
  simpa using this
theorem zj4 {V V':Int}{x:Sl q8}{f:Sl Leq}{y:Sl qd}{r:Sl qe}(hr:r.xs=f.xs.map ZP) (hl:f.xs.length≤768) :
    lpO (q1c qx) (f.len,0,V,V',x,f,y,r)=some (.inr (V,V',x,f,y,r)):=by
  have:=yJ (f:=q1c qx) (fun k=>(f.len,k,V,V',x,f,y,r)) f.xs.length (by omega) (fun _=>false) (.inr (V,V',x,f,y,r)) (.inl (false,V,V',x,f,y,r)) (fun k hk=>by
    have m1:zc f (k:Int)=some (f.xs.getD k default):=Zb default (by omega) (by omega)
    have m2:=ziM hr hk
    unfold q1c
    simp only [m1,m2,Option.bind_some]
    rw [if_pos (by rw [zt];simp;omega)]
    simp [ZP]) (by
    unfold q1c
    simp only
    rw [if_neg (by rw [zt];simp)])
  rw [XY] at this
  simpa using this
theorem zj5 {V V':Int}{x:Sl q8}{f:Sl Leq}{y:Sl qd}{r:Sl qe}(I:IV x V f) (R:RS x f y r) :
    lpO (q1d qx) (x.len,0,V,V',x,f,y,r)=some (.inr (V,V',x,f,y,r)):=by
  have hlx:=I.lx
  have:=yJ (f:=q1d qx) (fun k=>(x.len,k,V,V',x,f,y,r)) x.xs.length (by omega) (fun _=>false) (.inr (V,V',x,f,y,r)) (.inl (false,V,V',x,f,y,r)) (fun k hk=>by
    obtain ⟨c,d,g1,g2,hm,e1,e2,hcd⟩:=R.at (i:=(k:Int)) (by omega) (by omega)
    obtain ⟨d1,d2,d3,d4,d5,d6,d7,d8⟩:=Yj hcd
    have hci:=I.ch c hm
    obtain ⟨nn,hcr⟩:=zaC c hci.2.1
    have hsz:d.Size_=rs c.Size_:=by rw [← d7];rfl
    have s1:d.Size_.Kind_=c.Size_.Kind_:=by rw [hsz];rfl
    have s2:d.Size_.Var_=c.Size_.Var_:=by rw [hsz];rfl
    have s3:d.Size_.K_=c.Size_.K_:=by rw [hsz];rfl
    have s4:d.Size_.Block_=c.Size_.Block_:=by rw [hsz];rfl
    have hlen:d.Cells_.len=(c.Cells_.xs.length:Int):=by rw [zt,← d8];simp
    have hs1:=fun ct cu h=>zj3 (L:=x.len) (i:=(k:Int)) (V:=V) (V':=V') (x:=x) (f:=f) (y:=y) (r:=r) (ct:=ct) (cu:=cu) (cells:=⟨c.Cells_.xs.map rs,nn⟩) (d:=d) h (zmk d8) (by simp;exact hci.2.1)
    have hs2:=hs1 (c.Origin_,c.Type_,c.At_,c.Live_,c.Held_,c.Array_,c.Size_.Kind_,c.Size_.Var_,c.Size_.K_,c.Size_.Block_) (d.Origin_,d.Type_,d.At_,d.Live_,d.Held_,d.Array_,d.Size_.Kind_,d.Size_.Var_,d.Size_.K_,d.Size_.Block_,(k:Int)) g2
    have hcr':qx (q8.mk c.Origin_ c.Type_ c.At_ c.Live_ c.Held_ c.Array_ c.Size_ c.Cells_)=_:=hcr
    rw [d1,d2,d3,d4,d5,d6,s1,s2,s3,s4] at hs2
    unfold q1d
    simp only [g1,g2,Option.bind_some,hcr',d1,d2,d3,d4,d5,d6,s1,s2,s3,s4]
    rw [if_pos (by rw [zt];simp;omega)]
    have hl2:(⟨c.Cells_.xs.map rs,nn⟩:Sl qi).len=(c.Cells_.xs.length:Int):=by rw [zt];simp
    rw [hl2] at hs2
    simp [g2,hlen,hl2,hs2]) (by
    unfold q1d
    simp only
    rw [if_neg (by rw [zt];simp)])
  rw [XY] at this
  simpa using this
theorem zf9 {V:Int}{x:Sl q8}{f:Sl Leq}{y:Sl qd}{r:Sl qe}(I:IV x V f) (R:RS x f y r) :
    q16 (V,V,x,f,y,r)=some (true,V,V,x,f,y,r):=by
  have h1:x.len=y.len:=by rw [zt,zt,R.len]
  have h2:f.len=r.len:=by rw [zt,zt,R.flen]
  unfold q16 q33
  simp only [h1,h2,ne_eq,not_true_eq_false,decide_false,Bool.false_eq_true,if_false,Option.bind_some]
  rw [← h2,zj4 R.fc I.lf,Option.bind_some]
  simp only [Sum.elim_inr]
  rw [zj5 I R]
  rfl
def op0:OpT:=⟨0,⟨0,0,0,0⟩,⟨0,0,0,0⟩,⟨0,0,0,0⟩,0,⟨0,0,0,false,false,false,⟨0,0,0,0⟩,⟨[],false⟩⟩,⟨[],false⟩⟩
theorem zj6 {x:Sl q8}{V:Int}{f:Sl Leq}(I:IV x V f) {V':Int}{y:Sl qd}{r:Sl qe} :
    qu (op0,V,V',x,f,y,r)=some (true,V,V',x,f,y,r):=by
  unfold qu q2p op0
  simp only [WC I,Option.bind_some]
  simp [Yi]
theorem zhk (wk:qw ()=some true) (a0 a1:Sl OpT) (h0:a0.xs.length≤140737488355328) (hg:∀ o∈a0.xs,OpG o) (h1:a1.xs.length≤140737488355328) (hg1:∀ o∈a1.xs,OpG o):q1p (a0,a1)=some true:=by
  unfold q1p q2k
  simp only
  rw [wk,Option.bind_some,if_neg (by decide),vm a0 30 (by omega) h0,Option.bind_some]
  obtain ⟨x,V,f,y,r,b1,I,R,b5,b4,b6⟩:=zdh (fn:=q4c qw qu qy qt q16)
    (fun j st=>(a1,⟨a0.xs.take (Int.toNat 30),a0.nn⟩,(⟨a0.xs.take (Int.toNat 30),a0.nn⟩:Sl OpT).len,j,st)) (fun st=>(a1,st)) ⟨a0.xs.take (Int.toNat 30),a0.nn⟩ (by simp;omega) (fun o ho=>hg o (List.mem_of_mem_take ho)) (fun _ _=>rfl)
    (a0.xs.take (Int.toNat 30)).length 0 ⟨[],false⟩ 1 ⟨[],false⟩ ⟨[],false⟩ ⟨[],false⟩ (by simp) iv0 rs0 (by simp;omega)
  simp only [Int.natCast_zero] at b1
  rw [b1,Option.bind_some]
  simp only
  rw [VW I,Option.bind_some,vm a1 30 (by omega) h1,Option.bind_some]
  simp only
  obtain ⟨y2,r2,ht,R2⟩:=zf7 I R
  have hx:x.xs.length≤30:=by
    have:(a0.xs.take (Int.toNat 30)).length≤30:=by simp;omega
    simp only [List.length_nil] at b4
    omega
  generalize hs:(⟨a1.xs.take (Int.toNat 30),a1.nn⟩:Sl OpT)=s
  have hsl:s.xs.length≤30:=by rw [← hs];simp;omega
  have hsg:∀ o∈s.xs,OpG o:=fun o ho=>hg1 o (by rw [← hs] at ho;exact List.mem_of_mem_take ho)
  have l1:=yJ (f:=q1l qw qu qy qt q16) (fun j=>(a1,s,s.len,j,V,V,V,x,f,y,r,x,f)) s.xs.length (by omega) (fun _=>false) (.inr (a1,V,V,V,x,f,y,r,x,f)) (.inl false) (fun j hj=>by
    have ho:=hsg _ (Z4 default hj)
    obtain ⟨x',V',f',y',r',a1,a2,a3,a4,a5,a6,a7,a8⟩:=za4 I R2 (by omega) (s.xs.getD j default) ho.1 ho.2
    have gj:zc s (j:Int)=some (s.xs.getD j default):=Zb default (by omega) (by omega)
    have st:=zj6 I (V':=V) (y:=y2) (r:=r2)
    unfold op0 at st
    unfold q1l
    simp only [gj,ht,st,VW I,a1,Option.bind_some,Bool.not_true,Bool.false_eq_true,if_false]
    rw [if_pos (by rw [zt];simp;omega)]) (by
    unfold q1l
    simp only
    rw [if_neg (by rw [zt];simp)])
  rw [XY] at l1
  simp only [Bool.false_eq_true,if_false] at l1
  rw [l1,Option.bind_some]
  simp only [Sum.elim_inr]
  rw [ht,Option.bind_some,vm a1 30 (by omega) h1,Option.bind_some,hs]
  have l2:∀ (m j:Nat) (xt:Sl q8) (Vt:Int) (ft:Sl Leq) (yt:Sl qd) (rt:Sl qe),j+m=s.xs.length→IV xt Vt ft→RS xt ft yt rt→xt.xs.length+m≤900→
      ∃ x' V' f' y' r',lpO (q1m qw qu qy qt q16) (s,s.len,(j:Int),V,V,Vt,Vt,x,f,y,r,xt,ft,yt,rt)=some (.inr (V,V,V',V',x,f,y,r,x',f',y',r'))∧IV x' V' f'∧RS x' f' y' r':=by
    intro m
    induction m with
    |zero=>
      intro j xt Vt ft yt rt hj It Rt hl
      refine ⟨xt,Vt,ft,yt,rt,?_,It,Rt⟩
      rw [Zx]
      unfold q1m
      simp only
      rw [if_neg (by rw [zt];simp;omega)]
      rfl
    |succ m ih=>
      intro j xt Vt ft yt rt hj It Rt hl
      have ho:=hsg _ (Z4 default (show j < s.xs.length by omega))
      obtain ⟨x',V',f',y',r',a1,a2,a3,a4,a5,a6,a7,a8⟩:=za4 It Rt (by omega) (s.xs.getD j default) ho.1 ho.2
      obtain ⟨x2,V2,f2,y2,r2,c1,c2,c3⟩:=ih (j+1) x' V' f' y' r' (by omega) a2 a3 (by omega)
      refine ⟨x2,V2,f2,y2,r2,?_,c2,c3⟩
      have gj:zc s (j:Int)=some (s.xs.getD j default):=Zb default (by omega) (by omega)
      rw [Zx]
      unfold q1m
      simp only [gj,a1,Option.bind_some,Bool.not_true,Bool.false_eq_true,if_false]
      rw [if_pos (by rw [zt];simp;omega)]
      simp only [Option.bind_some]
      rw [XD (by omega)]
      exact c1
  obtain ⟨x3,V3,f3,y3,r3,c1,c2,c3⟩:=l2 s.xs.length 0 x V f y2 r2 (by omega) I R2 (by omega)
  simp only [Int.natCast_zero] at c1
  simp only
  rw [c1,Option.bind_some]
  simp only [Sum.elim_inr]
  rw [zf9 I R,Option.bind_some]
  simp only [if_true]
  rw [zf9 c2 c3]
  rfl
end Go.Px
