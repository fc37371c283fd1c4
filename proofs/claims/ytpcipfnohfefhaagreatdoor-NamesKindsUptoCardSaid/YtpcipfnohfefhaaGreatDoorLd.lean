/- Part Ld: Px22PL Px22PM Px22PN Px22PO Px22PP Px22PQ Px2 -/
import Derived.Test.YtpcipfnohfefhaaGreatDoorLc
set_option linter.unusedVariables false
set_option linter.unusedSimpArgs false
namespace Go.Px
variable{A E R S α β:Type}{cs fs:List Nd}{i:Nat}{n:Nd}{t ts:List Tk}{I:Nat->A->Prop}{f:S->G3 (Step S R)}{l xs:List α}{p:α->Bool}{step:A->α->Except E A}
theorem U9:∀{a:Int},0<=a->↑a.toNat=a:=@Int.toNat_of_nonneg
theorem WY {st:Nat->S}{yes:Nat->R}{no:R}
    (h:∀ i (hi:i < xs.length),f (st i)=some (if p xs[i]=true then .done (yes i) else .next (st (i+1)))) (h0:f (st xs.length)=some (.done no)) :
    lpO f (st 0)=some ((xs.findIdx? p).elim no yes):=by
  have:∀ (n i:Nat),i+n=xs.length->lpO f (st i)=some (((xs.drop i).findIdx? p).elim no fun j=>yes (i+j)):=by
    intro n
    induction n with
    |zero=>
      intro i hi;rw [G6 (by omega),show i=xs.length by omega,zx h0];rfl
    |succ n ih=>
      intro i hi;have hlt:i < xs.length:=by omega
      have h1:=h i hlt;rw [Uo hlt,List.findIdx?_cons];by_cases hp:p xs[i]=true
      ·rw [jr hp] at h1;rw [zx h1,jr hp];rfl
      · rw [js hp] at h1;rw [zD h1,ih (i+1) (by omega),js hp];cases (xs.drop (i+1)).findIdx? p with
        |none=>rfl
        |some j=>grind
  have h2:=this xs.length 0 (by omega);simpa using h2
theorem zj2 {st:Nat->A->S}{fin:A->R}{er:E->R}
    (h:∀ i (hi:i < xs.length) a,I i a->f (st i a)=some (match step a xs[i] with | .ok a' =>.next (st (i+1) a') | .error e =>.done (er e)))
    (hI:∀ i (hi:i < xs.length) a a',I i a->step a xs[i] = .ok a'->I (i+1) a') (h0:∀ a,I xs.length a->f (st xs.length a)=some (.done (fin a))) {a:A} (ha:I 0 a) :
    lpO f (st 0 a)=some (match xs.foldlM step a with | .ok a'=>fin a' | .error e=>er e):=by
  have:∀ (n i:Nat) (a:A),i+n=xs.length->I i a->lpO f (st i a)=some (match (xs.drop i).foldlM step a with | .ok a'=>fin a' | .error e=>er e):=by
    intro n
    induction n with
    |zero=>
      intro i a hi ha;obtain rfl:i=xs.length:=by omega
      rw [G6 (GJ _),zx (h0 a ha)];rfl
    |succ n ih=>
      intro i a hi ha;have hlt:i < xs.length:=by omega
      have h1:=h i hlt a ha;rw [Uo hlt,List.foldlM_cons];cases hs:step a xs[i] with
      |error e=>rw [hs] at h1;rw [zx h1];rfl
      |ok a'=>rw [hs] at h1;rw [zD h1];exact ih (i+1) a' (by omega) (hI i hlt a a' ha hs)
  have h2:=this xs.length 0 a (by omega) ha;grind
theorem zbI:∀ (xs:List α) (k:Nat) (a:A),I k a->(∀ i (hi:i < xs.length) a a',I (k+i) a->step a xs[i] = .ok a'->I (k+i+1) a')->∀ b,xs.foldlM step a = .ok b->I (k+xs.length) b
 |[],k,a,h,_,b,e=>by cases e;exact h
 |x::xs,k,a,h,hs,b,e=>by
  rw [List.foldlM_cons] at e;cases h1:step a x with
  |error er=>rw [h1] at e;cases e
  |ok a'=>
   rw [h1] at e;have:=zbI xs (k+1) a' (hs 0 (by simp) a a' h h1) (fun i hi a b ha hb=>by have:=hs (i+1) (by simp;omega) a b (by grind) hb;grind) b e;grind
theorem zr {s:Sl α}(h:i < s.xs.length):zd s (i:Int)=some s.xs[i]:=by rw [wi];grind
theorem zu (s:Sl α):s.len=(s.xs.length:Int):=rfl
def idx (p:α->Bool) (l:List α):Int:=(l.findIdx? p).elim (-1) fun i=>(i:Int)
theorem xK: -1<=idx p l/\idx p l < l.length/\(0<=idx p l↔∃ x∈l,p x=true):=by
 unfold idx;cases h:l.findIdx? p with
 |none=>
  rw [List.findIdx?_eq_none_iff] at h;refine ⟨by simp,by grind,by grind⟩
 |some i=>
  obtain ⟨hi,hp,_⟩:=List.findIdx?_eq_some_iff_getElem.1 h;exact ⟨by grind,by grind,fun _=>⟨_,jx hi,hp⟩,fun _=>by simp⟩
theorem zdk (g:α->β) (p:β->Bool) (l:List α):idx p (l.map g)=idx (fun x=>p (g x)) l:=by
 unfold idx;rw [List.findIdx?_map];rfl
def zdl (n:Nd):Prop:=n.K_=nilS
def zdm:List (List UInt8):=[[99,111,117,110,116,101,100],[108,111,99,107],[103,117,97,114,100]]
def zhH (n:Nd):Prop:=n.k_=2/\((n.T_=lit [111,119,110]\/n.T_=lit [99,101,108,108])/\n.K_=nilS\/∃ w∈zdm,n.T_=lit w/\∃ k,n.K_=⟨[k],true⟩/\zdl k)
def zaF (n:Nd):Prop:=n.k_=3/\(n.K_=nilS\/∃ k,n.K_=⟨[k],true⟩/\zdl k)
def zbJ (n:Nd):Prop:=n.k_=4/\(n.T_=lit [60]\/n.T_=lit [60,61]\/n.T_=lit [61,61])/\∃ a b,n.K_=⟨[a,b],true⟩/\zdl a/\zdl b
def XW (n:Nd):Prop:=n.k_=1/\∃ s fs cs,n.K_=⟨s::(fs++cs),true⟩/\zhH s/\(∀ f∈fs,zaF f)/\∀ c∈cs,zbJ c
theorem Xm {w:List UInt8}(h:isP w ts=true):(hd ts).T_=lit w:=by
 unfold isP at h;grind
theorem zud (h:WA ts = .ok (n,t)):zhH n:=by
 unfold WA at h;split at h
 ·rename_i c;cases h;exact ⟨rfl,.inl ⟨.inl (Xm c),rfl⟩⟩
 split at h
 ·rename_i c;cases h;exact ⟨rfl,.inl ⟨.inr (Xm c),rfl⟩⟩
 split at h
 ·rename_i c;obtain ⟨k,t1,e,h⟩:=bd_ok h;cases h;exact ⟨rfl,.inr ⟨_,by simp [zdm],Xm c,k,rfl,zJ e⟩⟩
 split at h
 ·rename_i c;obtain ⟨k,t1,e,h⟩:=bd_ok h;cases h;exact ⟨rfl,.inr ⟨_,by simp [zdm],Xm c,k,rfl,zJ e⟩⟩
 split at h
 ·rename_i c;obtain ⟨k,t1,e,h⟩:=bd_ok h;cases h;exact ⟨rfl,.inr ⟨_,by simp [zdm],Xm c,k,rfl,zJ e⟩⟩
 ·cases h
theorem zrx (h:xh ts = .ok (n,t)):zaF n:=by
 obtain ⟨m,t1,em,h⟩:=bd_ok h;split at h
 ·obtain ⟨k,t2,ek,h⟩:=bd_ok h;obtain ⟨u,t3,_,h⟩:=bd_ok h;cases h;exact ⟨rfl,.inr ⟨k,rfl,zJ ek⟩⟩
 ·cases h;exact ⟨rfl,.inl rfl⟩
theorem zvH {s:G0}(h:zbB ts = .ok (s,t)):s=lit [60]\/s=lit [60,61]\/s=lit [61,61]:=by
 unfold zbB at h;split at h
 ·grind
 split at h
 ·grind
 split at h
 ·grind
 ·cases h
theorem zlw (h:Ym ts = .ok (n,t)):zbJ n/\n.n_=0:=by
 obtain ⟨a,t1,ea,h⟩:=bd_ok h;obtain ⟨op,t2,eo,h⟩:=bd_ok h;obtain ⟨b,t3,eb,h⟩:=bd_ok h;cases h;exact ⟨⟨rfl,zvH eo,a,b,rfl,Xx ea,Xx eb⟩,rfl⟩
theorem zfw {one:List Tk->PR Nd}{G:Nd->Prop}(hg:∀ ts n t,one ts = .ok (n,t)->G n):∀ (j:Nat) (acc:List Nd) (ts:List Tk) (l:List Nd) (t:List Tk),(∀ x∈acc,G x)->Zm one j acc ts = .ok (l,t)->∀ x∈l,G x
 |0,acc,ts,l,t,h,e=>by cases e;exact h
 |j+1,acc,ts,l,t,h,e=>by
  unfold Zm at e;split at e
  ·obtain ⟨a,t1,e1,e⟩:=bd_ok e;refine zfw hg j _ _ l t (fun x hx=>?_) e;grind
  grind
theorem zdn {one:List Tk->PR Nd}{G:Nd->Prop}(hg:∀ ts n t,one ts = .ok (n,t)->G n) {l:List Nd}(e:Z3 one ts = .ok (l,t)):∀ x∈l,G x:=by
 obtain ⟨a,t1,e1,e⟩:=bd_ok e;exact zfw hg _ _ _ l t (by grind) e
theorem zvI {a:Int}(h:zcJ a ts = .ok (n,t)):XW n:=by
 rw [zlv] at h;obtain ⟨m,t1,em,h⟩:=bd_ok h;obtain ⟨s,t2,es,h⟩:=bd_ok h;obtain ⟨ks,t3,e3,h⟩:=bd_ok h;obtain ⟨k2,t4,e4,h⟩:=bd_ok h;obtain ⟨u,t5,e5,h⟩:=bd_ok h;cases h;obtain ⟨fs,rfl,hf⟩:∃ fs,ks=s::fs/\∀ f∈fs,zaF f:=by
  unfold Wn at e3;split at e3
  ·obtain ⟨l,t6,e6,e3⟩:=bd_ok e3;obtain ⟨u,t7,_,e3⟩:=bd_ok e3;cases e3;exact ⟨l,rfl,zdn (fun _ _ _=>zrx) e6⟩
  grind
 obtain ⟨cs,rfl,hc⟩:∃ cs,k2=(s::fs)++cs/\∀ f∈cs,zbJ f:=by
  unfold zaE at e4;split at e4
  ·obtain ⟨l,t6,e6,e4⟩:=bd_ok e4;cases e4;exact ⟨l,rfl,zdn (fun _ _ _ h=>(zlw h).1) e6⟩
  ·cases e4;exact ⟨[],by simp,by simp⟩
 exact ⟨rfl,s,fs,cs,by simp,zud es,hf,hc⟩
abbrev PT:=qa
abbrev PF:=qp
abbrev PL:=qr
abbrev Er:=Int×Int
abbrev IxS (α γ:Type):=Sl α×Int×Int×γ
def ixL {γ:Type}(e:α->α) (f:α×γ->G3 (Bool×γ)):IxS α γ->G3 (Step (IxS α γ) (Int×γ⊕γ)):=fun y0=>
 if decide (y0.2.2.1 < y0.2.1)=true then (zd y0.1 y0.2.2.1).bind fun y1=>(f (e y1,y0.2.2.2)).bind fun y2=>
  if y2.1=true then some (Step.done (Sum.inl (y0.2.2.1,y2.2))) else some (Step.next (y0.1,y0.2.1,G4 (y0.2.2.1+1),y2.2))
 else some (Step.done (Sum.inr y0.2.2.2))
theorem zj3 {γ:Type}{e:α->α}(he:∀ x,e x=x) {f:α×γ->G3 (Bool×γ)}{c:γ}(hf:∀ x,f (x,c)=some (p x,c)) (s:Sl α) (hs:s.xs.length<=1000000) :
    ((lpO (ixL e f) (s,s.len,0,c)).bind fun y3=>Sum.elim (fun y4=>some y4) (fun y5=>some (-1,y5)) y3)=some (idx p s.xs,c):=by
  have:=WY (f:=ixL e f) (xs:=s.xs) (p:=p) (st:=fun i=>(s,s.len,(i:Int),c)) (yes:=fun i =>.inl ((i:Int),c)) (no :=.inr c)
    (fun i hi=>by
      simp only [ixL,jh];simp only [zu,zr hi,jf,he,hf];rw [jr (by omega),zL (by omega)]
      split <;> rfl)
    (by simp only [ixL,jh];rw [js (by rw [zu];omega)])
  rw [show ((0:Int))=((0:Nat):Int) from rfl,this];unfold idx;cases s.xs.findIdx? p <;> rfl
def idT (n:G0) (t:List PT):Int:=idx (fun x=>decide (x.N_=n)) t
def idN (n:G0) (l:List Nd):Int:=idx (fun x=>decide (x.T_=n)) l
theorem Vj (t:Sl PT) (n:G0) (ht:t.xs.length<=1000000):q23 (t,n)=some (idT n t.xs):=by
 show (((lpO (ixL id q5t) (t,t.len,0,n)).bind _).bind fun (y0:Int×G0)=>some y0.1)=_;rw [zj3 (e:=id) (fun _=>rfl) (p:=fun x:PT=>decide (x.N_=n)) (fun x=>rfl) t ht];rfl
def Za (fs:List Nd) (n:G0):Int:=idx (fun x=>decide (x.T_=n) && decide (x.K_.len=0)) fs
theorem vd (x:PT) (n:G0) (fs:Sl Nd) (hf:fs.xs.length<=1000000):q2p (x,n,fs)=some (Za fs.xs n):=by
 show (((lpO (ixL (fun y=>kg y) q47) (fs,fs.len,0,n)).bind _).bind fun (y0:Int×G0)=>some y0.1)=_;rw [zj3 zj (p:=fun x=>decide (x.T_=n) && decide (x.K_.len=0)) (fun x=>?_) fs hf];rfl;unfold q47 q6j;grind
theorem zpB (fs:Sl Nd) (n:G0) (hf:fs.xs.length<=1000000):q82 (fs,n)=some (decide (0<=idN n fs.xs)):=by
 show ((((lpO (ixL (fun y=>kg y) q9a) (fs,fs.len,0,n)).bind _).bind _).bind fun (y0:Bool×G0)=>some y0.1)=_;rw [zj3 zj (p:=fun x:Nd=>decide (x.T_=n)) (fun x=>rfl) fs hf];rfl
theorem Wo (b:Bool) (n:Nd) (e:Int):q51 (b,n,e)=some (if b=true then .inr () else .inl (n.a_,e)):=by cases b <;> rfl
def isK (k:Int) (n:Nd):Bool:=decide (n.k_=k)
def yS:List G0:=[lit [111,119,110],lit [99,101,108,108],lit [99,111,117,110,116,101,100],lit [108,111,99,107],lit [103,117,97,114,100]]
def zO (n:Nd):Nd:=n.K_.xs.headD VI
def YF (s:Nd) (fs:List Nd) (acc:List PF) (f:Nd):Except Er (List PF):=
 if 0<=idN f.T_ (fs.take acc.length) then .error (f.a_,30)
 else if f.K_.xs=[] then .ok (acc++[⟨f.T_, -1⟩])
 else if s.T_=lit [111,119,110]/\0<=Za fs (zO f).T_ then .ok (acc++[⟨f.T_,Za fs (zO f).T_⟩]) else .error (f.a_,32)
def xB (t:List PT) (s:Nd) (fs cs:List Nd):Except Er (Int×Int):=
 let k:=idx (fun w=>decide (s.T_=w)) yS
 let w:=(zO s).T_
 let o:=idT w t
 if k=2\/k=3 then (if 0<=Za fs w then .ok (k,Za fs w) else .error (s.a_,32))
 else if k=4 then (if 0<=o/\((t[o.toNat]?).elim 0 qa.S_)=3 then (if fs.length+cs.length=0 then .ok (k,o) else .error (s.a_,32)) else .error (s.a_,31))
 else .ok (k,0)
def yq (fs:List Nd) (so:Int×Int) (c k:Nd):Except Er Int:=
 if k.T_=lit [] then .ok 0 else if 0<=Za fs k.T_/\¬ ((so.1=2\/so.1=3)/\Za fs k.T_=so.2) then .ok (Za fs k.T_+1) else .error (c.a_,33)
def ve (c:G0) (a b k l:Int):List PL:=
 if c=lit [60] then [⟨a,b,G4 (G4 (l - k) - 1)⟩] else if c=lit [60,61] then [⟨a,b,G4 (l - k)⟩]
 else if c=lit [61,61] then [⟨a,b,G4 (l - k)⟩,⟨b,a,G4 (k - l)⟩] else []
def Vk (n:Nd):Nd:=zO ⟨0,lit [],0,0,⟨n.K_.xs.tail,true⟩⟩
def Yn (fs:List Nd) (so:Int×Int) (acc:List PL) (c:Nd):Except Er (List PL):=
 (yq fs so c (zO c)).bind fun v=>(yq fs so c (Vk c)).bind fun w =>.ok (acc++ve c.T_ v w (zO c).n_ (Vk c).n_)
def YX (t:List PT) (n:Nd):Except Er PT:=
 let fs:=n.K_.xs.filter (isK 3);let cs:=n.K_.xs.filter (isK 4)
 if 0<=idT n.T_ t then .error (n.a_,30) else if 8 < fs.length then .error (n.a_,22) else
 (fs.foldlM (YF (zO n) fs) []).bind fun fl=>(xB t (zO n) fs cs).bind fun so=>(cs.foldlM (Yn fs so) []).bind fun fa =>.ok ⟨n.T_,so.1,so.2,mkS fl,mkS fa⟩
def zaG (l:List Nd):Except Er (List PT):=l.foldlM (fun t k=>if k.k_=1 then (YX t k).bind fun x =>.ok (t++[x]) else .ok t) []
theorem xC {b:Nat}(hb:b<=1000000) {acc:List α}(h:acc.length+l.length<=100000):zp b (mkS acc) l=some (mkS (acc++l)):=by
 have:(acc.length+l.length) * b<=100000 * 1000000:=Nat.mul_le_mul h hb;rw [yY (by simp only [mkS];omega) (by simp only [mkS];omega)];cases acc <;> cases l <;> simp [mkS]
theorem zry (n:Nd) (h:n.K_.xs.length<=50000):q83 n=some (mkS (n.K_.xs.filter (isK 3)),mkS (n.K_.xs.filter (isK 4))):=by
 show ((lpO q6f (n.K_,n.K_.len,0,Sl.mk [] false,Sl.mk [] false)).bind fun y6=>some y6)=_
 have:=zj2 (E:=Er) (f:=q6f) (xs:=n.K_.xs) (A:=List Nd×List Nd) (step:=fun a k =>.ok (if isK 3 k then (a.1++[k],a.2) else if isK 4 k then (a.1,a.2++[k]) else a))
  (st:=fun i a=>(n.K_,n.K_.len,(i:Int),mkS a.1,mkS a.2)) (fin:=fun a=>(mkS a.1,mkS a.2)) (er:=fun _=>(mkS [],mkS [])) (I:=fun i a=>a.1.length<=i/\a.2.length<=i)
  (fun i hi a ha=>by
   unfold q6f;simp only [jh];simp only [zu,zr hi,jf,zj,isK];rw [jr (by omega)];have hw:=zL (k:=i) (by omega);by_cases h3:n.K_.xs[i].k_=3
   ·simp only [h3,jl,jo];rw [xC (by omega) (by simp;omega)];grind
   ·by_cases h4:n.K_.xs[i].k_=4
    ·simp (decide:=true) only [h4,jl,jk,jo,jm,jg];rw [xC (by omega) (by simp;omega)];grind
    grind)
  (fun i hi a a' ha e=>by
   cases e
   grind)
  (fun a _=>by unfold q6f;simp only [jh];rw [js (by rw [zu];omega)])
  (a:=([],[])) (by simp)
 have e:∀ (l a b:List Nd),l.foldlM (m:=Except Er) (fun (a:List Nd×List Nd) k =>.ok (if isK 3 k then (a.1++[k],a.2) else if isK 4 k then (a.1,a.2++[k]) else a)) (a,b) = .ok (a++l.filter (isK 3),b++l.filter (isK 4)):=by
  intro l
  induction l with
  |nil=>intro a b;simp;rfl
  |cons x l ih=>
   intro a b;rw [List.foldlM_cons];by_cases h3:isK 3 x=true
   ·have h4:isK 4 x=false:=by simp only [isK,jh] at h3 |-;simp [h3]
    simp only [h3,h4,jl,List.filter_cons,jg,jk];show List.foldlM _ (a++[x],b) l=_;rw [ih];simp
   ·by_cases h4:isK 4 x=true
    ·simp only [h3,h4,jl,List.filter_cons,jg,jk];show List.foldlM _ (a,b++[x]) l=_;rw [ih];simp
    ·simp only [h3,h4,jk,List.filter_cons,jg];show List.foldlM _ (a,b) l=_;rw [ih]
 rw [e] at this;simp only [Un] at this;rw [show (lpO q6f (n.K_,n.K_.len,0,Sl.mk [] false,Sl.mk [] false))=_ from this];rfl
theorem zpC (s:G0):q2e (Sl.mk [lit [111,119,110],lit [99,101,108,108],lit [99,111,117,110,116,101,100],lit [108,111,99,107],lit [103,117,97,114,100]] true,s)=some (idx (fun w=>decide (s=w)) yS):=by
 have:=WY (f:=q1g) (xs:=yS) (p:=fun w=>decide (s=w)) (st:=fun i=>(⟨yS,true⟩,s,Sl.len (⟨yS,true⟩:Sl G0),(i:Int))) (yes:=fun i =>.inl (i:Int)) (no :=.inr ())
  (fun i hi=>by
   have hi5:i < 5:=hi;unfold q1g;simp only [jh];simp only [zu,zr (s:=⟨yS,true⟩) hi,jf];rw [jr (by omega),zL (by omega)]
   split <;> rfl)
  (by unfold q1g;simp only [jh];rw [js (by show ¬ ((5:Int) < 5);omega)])
 show ((lpO q1g (⟨yS,true⟩,s,Sl.len (⟨yS,true⟩:Sl G0),((0:Nat):Int))).bind _)=_;rw [this];unfold idx;cases yS.findIdx? _ <;> rfl
theorem zm2 {s:Sl α}{t:Sl β}(ha:s.xs.length<=100000) (hb:t.xs.length<=100000):(G4 (s.len+t.len)=0)=(s.xs.length+t.xs.length=0):=by
 rw [zu,zu,zM (by omega) (by omega)];grind
theorem zrz {t:Sl PT}{s:Nd}{fs cs:Sl Nd}(hs:zhH s) (ht:t.xs.length<=100000) (hf:fs.xs.length<=100000) (hc:cs.xs.length<=100000) (nm:G0) (fl:Sl PF) (fa:Sl PL) :
    ∃ w:Er->(G0×Int×Int)×Sl PF×Sl PL,q3l (t,s,fs,cs,(nm,0,0),fl,fa)=some (match xB t.xs s fs.xs cs.xs with | .ok so =>.inr ((nm,so.1,so.2),fl,fa) | .error e =>.inl (e,w e)):=by
  unfold q3l q8y;rw [zpC];obtain ⟨kd,tx,nu,a,ks⟩:=s;have i0:idx (fun w=>decide (lit [111,119,110]=w)) yS=0:=by decide +kernel
  have i1:idx (fun w=>decide (lit [99,101,108,108]=w)) yS=1:=by decide +kernel
  have i2:idx (fun w=>decide (lit [99,111,117,110,116,101,100]=w)) yS=2:=by decide +kernel
  have i3:idx (fun w=>decide (lit [108,111,99,107]=w)) yS=3:=by decide +kernel
  have i4:idx (fun w=>decide (lit [103,117,97,114,100]=w)) yS=4:=by decide +kernel
  obtain ⟨_,hs⟩:=hs;simp only at hs;obtain ⟨rfl | rfl,rfl⟩ | ⟨w,hw,rfl,k,rfl,_⟩:=hs
  ·unfold xB;simp (decide:=true) only [i0,jf,jk,ji,jm,jg];exact ⟨fun _=>default,by grind⟩
  ·unfold xB;simp (decide:=true) only [i1,jf,jk,ji,jm,jg];exact ⟨fun _=>default,by grind⟩
  have g0:∀ (k:Nd),zd (⟨[k],true⟩:Sl Nd) 0=some k:=fun _=>rfl
  simp only [zdm,Ua,List.not_mem_nil,or_false] at hw;rcases hw with rfl | rfl | rfl
  · unfold xB;simp (decide:=true) only [i2,jf,jk,jl,ji,jm,jo,jg,g0,vd _ _ fs (by omega),Wo,zO,Up,jh];by_cases h:0<=Za fs.xs k.T_
    ·simp only [h,jl,ji,jf];exact ⟨fun _=>default,by grind⟩
    ·simp only [h,jk,jj,jf];exact ⟨fun _=>_,rfl⟩
  · unfold xB;simp (decide:=true) only [i3,jf,jk,jl,ji,jm,jo,jg,g0,vd _ _ fs (by omega),Wo,zO,Up,jh];by_cases h:0<=Za fs.xs k.T_
    ·simp only [h,jl,ji,jf];exact ⟨fun _=>default,by grind⟩
    ·simp only [h,jk,jj,jf];exact ⟨fun _=>_,rfl⟩
  · unfold xB;have hl:idT k.T_ t.xs < t.xs.length:=xK.2.1;simp (decide:=true) only [i4,jf,jk,jl,ji,jm,jo,jg,g0,Vj t _ (by omega),Wo,zO,Up,zm2 hf hc,jh];by_cases h:0<=idT k.T_ t.xs
    · obtain ⟨j,hj⟩:∃ j:Nat,idT k.T_ t.xs=j:=⟨_,(U9 h).symm⟩
      rw [hj] at hl;have hlt:j < t.xs.length:=by omega
      simp only [hj,show (0:Int)<=(j:Int) by omega,jl,GF,zr hlt,jf,Int.toNat_natCast,GI hlt,Option.elim_some];by_cases h3:t.xs[j].S_=3
      · simp only [h3,jl,ji,jf];by_cases h0:fs.xs.length+cs.xs.length=0
        ·simp only [zm2 hf hc,h0,jl,ji,jf];exact ⟨fun _=>default,by grind⟩
        ·simp only [zm2 hf hc,h0,jk,jj,jf];exact ⟨fun _=>_,rfl⟩
      ·simp only [h3,jk,jj,jf];exact ⟨fun _=>_,rfl⟩
    ·simp only [h,jk,false_and,jj,jf];exact ⟨fun _=>_,rfl⟩
theorem zpD {c:G0}(hc:c=lit [60]\/c=lit [60,61]\/c=lit [61,61]) (a b k l:Int):q84 (c,a,b,k,l)=some ⟨ve c a b k l,true⟩:=by
 unfold q84 qbv ve;rcases hc with rfl | rfl | rfl <;> simp (decide:=true) only [jl,jk,jf,jj,jo,jm,jg]
theorem VL (c:G0) (a b k l:Int):(ve c a b k l).length<=2:=by
 unfold ve;by_cases h1:c=lit [60]
 ·grind
 rw [js h1];by_cases h2:c=lit [60,61]
 all_goals grind
abbrev Hd:=G0×Int×Int
noncomputable abbrev zbK:=q73 q2p q51 q84
theorem zdZ {fs ks:Sl Nd}(hf:fs.xs.length<=100000) {k c:Nd}{L i:Int}(hi:i=0\/i=1) (hL:i < L) (hk:zd ks i=some k) (h:Hd) (fl:Sl PF) (fa:Sl PL) (v0 v1:Int) :
    zbK (fs,ks,L,i,h,fl,fa,c,v0,v1)=some (match yq fs.xs h.2 c k with
      | .error e =>.done (.inl (e,h,fl,fa))
      | .ok v =>.next (fs,ks,L,i+1,h,fl,fa,c,if k.T_=lit [] then v0 else if i=0 then v else v0,if k.T_=lit [] then v1 else if i=0 then v1 else v)):=by
  unfold zbK q73;have hl:Za fs.xs k.T_ < fs.xs.length:=xK.2.1;have hl0 : -1<=Za fs.xs k.T_:=xK.1;have hw:G4 (i+1)=i+1:=zM (by omega) (by omega);have hw2:G4 (Za fs.xs k.T_+1)=Za fs.xs k.T_+1:=zM (by omega) (by omega);simp only [jh];rw [jr hL];simp only [hk,jf,zj,vd _ _ fs (by omega),Wo,yq];by_cases ht:k.T_=lit []
  ·grind
  simp only [ht,jk];by_cases h0:0<=Za fs.xs k.T_
  case neg=>grind
  simp only [h0,jl,GF];have fin:((bif decide (i=1) then some (fs,ks,L,i,h,fl,fa,c,v0,Za fs.xs k.T_+1) else bif decide (i=0) then some (fs,ks,L,i,h,fl,fa,c,Za fs.xs k.T_+1,v1) else none):G3 (Sl Nd×Sl Nd×Int×Int×Hd×Sl PF×Sl PL×Nd×Int×Int))=some (fs,ks,L,i,h,fl,fa,c,if i=0 then Za fs.xs k.T_+1 else v0,if i=0 then v1 else Za fs.xs k.T_+1):=by
    grind
  by_cases h2:h.2.1=2
  · by_cases ho:Za fs.xs k.T_=h.2.2
    ·simp only [h2,ho,jl,true_or,jo,Um,jg,jk,jp,and_self,jf,jj,ji]
    ·simp only [h2,ho,jl,true_or,jm,U1,jk,jq,and_false,jf,jj,ji,hw,hw2,fin]
  · by_cases h3:h.2.1=3
    · by_cases ho:Za fs.xs k.T_=h.2.2
      ·simp (decide:=true) only [h3,ho,jl,or_true,jo,Um,jg,jk,jp,and_self,jf,jj,ji]
      ·simp (decide:=true) only [h3,ho,jl,or_true,jm,U1,jk,jq,and_false,jf,jj,ji,hw,hw2,fin]
    ·simp only [h2,h3,jl,or_self,false_and,U1,jk,jq,jf,jj,ji,hw,hw2,fin]
theorem zrA {fs:Sl Nd}(hf:fs.xs.length<=100000) {c:Nd}(hc:zbJ c) (h:Hd) (fl:Sl PF) (acc:List PL) (ha:acc.length<=50000) :
    q42 (c,fs,h,fl,mkS acc)=some (match Yn fs.xs h.2 acc c with | .error e =>.inl (e,h,fl,mkS acc) | .ok l =>.inr (h,fl,mkS l)):=by
  obtain ⟨_,ht,a,b,hk,_,_⟩:=hc;unfold q42 q9b;simp only [zj];simp only [hk];have b0:=zdZ (ks:=⟨[a,b],true⟩) (k:=a) (c:=c) (L:=2) hf (.inl rfl) (by omega) rfl h fl (mkS acc) 0 0;have ka:zO c=a:=by unfold zO;rw [hk];rfl
  have kb:Vk c=b:=by unfold Vk zO;rw [hk];rfl
  unfold Yn;rw [ka,kb,show Sl.len (⟨[a,b],true⟩:Sl Nd)=2 from rfl];cases e0:yq fs.xs h.2 c a with
  |error er=>rw [e0] at b0;rw [zx b0];rfl
  |ok v=>
    rw [e0] at b0;have b1:=zdZ (ks:=⟨[a,b],true⟩) (k:=b) (c:=c) (L:=2) hf (.inr rfl) (by omega) rfl h fl (mkS acc) v 0;have hv:(if a.T_=lit [] then (0:Int) else v)=v:=by
      split
      ·rename_i h0;unfold yq at e0;grind
      ·rfl
    simp only [jl,hv,ite_self] at b0;rw [zD b0];show ((lpO zbK (fs,⟨[a,b],true⟩,2,1,h,fl,mkS acc,c,v,0)).bind _)=_;cases e1:yq fs.xs h.2 c b with
    |error er=>rw [e1] at b1;rw [zx b1];rfl
    |ok w=>
      rw [e1] at b1;have hw:(if b.T_=lit [] then (0:Int) else w)=w:=by
        split
        ·rename_i h0;unfold yq at e1;grind
        ·rfl
      simp (decide:=true) only [jk,hw,ite_self] at b1;rw [zD b1,zx (y :=.inr (h,fl,mkS acc,c,v,w)) (by unfold zbK q73;simp only [zj];rfl)];have hln:(ve c.T_ v w a.n_ b.n_).length<=2:=VL _ _ _ _ _;simp only [jf,ji,hk,show zd (⟨[a,b],true⟩:Sl Nd) 0=some a from rfl,show zd (⟨[a,b],true⟩:Sl Nd) 1=some b from rfl,zpD ht,Except.bind];rw [xC (by omega) (by omega)];rfl
noncomputable abbrev zhI:=q74 q83 q23 q51 q82 q2p q3l q42
noncomputable abbrev zhJ:=q75 q83 q23 q51 q82 q2p q3l q42
theorem zkP {t:Sl PT}{cs:Sl Nd}(hf:fs.length<=20000) (hk:n.K_.xs≠[]) (hg:∀ f∈fs,zaF f) (z h:Hd) :
    lpO zhI (t,mkS fs,mkS fs,Sl.len (mkS fs),0,n,z,cs,h,mkS [])=some (match fs.foldlM (YF (zO n) fs) [] with | .error e =>.inl e | .ok l =>.inr (t,mkS fs,n,z,cs,h,mkS l)):=by
  have g0:zd n.K_ 0=some (zO n):=by
    unfold zO;cases hx:n.K_ with | mk xs nn=>rw [hx] at hk;cases xs with | nil=>grind | cons a r=>rfl
  have:=zj2 (f:=zhI) (xs:=fs) (step:=YF (zO n) fs) (st:=fun i a=>(t,mkS fs,mkS fs,Sl.len (mkS fs),(i:Int),n,z,cs,h,mkS a)) (fin:=fun a =>.inr (t,mkS fs,n,z,cs,h,mkS a)) (er :=.inl) (I:=fun i a=>a.length=i)
    (fun i hi a ha=>by
      unfold zhI q74;have hgi:=hg fs[i] (jx hi);have hw:=zL (k:=i) (by omega);simp only [jh];rw [jr (show ((i:Int) < Sl.len (mkS fs)) by show (i:Int) < (fs.length:Int);omega)];rw [zr (s:=mkS fs) hi,jf,wd (by omega) (by omega) (by show (i:Int)<=(fs.length:Int);omega),jf];simp only [Int.toNat_zero,Uq,Int.toNat_natCast,zj];rw [zpB _ _ (by simp;omega),jf];simp only [Wo,jf,YF,ha];show Option.bind (Sum.elim _ _ (if (!decide (0<=idN fs[i].T_ (fs.take i)))=true then _ else _)) _=_;by_cases h1:0<=idN fs[i].T_ (fs.take i)
      ·simp only [mkS,h1,jo,Um,jg,jk,jl,jj,jf]
      simp only [h1,jm,U1,jl,jk,ji];obtain ⟨_,hk0 | ⟨k,hk1,_⟩⟩:=hgi
      · have hkx:fs[i].K_.xs=[]:=by rw [hk0]
        have e0:zO fs[i]=VI:=by unfold zO;rw [hk0];rfl
        simp only [show (mkS fs).xs[i]=fs[i] from rfl];simp (decide:=true) only [hk0,show (nilS:Sl Nd).len=0 from rfl,jk,jl,ji,jf];rw [xC (by omega) (by simp;omega)];grind
      · have hkx:¬ fs[i].K_.xs=[]:=by rw [hk1];simp
        have e0:zO fs[i]=k:=by unfold zO;rw [hk1];rfl
        simp only [hkx,jk,e0];simp only [show (mkS fs).xs[i]=fs[i] from rfl];simp (decide:=true) only [hk1,show Sl.len (⟨[k],true⟩:Sl Nd)=1 from rfl,show zd (⟨[k],true⟩:Sl Nd) 0=some k from rfl,jk,jl,jf,vd _ _ (mkS fs) (show fs.length<=1000000 by omega),g0];by_cases h2:(zO n).T_=lit [111,119,110]
        · by_cases h3:0<=Za fs k.T_
          ·simp only [mkS,h2,h3,and_self,jo,jl,ji,jf];rw [show ({xs:=a,nn:= !a.isEmpty}:Sl PF)=mkS a from rfl,xC (by omega) (by simp;omega)];simp only [jf,ji,hw,mkS]
          ·simp only [mkS,h2,h3,and_false,jm,jg,jl,jk,jj,jf]
        ·simp only [h2,false_and,jg,jk,jj,jf])
    (fun i hi a a' ha e=>by
      unfold YF at e;split at e
      ·cases e
      split at e
      ·cases e;simp;omega
      split at e
      ·cases e;simp;omega
      ·cases e)
    (fun a _=>by
      unfold zhI q74;simp only [jh,zj]
      rw [js (show ¬ ((fs.length:Int) < Sl.len (mkS fs)) by show ¬ ((fs.length:Int) < (fs.length:Int));omega)])
    (a:=[]) rfl
  grind
theorem zkQ {fs:Sl Nd}(hf:fs.xs.length<=20000) (hc:cs.length<=20000) (hg:∀ c∈cs,zbJ c) (z h:Hd) (fl:Sl PF) :
    lpO zhJ (fs,mkS cs,Sl.len (mkS cs),0,z,h,fl,mkS [])=some (match cs.foldlM (Yn fs.xs h.2) [] with | .error e =>.inl e | .ok l =>.inr (z,h,fl,mkS l)):=by
  have:=zj2 (f:=zhJ) (xs:=cs) (step:=Yn fs.xs h.2) (st:=fun i a=>(fs,mkS cs,Sl.len (mkS cs),(i:Int),z,h,fl,mkS a)) (fin:=fun a =>.inr (z,h,fl,mkS a)) (er :=.inl) (I:=fun i a=>a.length<=2 * i)
    (fun i hi a ha=>by
      unfold zhJ q75;have hw:=zL (k:=i) (by omega);simp only [jh];rw [jr (show ((i:Int) < Sl.len (mkS cs)) by show (i:Int) < (cs.length:Int);omega),zr (s:=mkS cs) hi];simp only [jf,zj,show (mkS cs).xs[i]=cs[i] from rfl];rw [zrA (by omega) (hg cs[i] (jx hi)) h fl a (by omega)];simp only [jf];cases Yn fs.xs h.2 a cs[i] with
      |error e=>rfl
      |ok l=>simp only [ji,hw])
    (fun i hi a a' ha e=>by
      unfold Yn at e;cases e1:yq fs.xs h.2 cs[i] (zO cs[i]) with
      |error er=>rw [e1] at e;cases e
      |ok v=>
        cases e2:yq fs.xs h.2 cs[i] (Vk cs[i]) with
        |error er=>rw [e1,e2] at e;cases e
        |ok w=>
          rw [e1,e2] at e;cases e;have:=VL cs[i].T_ v w (zO cs[i]).n_ (Vk cs[i]).n_
          simp only [jt];omega)
    (fun a _=>by
      unfold zhJ q75;simp only [jh]
      rw [js (show ¬ ((cs.length:Int) < Sl.len (mkS cs)) by show ¬ ((cs.length:Int) < (cs.length:Int));omega)])
    (a:=[]) (by simp)
  rw [show (0:Int)=((0:Nat):Int) from rfl,this];cases cs.foldlM (Yn fs.xs h.2) [] <;> rfl
theorem zcS (h:XW n):∃ s fs cs,n.K_=⟨s::(fs++cs),true⟩/\n.K_.xs.filter (isK 3)=fs/\n.K_.xs.filter (isK 4)=cs/\zhH s/\(∀ f∈fs,zaF f)/\∀ c∈cs,zbJ c:=by
 obtain ⟨_,s,fs,cs,hk,hs,hf,hc⟩:=h;refine ⟨s,fs,cs,hk,?_,?_,hs,hf,hc⟩
 ·rw [hk];have h1:fs.filter (isK 3)=fs:=List.filter_eq_self.2 fun f h=>by simp [isK,(hf f h).1]
  have h2:cs.filter (isK 3)=[]:=List.filter_eq_nil_iff.2 fun c h=>by simp [isK,(hc c h).1]
  simp only [List.filter_cons,List.filter_append,h1,h2,isK,hs.1,List.append_nil];rfl
 ·rw [hk];have h1:fs.filter (isK 4)=[]:=List.filter_eq_nil_iff.2 fun f h=>by simp [isK,(hf f h).1]
  have h2:cs.filter (isK 4)=cs:=List.filter_eq_self.2 fun c h=>by simp [isK,(hc c h).1]
  simp only [List.filter_cons,List.filter_append,h1,h2,isK,hs.1];rfl
theorem zue {t:Sl PT}(hg:XW n) (ht:t.xs.length<=20000) (hn:n.K_.xs.length<=20000) :
    q4s (t,n)=some (match YX t.xs n with | .error e =>.inl e | .ok x =>.inr ((x.N_,x.S_,x.o_),x.J_,x.f_)):=by
  unfold q4s q9c;simp only [zj];rw [zry n (by omega)];obtain ⟨s,fs,cs,hk,hf3,hc4,hs,hf,hc⟩:=zcS hg;have hks:zO n=s:=by unfold zO;rw [hk];rfl
  have hlen:(s::(fs++cs)).length<=20000:=by have:=hn;rw [hk] at this;exact this
  simp only [ju,jt] at hlen;unfold YX;rw [hf3,hc4];simp only [jf,Vj t _ (by omega),Wo,jh];by_cases h0:0<=idT n.T_ t.xs
  ·simp only [show ¬ (idT n.T_ t.xs < 0) by omega,h0,jl,jk,jj]
  simp only [show idT n.T_ t.xs < 0 by omega,h0,jl,jk,ji];by_cases h8:8 < fs.length
  ·simp only [show ¬ (Sl.len (mkS fs)<=8) by show ¬ ((fs.length:Int)<=8);omega,h8,jl,jk,jj]
  simp only [show Sl.len (mkS fs)<=8 by show (fs.length:Int)<=8;omega,h8,jl,jk,ji];rw [show (Sl.mk [] false:Sl PF)=mkS [] from rfl,zkP (by omega) (by rw [hk];simp) hf];simp only [jf];cases e1:fs.foldlM (YF (zO n) fs) [] with
  |error e=>rfl
  |ok fl=>
    simp only [ji,Except.bind];rw [show zd n.K_ 0=some s by rw [hk];rfl,hks];simp only [jf,zj];obtain ⟨w,hw⟩:=zrz (t:=t) (s:=s) (fs:=mkS fs) (cs:=mkS cs) hs (by omega) (show fs.length<=100000 by omega) (show cs.length<=100000 by omega) n.T_ (mkS fl) (Sl.mk [] false);rw [hw];simp only [jf,show (mkS fs).xs=fs from rfl,show (mkS cs).xs=cs from rfl];cases e2:xB t.xs s fs cs with
    |error e=>rfl
    |ok so=>
      simp only [ji];rw [show (Sl.mk [] false:Sl PL)=mkS [] from rfl];rw [zkQ (fs:=mkS fs) (show fs.length<=20000 by omega) (by omega) hc _ (n.T_,so.1,so.2)];simp only [jf,show (mkS fs).xs=fs from rfl];cases e3:cs.foldlM (Yn fs (so.1,so.2)) [] with
      |error e=>rfl
      |ok l=>rfl
theorem VM {st:Nat->A->S}{fin:A->R}{er:A->E->R}
    (h:∀ i (hi:i < xs.length) a,I i a->f (st i a)=some (match step a xs[i] with | .ok a' =>.next (st (i+1) a') | .error e =>.done (er a e)))
    (hI:∀ i (hi:i < xs.length) a a',I i a->step a xs[i] = .ok a'->I (i+1) a') (h0:∀ a,I xs.length a->f (st xs.length a)=some (.done (fin a))) {a:A} (ha:I 0 a) :
    match xs.foldlM step a with | .ok a'=>lpO f (st 0 a)=some (fin a')/\I xs.length a' | .error e=>∃ (i:Nat) (a':A),I i a'/\i < xs.length/\lpO f (st 0 a)=some (er a' e):=by
  have:∀ (n i:Nat) (a:A),i+n=xs.length->I i a->match (xs.drop i).foldlM step a with | .ok a'=>lpO f (st i a)=some (fin a')/\I xs.length a' | .error e=>∃ (j:Nat) (a':A),I j a'/\j < xs.length/\lpO f (st i a)=some (er a' e):=by
    intro n
    induction n with
    |zero=>
      intro i a hi ha;obtain rfl:i=xs.length:=by omega
      rw [G6 (GJ _)];exact ⟨zx (h0 a ha),ha⟩
    |succ n ih=>
      intro i a hi ha;have hlt:i < xs.length:=by omega
      have h1:=h i hlt a ha;rw [Uo hlt,List.foldlM_cons];cases hs:step a xs[i] with
      |error e=>rw [hs] at h1;exact ⟨i,a,ha,hlt,zx h1⟩
      |ok a'=>
        rw [hs] at h1;rw [zD h1];exact ih (i+1) a' (by omega) (hI i hlt a a' ha hs)
  have h2:=this xs.length 0 a (by omega) ha
  rwa [Uq] at h2
noncomputable abbrev zfx:=qac q4s q6c q5e
theorem zrB (hg:∀ k∈n.K_.xs,k.k_=1->XW k/\k.K_.xs.length<=20000) (hn:n.K_.xs.length<=20000) :
    q3f n=some (match zaG n.K_.xs with | .error e=>(e.1,e.2,nilS) | .ok t=>(0,0,mkS t)):=by
  have:=VM (f:=zfx) (xs:=n.K_.xs) (step:=fun t k=>if k.k_=1 then (YX t k).bind fun x =>.ok (t++[x]) else .ok t) (st:=fun i a=>(n.K_,n.K_.len,(i:Int),n,0,0,mkS a))
    (fin:=fun a =>.inr (n,0,0,mkS a)) (er:=fun a e =>.inl (e,n,0,0,mkS a)) (I:=fun i a=>a.length<=i)
    (fun i hi a ha=>by
      unfold zfx qac;have hw:=zL (k:=i) (by omega);simp only [jh,zj];rw [jr (show ((i:Int) < Sl.len n.K_) by show (i:Int) < (n.K_.xs.length:Int);omega),zr hi];simp only [jf,zj];by_cases h1:n.K_.xs[i].k_=1
      · obtain ⟨g1,g2⟩:=hg _ (jx hi) h1;simp only [h1,jl];rw [zue g1 (show a.length<=20000 by omega) g2];simp only [show (mkS a).xs=a from rfl];cases YX a n.K_.xs[i] with
        |error e=>simp only [jf,jj,ZC];rfl
        |ok x=>
          simp only [jf,ji,Except.bind];rw [show qa.mk x.N_ x.S_ x.o_ x.J_ x.f_=x from rfl,xC (by omega) (by simp;omega)];simp only [jf,ji,ZC,hw]
      ·simp only [h1,jk,jf,ji,hw])
    (fun i hi a a' ha e=>by
      split at e
      · cases e1:YX a n.K_.xs[i] with
        |error er=>rw [e1] at e;cases e
        |ok x=>rw [e1] at e;cases e;simp;omega
      ·cases e;omega)
    (fun a _=>by
      unfold zfx qac;simp only [jh,zj]
      rw [js (show ¬ ((n.K_.xs.length:Int) < Sl.len n.K_) by show ¬ ((n.K_.xs.length:Int) < (n.K_.xs.length:Int));omega)])
    (a:=[]) (by simp)
  unfold q3f qbw;simp only [zj];show ((lpO zfx (n.K_,n.K_.len,((0:Nat):Int),n,0,0,mkS [])).bind _)=_;unfold zaG;cases e:n.K_.xs.foldlM (m:=Except Er) (fun t k=>if k.k_=1 then (YX t k).bind fun x =>.ok (t++[x]) else .ok t) [] with
  |error er=>
    rw [e] at this;obtain ⟨j,a,_,_,h⟩:=this;rw [h];rfl
  |ok t=>
    rw [e] at this;rw [this.1];rfl
abbrev RTy:=qc
def rF (x:PF):qk:=⟨x.N_,x.U_⟩
def rQ (x:PL):qq:=⟨x.X_,x.Y_,x.C_⟩
def slm (f:α->β) (s:Sl α):Sl β:=⟨s.xs.map f,s.nn⟩
def rT (x:PT):RTy:=⟨x.N_,x.S_,x.o_,slm rF x.J_,slm rQ x.f_⟩
theorem zpE (f:α->β) (l:List α):slm f (mkS l)=mkS (l.map f):=by cases l <;> rfl
theorem Yu (l:List α):(mkS l).len=(l.length:Int):=rfl
theorem xL {f:α->β}(h:i < l.length):zd (mkS (l.map f)) (i:Int)=some (f l[i]):=by
 rw [zr (s:=mkS (l.map f)) (by simpa [mkS] using h)];simp [mkS]
theorem ZG (n:Nd):(rN n).T_=n.T_:=by rw [yg]
theorem XA (n:Nd):(rN n).k_=n.k_:=by rw [yg]
theorem YG (n:Nd):(rN n).a_=n.a_:=by rw [yg]
theorem zuf (n:Nd):(rN n).n_=n.n_:=by rw [yg]
theorem zV (n:Nd):(rN n).K_=⟨n.K_.xs.map rN,n.K_.nn⟩:=by rw [yg,yj]
theorem zcT (t:List PT) (n:G0) (ht:t.length<=1000000):q17 (mkS (t.map rT),n)=some (idT n t):=by
 have:=WY (f:=q48) (xs:=t) (p:=fun x=>decide (x.N_=n)) (st:=fun i=>(mkS (t.map rT),n,(i:Int))) (yes:=fun i =>.inl (i:Int)) (no :=.inr ())
  (fun i hi=>by
   unfold q48;simp only [jh,Yu,Uy];rw [jr (by omega),xL hi,jf,zL (by omega)]
   by_cases h:t[i].N_=n <;> simp [h,rT])
  (by unfold q48;simp only [jh,Yu,Uy];grind)
 show ((lpO q48 (mkS (t.map rT),n,((0:Nat):Int))).bind _)=_;rw [this];unfold idT idx;cases t.findIdx? _ <;> rfl
theorem vf (fs:List Nd) (n:G0) (hf:fs.length<=1000000):q19 (mkS (fs.map rN),n)=some (Za fs n):=by
 have:=WY (f:=q3n) (xs:=fs) (p:=fun x=>decide (x.T_=n) && decide (x.K_.len=0)) (st:=fun i=>(mkS (fs.map rN),n,(i:Int))) (yes:=fun i =>.inl (i:Int)) (no :=.inr ())
  (fun i hi=>by
   unfold q3n;simp only [jh,Yu,Uy];rw [jr (by omega),xL hi];simp only [jf,ZG,zV];have hl:Sl.len (⟨fs[i].K_.xs.map rN,fs[i].K_.nn⟩:Sl RNd)=fs[i].K_.len:=by simp [Sl.len]
   have hw:=zL (k:=i) (by omega);rw [hl];by_cases h:fs[i].T_=n
   ·by_cases h2:fs[i].K_.len=0 <;> simp only [h,h2,jl,jk,jo,jm,jf,Bool.and_self,Bool.and_false,jg,hw]
   grind)
  (by unfold q3n;simp only [jh,Yu,Uy];grind)
 show ((lpO q3n (mkS (fs.map rN),n,((0:Nat):Int))).bind _)=_;rw [this];unfold Za idx;cases fs.findIdx? _ <;> rfl
theorem zvJ {acc:List Nd}{x:Nd}(h:acc.length<=50000):zp 64 (mkS (acc.map rN)) [rN x]=some (mkS ((acc++[x]).map rN)):=by
 rw [xC (by omega) (by simp;omega)];simp
theorem zj4 (n:Nd) (k:Int) (h:n.K_.xs.length<=40000):q1a (rN n,k)=some (mkS ((n.K_.xs.filter (isK k)).map rN)):=by
 have:=VM (E:=Er) (f:=q5f) (xs:=n.K_.xs) (A:=List Nd) (step:=fun a x =>.ok (if isK k x then a++[x] else a)) (st:=fun i a=>(k,(i:Int),rN n,mkS (a.map rN))) (fin:=fun a=>mkS (a.map rN)) (er:=fun _ _=>mkS []) (I:=fun i a=>a.length<=i)
  (fun i hi a ha=>by
   unfold q5f;simp only [jh,zt];have hg:zd (rN n).K_ (i:Int)=some (rN n.K_.xs[i]):=by rw [zV,zr (by simpa using hi)];simp
   rw [jr (by rw [zV];simp [Sl.len];omega),hg];simp only [jf,XA,isK,jh];have hw:=zL (k:=i) (by omega);by_cases h2:n.K_.xs[i].k_=k
   ·simp only [h2,jl];rw [zvJ (by omega)];grind
   grind)
  (fun i hi a a' ha e=>by grind)
  (fun a _=>by unfold q5f;simp only [jh];rw [js (by rw [zV];simp [Sl.len])])
  (a:=[]) (by simp)
 have e:∀ (l a:List Nd),l.foldlM (m:=Except Er) (fun (a:List Nd) x =>.ok (if isK k x then a++[x] else a)) a = .ok (a++l.filter (isK k)):=by
  intro l
  induction l with
  |nil=>intro a;simp;rfl
  |cons x l ih=>
   intro a;rw [List.foldlM_cons];show List.foldlM _ (if isK k x then a++[x] else a) l=_;grind
 rw [e] at this;unfold q1a q7l;simp only [zt];rw [show (0:Int)=((0:Nat):Int) from rfl,show (Sl.mk [] false:Sl RNd)=mkS (([]:List Nd).map rN) from rfl,this.1];simp
theorem zhK {acc:List PL}{x:PL}(h:acc.length<=50000):zp 24 (mkS (acc.map rQ)) [rQ x]=some (mkS ((acc++[x]).map rQ)):=by
 rw [xC (by omega) (by simp;omega)];simp
theorem zpF {c:G0}(hc:c=lit [60]\/c=lit [60,61]\/c=lit [61,61]) (a b k l:Int):q18 (c,a,b,k,l)=some (mkS ((ve c a b k l).map rQ)):=by
 unfold q18 q6k ve;rcases hc with rfl | rfl | rfl
 ·simp (decide:=true) only [jl,jk,jf,jo,jm,jg];rfl
 ·simp (decide:=true) only [jl,jk,jf,jo,jm,jg];rw [show (Sl.mk [] false:Sl qq)=mkS (([]:List PL).map rQ) from rfl,show qq.mk a b (G4 (l - k))=rQ ⟨a,b,G4 (l - k)⟩ from rfl,zhK (by simp)];rfl
 ·simp (decide:=true) only [jl,jk,jf,jo,jm,jg];rw [show (Sl.mk [] false:Sl qq)=mkS (([]:List PL).map rQ) from rfl,show qq.mk a b (G4 (l - k))=rQ ⟨a,b,G4 (l - k)⟩ from rfl,zhK (by simp)];simp only [jf];rw [show qq.mk b a (G4 (k - l))=rQ ⟨b,a,G4 (k - l)⟩ from rfl,zhK (by simp)];rfl
noncomputable abbrev zm3:=q4k q1a q17 q19 q18
noncomputable abbrev zj5:=q3q q1a q17 q19 q18
noncomputable abbrev zm4:=q8d q1a q17 q19 q18
noncomputable abbrev zm5:=q4l q1a q17 q19 q18
noncomputable abbrev zj6:=q39 q1a q17 q19 q18
theorem zug (hi:i<=fs.length) (hf:fs.length<=20000) (f:Nd) (T:Sl RTy) (z:Hd) (cs:Sl RNd) (s:RNd) (h:Hd) (fl:Sl qk) :
    lpO zm3 ((i:Int),0,T,z,mkS (fs.map rN),cs,s,h,rN f,fl)=some (if 0<=idN f.T_ (fs.take i) then .inl (f.a_,30,T,h,fl) else .inr ((i:Int),T,z,mkS (fs.map rN),cs,s,h,rN f,fl)):=by
  have hl:(fs.take i).length=i:=by simp;omega
  have:=WY (f:=zm3) (xs:=fs.take i) (p:=fun x=>decide (x.T_=f.T_)) (st:=fun k=>((i:Int),(k:Int),T,z,mkS (fs.map rN),cs,s,h,rN f,fl)) (yes:=fun _ =>.inl (f.a_,30,T,h,fl)) (no :=.inr ((i:Int),T,z,mkS (fs.map rN),cs,s,h,rN f,fl))
    (fun k hk=>by
      rw [hl] at hk;unfold zm3 q4k;simp only [jh,zt];rw [jr (by omega),xL (by omega)];simp only [jf,ZG,YG,List.getElem_take];rw [zL (by omega)]
      grind)
    (by unfold zm3 q4k;simp only [jh,zt,hl];grind)
  rw [show (0:Int)=((0:Nat):Int) from rfl,this];unfold idN idx;cases (fs.take i).findIdx? _ with
  |none=>simp
  |some j=>simp
theorem zsx {acc:List PF}{x:PF}(h:acc.length<=50000):zp 24 (mkS (acc.map rF)) [rF x]=some (mkS ((acc++[x]).map rF)):=by
 rw [xC (by omega) (by simp;omega)];simp
theorem zuh (hf:fs.length<=20000) (s:Nd) (hg:∀ f∈fs,zaF f) (T:Sl RTy) (z:Hd) (cs:Sl RNd) (h:Hd) :
    match fs.foldlM (YF s fs) [] with
    | .ok l=>lpO zj5 (0,T,z,mkS (fs.map rN),cs,rN s,h,mkS [])=some (.inr (T,z,mkS (fs.map rN),cs,rN s,h,mkS (l.map rF)))
    | .error e=>∃ w,lpO zj5 (0,T,z,mkS (fs.map rN),cs,rN s,h,mkS [])=some (.inl (e.1,e.2,T,h,w)):=by
  have:=VM (f:=zj5) (xs:=fs) (step:=YF s fs) (st:=fun i a=>((i:Int),T,z,mkS (fs.map rN),cs,rN s,h,mkS (a.map rF))) (fin:=fun a =>.inr (T,z,mkS (fs.map rN),cs,rN s,h,mkS (a.map rF))) (er:=fun a e =>.inl (e.1,e.2,T,h,mkS (a.map rF))) (I:=fun i a=>a.length=i)
    (fun i hi a ha=>by
      unfold zj5 q3q;have hgi:=hg fs[i] (jx hi);have hw:=zL (k:=i) (by omega);simp only [jh,zt,Yu,Uy];rw [jr (by omega),xL hi];simp only [jf];have h0:=zug (i:=i) (Nat.le_of_lt hi) hf fs[i] T z cs (rN s) h (mkS (a.map rF));rw [show lpO (q4k q1a q17 q19 q18) ((i:Int),0,T,z,mkS (fs.map rN),cs,rN s,h,rN fs[i],mkS (a.map rF))=_ from h0];simp only [jf,YF,ha];by_cases h1:0<=idN fs[i].T_ (fs.take i)
      ·grind
      simp only [h1,jk,ji];obtain ⟨_,hk0 | ⟨k,hk1,_⟩⟩:=hgi
      · have hkl:(rN fs[i]).K_.len=0:=by rw [zV,hk0];rfl
        simp (decide:=true) only [hkl,jk,ji,jf,ZG,show qk.mk fs[i].T_ (-1)=rF ⟨fs[i].T_, -1⟩ from rfl];rw [zsx (by omega)];grind
      · have hkx:¬ fs[i].K_.xs=[]:=by rw [hk1];simp
        have e0:zO fs[i]=k:=by unfold zO;rw [hk1];rfl
        have hkl:(rN fs[i]).K_=⟨[rN k],true⟩:=by rw [zV,hk1];rfl
        simp only [hkx,jk,e0];simp (decide:=true) only [hkl,show Sl.len (⟨[rN k],true⟩:Sl RNd)=1 from rfl,show zd (⟨[rN k],true⟩:Sl RNd) 0=some (rN k) from rfl,jl,jf,ZG,YG,vf fs _ (show fs.length<=1000000 by omega)];by_cases h2:s.T_=lit [111,119,110]
        · by_cases h3:0<=Za fs k.T_
          ·simp only [ZG,h2,h3,Ui,jp,jk,and_self,jl,show ¬ (Za fs k.T_ < 0) by omega,jg,ji,jf,jm,show qk.mk fs[i].T_ (Za fs k.T_)=rF ⟨fs[i].T_,Za fs k.T_⟩ from rfl];rw [zsx (by omega)];grind
          ·simp only [YG,h2,h3,Ui,jp,jk,and_false,jl,show Za fs k.T_ < 0 by omega,jj,jf,jo]
        ·simp only [YG,h2,Ui,jq,jl,false_and,jk,jj,jf])
    (fun i hi a a' ha e=>by
      unfold YF at e;split at e
      all_goals grind)
    (fun a _=>by
      unfold zj5 q3q;simp only [jh,zt,Yu,Uy]
      grind)
    (a:=[]) rfl
  cases e:fs.foldlM (YF s fs) [] with
  |error er=>grind
  |ok l=>grind
def spc (so:Int×Int):Int:=if so.1=2\/so.1=3 then so.2 else -1
theorem zlx (hf:fs.length<=20000) (hi:i < cs.length) {k:Nd}{j:Int}(hj:j=0\/j=1) (hk:zd (rN cs[i]).K_ j=some (rN k)) (T:Sl RTy) (z h:Hd) (v0 v1:Int) (w:Sl qk) (q:Sl qq) :
    zm4 (spc h.2,(i:Int),j,T,z,mkS (fs.map rN),mkS (cs.map rN),h,⟨[v0,v1],true⟩,w,q)=some (match yq fs h.2 cs[i] k with
      | .error e =>.done (.inl (e.1,e.2,T,h,w,q))
      | .ok v =>.next (spc h.2,(i:Int),j+1,T,z,mkS (fs.map rN),mkS (cs.map rN),h,⟨[if k.T_=lit [] then v0 else if j=0 then v else v0,if k.T_=lit [] then v1 else if j=0 then v1 else v],true⟩,w,q)):=by
  unfold zm4 q8d;have hl:Za fs k.T_ < fs.length:=xK.2.1;have hl0 : -1<=Za fs k.T_:=xK.1;have hw:G4 (j+1)=j+1:=zM (by omega) (by omega);have hw2:G4 (Za fs k.T_+1)=Za fs k.T_+1:=zM (by omega) (by omega);have hv:∀ x y:Int,∃ u,zd (⟨[x,y],true⟩:Sl Int) j=some u:=fun x y=>by rcases hj with rfl | rfl <;> exact ⟨_,rfl⟩
  have hs:∀ x y u:Int,Sl.set (⟨[x,y],true⟩:Sl Int) j u=⟨[if j=0 then u else x,if j=0 then y else u],true⟩:=fun x y u=>by rcases hj with rfl | rfl <;> rfl
  simp only [jh];rw [jr (by omega),xL hi];simp only [jf,hk,ZG,YG,vf fs _ (show fs.length<=1000000 by omega),yq];by_cases ht:k.T_=lit []
  ·grind
  simp only [ht,jk];by_cases h0:0<=Za fs k.T_
  case neg=>simp only [xL hi,YG,show Za fs k.T_ < 0 by omega,h0,jl,jk,false_and,jf,ji]
  have hsp:(Za fs k.T_=spc h.2)=((h.2.1=2\/h.2.1=3)/\Za fs k.T_=h.2.2):=by
    unfold spc;grind
  obtain ⟨u,hu⟩:=hv v0 v1;by_cases hc:(h.2.1=2\/h.2.1=3)/\Za fs k.T_=h.2.2
  ·simp only [xL hi,YG,show ¬ (Za fs k.T_ < 0) by omega,h0,jk,GF,hsp,eq_true hc,jl,jp,and_self,jo,jf,ji]
  ·simp only [show ¬ (Za fs k.T_ < 0) by omega,h0,jk,GF,hsp,eq_false hc,jl,jq,jm,jg,jf,jj,hu,hs,hw,hw2]
theorem zui (sp:Int) (i:Int) (T:Sl RTy) (z h:Hd) (fs cs:Sl RNd) (fl:Sl qk) (l acc:List PL) (ha:acc.length+l.length<=50000) :
    lpO zm5 (sp,i,0,T,z,fs,cs,h,mkS (l.map rQ),fl,mkS (acc.map rQ))=some (sp,i,T,z,fs,cs,h,fl,mkS ((acc++l).map rQ)):=by
  have:=VM (E:=Er) (f:=zm5) (xs:=l) (step:=fun a x =>.ok (a++[x])) (st:=fun k a=>(sp,i,(k:Int),T,z,fs,cs,h,mkS (l.map rQ),fl,mkS (a.map rQ))) (fin:=fun a=>(sp,i,T,z,fs,cs,h,fl,mkS (a.map rQ))) (er:=fun a _=>(sp,i,T,z,fs,cs,h,fl,mkS (a.map rQ))) (I:=fun k a=>a.length=acc.length+k)
    (fun k hk a ha=>by
      unfold zm5 q4l;simp only [jh,Yu,Uy];rw [jr (by omega),xL hk];simp only [jf]
      rw [zhK (by omega),jf,zL (by omega)])
    (fun k hk a a' ha e=>by grind)
    (fun a _=>by unfold zm5 q4l;simp only [jh,Yu,Uy];grind)
    (a:=acc) rfl
  have e:∀ (l a:List PL),l.foldlM (m:=Except Er) (fun (a:List PL) x =>.ok (a++[x])) a = .ok (a++l):=by
    intro l
    induction l with
    |nil=>intro a;simp;rfl
    |cons x l ih=>intro a;rw [List.foldlM_cons];show List.foldlM _ (a++[x]) l=_;rw [ih];simp
  grind
theorem zuj (hf:fs.length<=20000) (hc:cs.length<=20000) (hg:∀ c∈cs,zbJ c) (T:Sl RTy) (z h:Hd) (fl:Sl qk) :
    match cs.foldlM (Yn fs h.2) [] with
    | .ok l=>lpO zj6 (spc h.2,0,T,z,mkS (fs.map rN),mkS (cs.map rN),h,fl,mkS [])=some (.inr (T,z,h,fl,mkS (l.map rQ)))
    | .error e=>∃ w,lpO zj6 (spc h.2,0,T,z,mkS (fs.map rN),mkS (cs.map rN),h,fl,mkS [])=some (.inl (e.1,e.2,T,h,fl,w)):=by
  have:=VM (f:=zj6) (xs:=cs) (step:=Yn fs h.2) (st:=fun i a=>(spc h.2,(i:Int),T,z,mkS (fs.map rN),mkS (cs.map rN),h,fl,mkS (a.map rQ))) (fin:=fun a =>.inr (T,z,h,fl,mkS (a.map rQ))) (er:=fun a e =>.inl (e.1,e.2,T,h,fl,mkS (a.map rQ))) (I:=fun i a=>a.length<=2 * i)
    (fun i hi a ha=>by
      unfold zj6 q39;have hw:=zL (k:=i) (by omega);obtain ⟨_,ht,x,y,hk,_,_⟩:=hg cs[i] (jx hi);have ka:zO cs[i]=x:=by unfold zO;rw [hk];rfl
      have kb:Vk cs[i]=y:=by unfold Vk zO;rw [hk];rfl
      have hks:(rN cs[i]).K_=⟨[rN x,rN y],true⟩:=by rw [zV,hk];rfl
      have g0:zd (rN cs[i]).K_ 0=some (rN x):=by rw [hks];rfl
      have g1:zd (rN cs[i]).K_ 1=some (rN y):=by rw [hks];rfl
      have b0:=zlx hf hi (.inl rfl) g0 T z h 0 0 fl (mkS (a.map rQ));simp only [jh,Yu,Uy];rw [jr (by omega)];unfold Yn;rw [ka,kb];show Option.bind (lpO zm4 _) _=_;cases e0:yq fs h.2 cs[i] x with
      |error er=>rw [e0] at b0;rw [zx b0];rfl
      |ok v=>
        rw [e0] at b0;have b1:=zlx hf hi (.inr rfl) g1 T z h v 0 fl (mkS (a.map rQ));have hv:(if x.T_=lit [] then (0:Int) else v)=v:=by
          split
          ·rename_i h0;unfold yq at e0;grind
          ·rfl
        simp only [jl,hv,ite_self] at b0;rw [zD b0];show Option.bind (lpO zm4 (spc h.2,(i:Int),1,T,z,mkS (fs.map rN),mkS (cs.map rN),h,⟨[v,0],true⟩,fl,mkS (a.map rQ))) _=_;cases e1:yq fs h.2 cs[i] y with
        |error er=>rw [e1] at b1;rw [zx b1];rfl
        |ok w=>
          rw [e1] at b1;have hw2:(if y.T_=lit [] then (0:Int) else w)=w:=by
            split
            ·rename_i h0;unfold yq at e1;grind
            ·rfl
          simp (decide:=true) only [jk,hw2,ite_self] at b1;rw [zD b1,zx (y :=.inr (spc h.2,(i:Int),T,z,mkS (fs.map rN),mkS (cs.map rN),h,⟨[v,w],true⟩,fl,mkS (a.map rQ))) rfl];have hln:=VL cs[i].T_ v w x.n_ y.n_;simp only [jf,ji,xL hi,g0,g1,ZG,zuf,show zd (⟨[v,w],true⟩:Sl Int) 0=some v from rfl,show zd (⟨[v,w],true⟩:Sl Int) 1=some w from rfl,zpF ht,Except.bind];rw [show lpO (q4l q1a q17 q19 q18) _=_ from zui _ _ _ _ _ _ _ _ (ve cs[i].T_ v w x.n_ y.n_) a (by omega)]
          grind)
    (fun i hi a a' ha e=>by
      unfold Yn at e;cases e1:yq fs h.2 cs[i] (zO cs[i]) with
      |error er=>rw [e1] at e;cases e
      |ok v=>
        cases e2:yq fs h.2 cs[i] (Vk cs[i]) with
        |error er=>rw [e1,e2] at e;cases e
        |ok w=>
          rw [e1,e2] at e;cases e;have:=VL cs[i].T_ v w (zO cs[i]).n_ (Vk cs[i]).n_
          grind)
    (fun a _=>by
      unfold zj6 q39;simp only [jh,Yu,Uy]
      grind)
    (a:=[]) (by simp)
  cases e:cs.foldlM (Yn fs h.2) [] with
  |error er=>grind
  |ok l=>grind
theorem zvK {t:List PT}(hg:XW n) (ht:t.length<=20000) (hn:n.K_.xs.length<=20000) :
    ∃ w:Er->RTy,q3d (rN n,mkS (t.map rT))=some (match YX t n with | .error e=>(w e,e.1,e.2,mkS (t.map rT)) | .ok x=>(rT x,0,0,mkS (t.map rT))):=by
  obtain ⟨s,fs,cs,hk,hf3,hc4,hs,hf,hc⟩:=zcS hg;have hks:zO n=s:=by unfold zO;rw [hk];rfl
  have hlen:(s::(fs++cs)).length<=20000:=by grind
  simp only [ju,jt] at hlen;unfold q3d q8e YX;simp only [zt];rw [zj4 n 3 (by omega),zj4 n 4 (by omega),hf3,hc4,hks,zcT t _ (by omega)];simp only [jf,ZG,YG,jh,Yu,Uy];rw [show zd (rN n).K_ 0=some (rN s) by rw [zV,hk];rfl];simp only [jf,zt];by_cases h0:0<=idT n.T_ t
  ·simp only [h0,jl];exact ⟨fun _=>_,rfl⟩
  simp only [h0,jk];by_cases h8:8 < fs.length
  ·simp only [show (8:Int) < (fs.length:Int) by omega,h8,jl];exact ⟨fun _=>_,rfl⟩
  simp only [show ¬ ((8:Int) < (fs.length:Int)) by omega,h8,jk];have h1:=zuh (fs:=fs) (by omega) s hf (mkS (t.map rT)) (lit [],0,0) (mkS (cs.map rN)) (n.T_,0,0);rw [show (Sl.mk [] false:Sl qk)=mkS [] from rfl];cases e1:fs.foldlM (YF s fs) [] with
  |error e=>
    rw [e1] at h1;obtain ⟨w,h1⟩:=h1;rw [show lpO (q3q q1a q17 q19 q18) _=_ from h1];exact ⟨fun _=>_,rfl⟩
  |ok fl=>
    rw [e1] at h1;simp only at h1;rw [show lpO (q3q q1a q17 q19 q18) _=_ from h1];simp only [jf,ji,Except.bind]
    have fin:∀ so:Int×Int,∃ w:Er->RTy,((lpO (q39 q1a q17 q19 q18) (spc so,0,mkS (t.map rT),(lit [],0,0),mkS (fs.map rN),mkS (cs.map rN),(n.T_,so.1,so.2),mkS (fl.map rF),Sl.mk [] false)).bind fun y78=>
        Sum.elim (fun y79=>some (qc.mk y79.2.2.2.1.1 y79.2.2.2.1.2.1 y79.2.2.2.1.2.2 y79.2.2.2.2.1 y79.2.2.2.2.2,y79.1,y79.2.1,y79.2.2.1)) (fun y80=>some (qc.mk y80.2.2.1.1 y80.2.2.1.2.1 y80.2.2.1.2.2 y80.2.2.2.1 y80.2.2.2.2,0,0,y80.1)) y78) =
        some (match (cs.foldlM (Yn fs so) []).bind fun fa=>(.ok ⟨n.T_,so.1,so.2,mkS fl,mkS fa⟩:Except Er PT) with | .error e=>(w e,e.1,e.2,mkS (t.map rT)) | .ok x=>(rT x,0,0,mkS (t.map rT))):=by
      intro so;have h4:=zuj (fs:=fs) (cs:=cs) (by omega) (by omega) hc (mkS (t.map rT)) (lit [],0,0) (n.T_,so.1,so.2) (mkS (fl.map rF));rw [show (Sl.mk [] false:Sl qq)=mkS [] from rfl];cases e4:cs.foldlM (Yn fs so) [] with
      |error e=>
        rw [show ((n.T_,so.1,so.2):Hd).2=so from rfl,e4] at h4;obtain ⟨w,h4⟩:=h4;rw [show lpO (q39 q1a q17 q19 q18) _=_ from h4];exact ⟨fun _=>_,rfl⟩
      |ok l=>
        rw [show ((n.T_,so.1,so.2):Hd).2=so from rfl,e4] at h4;simp only at h4;rw [show lpO (q39 q1a q17 q19 q18) _=_ from h4];refine ⟨fun _=>⟨lit [],0,0,mkS [],mkS []⟩,?_⟩;simp only [jf,ji,Except.bind,rT,zpE]
    have i0:idx (fun w=>decide (lit [111,119,110]=w)) yS=0:=by decide +kernel
    have i1:idx (fun w=>decide (lit [99,101,108,108]=w)) yS=1:=by decide +kernel
    have i2:idx (fun w=>decide (lit [99,111,117,110,116,101,100]=w)) yS=2:=by decide +kernel
    have i3:idx (fun w=>decide (lit [108,111,99,107]=w)) yS=3:=by decide +kernel
    have i4:idx (fun w=>decide (lit [103,117,97,114,100]=w)) yS=4:=by decide +kernel
    obtain ⟨kd,tx,nu,a,ks⟩:=s;obtain ⟨_,hs⟩:=hs;simp only at hs;have g0:∀ (k:Nd),zd (rN ⟨kd,tx,nu,a,⟨[k],true⟩⟩).K_ 0=some (rN k):=fun k=>by rw [zV];rfl
    obtain ⟨rfl | rfl,rfl⟩ | ⟨w,hw,rfl,k,rfl,_⟩:=hs
    ·unfold xB;simp (decide:=true) only [i0,jf,jk,jl,ji,jj,jm,jg,yb,ZG];exact fin (0,0)
    ·unfold xB;simp (decide:=true) only [i1,jf,jk,jl,ji,jj,jm,jg,yb,ZG];exact fin (1,0)
    simp only [zdm,Ua,List.not_mem_nil,or_false] at hw;rcases hw with rfl | rfl | rfl
    · unfold xB;simp (decide:=true) only [i2,jf,jk,jl,ji,jj,jm,jo,jg,yb,ZG,YG,g0,vf fs _ (show fs.length<=1000000 by omega),zO,Up];by_cases h:0<=Za fs k.T_
      ·simp only [h,show ¬ (Za fs k.T_ < 0) by omega,jl,jk,ji,jj,jf];have:=fin (2,Za fs k.T_);simp (decide:=true) only [spc,jl,or_false] at this;exact this
      ·simp only [h,show Za fs k.T_ < 0 by omega,jl,jk,ji,jj,jf];exact ⟨fun _=>_,rfl⟩
    · unfold xB;simp (decide:=true) only [i3,jf,jk,jl,ji,jj,jm,jo,jg,yb,ZG,YG,g0,vf fs _ (show fs.length<=1000000 by omega),zO,Up];by_cases h:0<=Za fs k.T_
      ·simp only [h,show ¬ (Za fs k.T_ < 0) by omega,jl,jk,ji,jj,jf];have:=fin (3,Za fs k.T_);simp (decide:=true) only [spc,jl,or_true] at this;exact this
      ·simp only [h,show Za fs k.T_ < 0 by omega,jl,jk,ji,jj,jf];exact ⟨fun _=>_,rfl⟩
    · unfold xB;have hl:idT k.T_ t < t.length:=xK.2.1;simp (decide:=true) only [i4,jf,jk,jl,ji,jj,jm,jo,jg,yb,ZG,YG,g0,zcT t _ (show t.length<=1000000 by omega),zO,Up];by_cases h:0<=idT k.T_ t
      · obtain ⟨j,hj⟩:∃ j:Nat,idT k.T_ t=j:=⟨_,(U9 h).symm⟩
        rw [hj] at hl;have hlt:j < t.length:=by omega
        simp only [hj,show (0:Int)<=(j:Int) by omega,show ¬ ((j:Int) < 0) by omega,jl,jk,GF,xL hlt,jf,Int.toNat_natCast,GI hlt,Option.elim_some,rT];by_cases h3:t[j].S_=3
        · simp only [h3,Yu,Uy,jl,jk,ji,jf,Ui,jp];by_cases h0:fs.length+cs.length=0
          ·simp only [h0,show ¬ ((0:Int) < (fs.length:Int)) by omega,show ¬ ((0:Int) < (cs.length:Int)) by omega,jl,jk,jm,jg,ji,jj,jf];exact fin (4,(j:Int))
          · simp only [h0,jk];by_cases hf0:(0:Int) < (fs.length:Int)
            ·simp only [hf0,jl,jj,ji,jf];exact ⟨fun _=>_,rfl⟩
            ·simp only [hf0,show (0:Int) < (cs.length:Int) by omega,jl,jk,jo,jj,ji,jf];exact ⟨fun _=>_,rfl⟩
        ·simp only [h3,jl,jk,Ui,jq,jj,ji,jf];exact ⟨fun _=>_,rfl⟩
      ·simp only [h,show idT k.T_ t < 0 by omega,jl,jk,false_and,jj,ji,jf];exact ⟨fun _=>_,rfl⟩
theorem zpG (hg:∀ k∈n.K_.xs,k.k_=1->XW k/\k.K_.xs.length<=20000) (hn:n.K_.xs.length<=20000) :
    q1t (rN n)=some (match zaG n.K_.xs with | .error e=>(e.1,e.2,Sl.mk [] false) | .ok t=>(0,0,mkS (t.map rT))):=by
  have hne:∀ (t:List PT) (k:Nd) (e:Er),YX t k = .error e->e.2≠0:=by
    intro t k e h;have hfold:∀ {α A:Type} (f:A->α->Except Er A),(∀ a x e,f a x = .error e->e.2≠0)->∀ (l:List α) (a:A) (e:Er),l.foldlM f a = .error e->e.2≠0:=by
      intro α A f hf l
      induction l with
      |nil=>intro a e h;cases h
      |cons x l ih=>
        intro a e h;rw [List.foldlM_cons] at h;cases hx:f a x with
        |error er=>rw [hx] at h;cases h;grind
        |ok b=>rw [hx] at h;exact ih b e h
    unfold YX at h;simp only at h;split at h
    ·cases h;simp
    split at h
    ·cases h;simp
    generalize k.K_.xs.filter (isK 3)=fs at h;generalize k.K_.xs.filter (isK 4)=cs at h;cases e1:fs.foldlM (YF (zO k) fs) [] with
    |error er=>
      rw [e1] at h;cases h;refine hfold _ (fun a x e h=>?_) _ _ _ e1;unfold YF at h;grind
    |ok fl=>
      rw [e1] at h;simp only [Except.bind] at h;cases e2:xB t (zO k) fs cs with
      |error er=>
        rw [e2] at h;cases h;unfold xB at e2;simp only at e2;split at e2
        ·grind
        split at e2
        ·grind
        ·cases e2
      |ok so=>
        rw [e2] at h;simp only at h;cases e3:cs.foldlM (Yn fs so) [] with
        |ok fa=>grind
        |error er=>
          rw [e3] at h;cases h;refine hfold _ (fun a x e h=>?_) _ _ _ e3;have hv:∀ c k e,yq fs so c k = .error e->e.2≠0:=by
            intro c k e h;unfold yq at h;grind
          unfold Yn at h;cases e5:yq fs so x (zO x) with
          |error er=>rw [e5] at h;cases h;grind
          |ok v=>
            cases e6:yq fs so x (Vk x) with
            |error er=>rw [e5,e6] at h;cases h;grind
            |ok w=>rw [e5,e6] at h;cases h
  have:=VM (f:=q3x q3d) (xs:=n.K_.xs) (step:=fun t k=>if k.k_=1 then (YX t k).bind fun x =>.ok (t++[x]) else .ok t) (st:=fun i a=>((i:Int),rN n,mkS (a.map rT)))
    (fin:=fun a =>.inr (mkS (a.map rT))) (er:=fun _ e =>.inl e) (I:=fun i a=>a.length<=i)
    (fun i hi a ha=>by
      unfold q3x;have hw:=zL (k:=i) (by omega);simp only [jh,zt];have hg0:zd (rN n).K_ (i:Int)=some (rN n.K_.xs[i]):=by rw [zV,zr (by simpa using hi)];simp
      rw [jr (by rw [zV];simp [Sl.len];omega),hg0];simp only [jf,XA,zt];by_cases h1:n.K_.xs[i].k_=1
      · obtain ⟨g1,g2⟩:=hg _ (jx hi) h1;obtain ⟨w,hw1⟩:=zvK g1 (show a.length<=20000 by omega) g2;simp only [h1,Ui,jp,jk,jl,hw1,jf];cases e:YX a n.K_.xs[i] with
        |error e2=>have:=hne _ _ _ e;simp only [this,jq,jl,jf,ji,Except.bind]
        |ok x=>
          simp only [jp,jk,Except.bind];rw [xC (by omega) (by simp;omega)];grind
      grind)
    (fun i hi a a' ha e=>by
      split at e
      · cases e1:YX a n.K_.xs[i] with
        |error er=>rw [e1] at e;cases e
        |ok x=>rw [e1] at e;cases e;simp;omega
      grind)
    (fun a _=>by
      unfold q3x;simp only [jh]
      rw [js (by rw [zV];simp [Sl.len])])
    (a:=[]) (by simp)
  unfold q1t q6l;simp only [zt];show ((lpO (q3x q3d) (((0:Nat):Int),rN n,mkS (([]:List PT).map rT))).bind _)=_;unfold zaG;cases e:n.K_.xs.foldlM (m:=Except Er) (fun t k=>if k.k_=1 then (YX t k).bind fun x =>.ok (t++[x]) else .ok t) [] with
  |error er=>
    grind
  |ok t=>
    grind
end Go.Px
