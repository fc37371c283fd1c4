/- Part Ld. -/
import Derived.Test.YtnkjgenigoecjaaGreatDoorLc
set_option linter.unusedVariables false
set_option linter.unusedSimpArgs false
namespace Go.Px
open Bool renaming true->B,false->F
open Except renaming bind->D
open Int renaming toNat_natCast->O
open List renaming foldlM_cons->H,foldlM->K,filter_cons->M,not_mem_nil->Q,filter_eq_self->U,filter_eq_nil_iff->V,filter_append->W
open _root_.Option renaming some->d,bind->N,elim_some->P
open Sl renaming mk->C
variable{A E R S α β:Type}{cs fs:List Nd}{i:Nat}{n:Nd}{t ts:List Tk}{I:Nat->A->Prop}{f:S->U7 (Step S R)}{l xs:List α}{p:α->Bool}{step:A->α->Except E A}
theorem DH:∀{a:Int},0<=a->↑a.toNat=a:=@Int.toNat_of_nonneg
theorem wm {st:Nat->S}{yes:Nat->R}{no:R}
    (h:∀i (hi:i < xs.length),f (st i)=d (if p xs[i]=B then .done (yes i) else .next (st (i+1)))) (h0:f (st xs.length)=d (.done no)) :
    lpO f (st 0)=d ((xs.findIdx? p).elim no yes):=by
 have:∀(n i:Nat),i+n=xs.length->lpO f (st i)=d (((xs.drop i).findIdx? p).elim no λj=>yes (i+j)):=by
  intro n
  induction n with
  |zero=>
   intro i hi;rw[UA (by omega),show i=xs.length by omega,zA h0];rfl
  |succ n ih=>
   intro i hi;have hlt:i < xs.length:=by omega
   have h1:=h i hlt;rw[Dt hlt,List.findIdx?_cons];by_cases hp:p xs[i]=B
   ·rw[jv hp] at h1;rw[zA h1,jv hp];rfl
   · rw[jx hp] at h1;rw[zG h1,ih (i+1) (by omega),jx hp];cases(xs.drop (i+1)).findIdx? p with
     |none=>rfl
     |some j=>grind
 have h2:=this xs.length 0 (by omega);simpa using h2
theorem zmj {st:Nat->A->S}{fin:A->R}{er:E->R}
    (h:∀i (hi:i < xs.length) a,I i a->f (st i a)=d (match step a xs[i] with | .ok a' =>.next (st (i+1) a') | .error e =>.done (er e)))
    (hI:∀i (hi:i < xs.length) a a',I i a->step a xs[i] = .ok a'->I (i+1) a') (h0:∀a,I xs.length a->f (st xs.length a)=d (.done (fin a))) {a:A} (ha:I 0 a) :
    lpO f (st 0 a)=d (match xs.foldlM step a with | .ok a'=>fin a' | .error e=>er e):=by
 have:∀(n i:Nat) (a:A),i+n=xs.length->I i a->lpO f (st i a)=d (match(xs.drop i).foldlM step a with | .ok a'=>fin a' | .error e=>er e):=by
  intro n
  induction n with
  |zero=>
   intro i a hi ha;obtain rfl:i=xs.length:=by omega
   rw[UA (UN _),zA (h0 a ha)];rfl
  |succ n ih=>
   intro i a hi ha;have hlt:i < xs.length:=by omega
   have h1:=h i hlt a ha;rw[Dt hlt,H];cases hs:step a xs[i] with
   |error e=>rw[hs] at h1;rw[zA h1];rfl
   |ok a'=>rw[hs] at h1;rw[zG h1];exact ih (i+1) a' (by omega) (hI i hlt a a' ha hs)
 have h2:=this xs.length 0 a (by omega) ha;grind
theorem V3:∀(xs:List α) (k:Nat) (a:A),I k a->(∀i (hi:i < xs.length) a a',I (k+i) a->step a xs[i] = .ok a'->I (k+i+1) a')->∀b,xs.foldlM step a = .ok b->I (k+xs.length) b
 |[],k,a,h,_,b,e=>by cases e;exact h
 |x::xs,k,a,h,hs,b,e=>by
  rw[H] at e;cases h1:step a x with
  |error er=>rw[h1] at e;cases e
  |ok a'=>
   rw[h1] at e;have:=V3 xs (k+1) a' (hs 0 (by simp) a a' h h1) (λi hi a b ha hb=>by have:=hs (i+1) (by simp;omega) a b (by grind) hb;grind) b e;grind
theorem zg{s:Sl α}(h:i < s.xs.length):za s (i:Int)=d s.xs[i]:=by rw[wT];grind
theorem zj(s:Sl α):s.len=(s.xs.length:Int):=rfl
def idx(p:α->Bool)(l:List α):Int:=(l.findIdx? p).elim (-1) λi=>(i:Int)
theorem yz: -1<=idx p l/\idx p l < l.length/\(0<=idx p l↔∃x∈l,p x=B):=by
 unfold idx;cases h:l.findIdx? p with
 |none=>
  rw[List.findIdx?_eq_none_iff] at h;refine⟨by simp,by grind,by grind⟩
 |some i=>
  obtain⟨hi,hp,_⟩:=List.findIdx?_eq_some_iff_getElem.1 h;exact⟨by grind,by grind,λ_=>⟨_,gc hi,hp⟩,λ_=>by simp⟩
theorem znW(g:α->β)(p:β->Bool)(l:List α):idx p (l.map g)=idx (λx=>p (g x)) l:=by
 unfold idx;rw[List.findIdx?_map];rfl
def zer(n:Nd):Prop:=n.K_=nilS
def zes:List (List UInt8):=[[99,111,117,110,116,101,100],[108,111,99,107],[103,117,97,114,100]]
def zjm(n:Nd):Prop:=n.k_=2/\((n.T_=lit [111,119,110]\/n.T_=lit [99,101,108,108])/\n.K_=nilS\/∃w∈zes,n.T_=lit w/\∃k,n.K_=⟨[k],B⟩/\zer k)
def zbr(n:Nd):Prop:=n.k_=3/\(n.K_=nilS\/∃k,n.K_=⟨[k],B⟩/\zer k)
def zcz(n:Nd):Prop:=n.k_=4/\(n.T_=lit [60]\/n.T_=lit [60,61]\/n.T_=lit [61,61])/\∃a b,n.K_=⟨[a,b],B⟩/\zer a/\zer b
def wD(n:Nd):Prop:=n.k_=1/\∃s fs cs,n.K_=⟨s::(fs++cs),B⟩/\zjm s/\(∀f∈fs,zbr f)/\∀c∈cs,zcz c
theorem XO{w:List UInt8}(h:isP w ts=B):(hd ts).T_=lit w:=by
 unfold isP at h;grind
theorem zyf(h:vh ts = .ok (n,t)):zjm n:=by
 unfold vh at h;split at h
 ·rename_i c;cases h;exact⟨rfl,.inl ⟨.inl (XO c),rfl⟩⟩
 split at h
 ·rename_i c;cases h;exact⟨rfl,.inl ⟨.inr (XO c),rfl⟩⟩
 split at h
 ·rename_i c;obtain⟨k,t1,e,h⟩:=bd_ok h;cases h;exact⟨rfl,.inr ⟨_,by simp[zes],XO c,k,rfl,zN e⟩⟩
 split at h
 ·rename_i c;obtain⟨k,t1,e,h⟩:=bd_ok h;cases h;exact⟨rfl,.inr ⟨_,by simp[zes],XO c,k,rfl,zN e⟩⟩
 split at h
 ·rename_i c;obtain⟨k,t1,e,h⟩:=bd_ok h;cases h;exact⟨rfl,.inr ⟨_,by simp[zes],XO c,k,rfl,zN e⟩⟩
 ·cases h
theorem zu3(h:xF ts = .ok (n,t)):zbr n:=by
 obtain⟨m,t1,em,h⟩:=bd_ok h;split at h
 ·obtain⟨k,t2,ek,h⟩:=bd_ok h;obtain⟨u,t3,_,h⟩:=bd_ok h;cases h;exact⟨rfl,.inr ⟨k,rfl,zN ek⟩⟩
 ·cases h;exact⟨rfl,.inl rfl⟩
theorem zzW{s:U5}(h:zcs ts = .ok (s,t)):s=lit [60]\/s=lit [60,61]\/s=lit [61,61]:=by
 unfold zcs at h;split at h
 ·grind
 split at h
 ·grind
 split at h
 ·grind
 ·cases h
theorem znX(h:YE ts = .ok (n,t)):zcz n/\n.n_=0:=by
 obtain⟨a,t1,ea,h⟩:=bd_ok h;obtain⟨op,t2,eo,h⟩:=bd_ok h;obtain⟨b,t3,eb,h⟩:=bd_ok h;cases h;exact⟨⟨rfl,zzW eo,a,b,rfl,X4 ea,X4 eb⟩,rfl⟩
theorem zgY{one:List Tk->PR Nd}{G:Nd->Prop}(hg:∀ts n t,one ts = .ok (n,t)->G n):∀(j:Nat) (acc:List Nd) (ts:List Tk) (l:List Nd) (t:List Tk),(∀x∈acc,G x)->Zs one j acc ts = .ok (l,t)->∀x∈l,G x
 |0,acc,ts,l,t,h,e=>by cases e;exact h
 |j+1,acc,ts,l,t,h,e=>by
  unfold Zs at e;split at e
  ·obtain⟨a,t1,e1,e⟩:=bd_ok e;refine zgY hg j _ _ l t (λx hx=>?_) e;grind
  grind
theorem zet{one:List Tk->PR Nd}{G:Nd->Prop}(hg:∀ts n t,one ts = .ok (n,t)->G n){l:List Nd}(e:ya one ts = .ok (l,t)):∀x∈l,G x:=by
 obtain⟨a,t1,e1,e⟩:=bd_ok e;exact zgY hg _ _ _ l t (by grind) e
theorem zzX{a:Int}(h:zdN a ts = .ok (n,t)):wD n:=by
 rw[znV] at h;obtain⟨m,t1,em,h⟩:=bd_ok h;obtain⟨s,t2,es,h⟩:=bd_ok h;obtain⟨ks,t3,e3,h⟩:=bd_ok h;obtain⟨k2,t4,e4,h⟩:=bd_ok h;obtain⟨u,t5,e5,h⟩:=bd_ok h;cases h;obtain⟨fs,rfl,hf⟩:∃fs,ks=s::fs/\∀f∈fs,zbr f:=by
  unfold W5 at e3;split at e3
  ·obtain⟨l,t6,e6,e3⟩:=bd_ok e3;obtain⟨u,t7,_,e3⟩:=bd_ok e3;cases e3;exact⟨l,rfl,zet (λ_ _ _=>zu3) e6⟩
  grind
 obtain⟨cs,rfl,hc⟩:∃cs,k2=(s::fs)++cs/\∀f∈cs,zcz f:=by
  unfold zbq at e4;split at e4
  ·obtain⟨l,t6,e6,e4⟩:=bd_ok e4;cases e4;exact⟨l,rfl,zet (λ_ _ _ h=>(znX h).1) e6⟩
  ·cases e4;exact⟨[],by simp,by simp⟩
 exact⟨rfl,s,fs,cs,by simp,zyf es,hf,hc⟩
abbrev PT:=qa
abbrev PF:=qt
abbrev PL:=qw
abbrev Er:=Int×Int
abbrev IxS(α γ:Type):=Sl α×Int×Int×γ
def ixL{γ:Type}(e:α->α)(f:α×γ->U7 (Bool×γ)):IxS α γ->U7 (Step (IxS α γ) (Int×γ⊕γ)):=λy0=>
 if decide (y0.2.2.1 < y0.2.1)=B then(za y0.1 y0.2.2.1).bind λy1=>(f (e y1,y0.2.2.2)).bind λy2=>
  if y2.1=B then d (Step.done (Sum.inl (y0.2.2.1,y2.2))) else d (Step.next (y0.1,y0.2.1,U8 (y0.2.2.1+1),y2.2))
 else d (Step.done (Sum.inr y0.2.2.2))
theorem zmk {γ:Type}{e:α->α}(he:∀x,e x=x) {f:α×γ->U7 (Bool×γ)}{c:γ}(hf:∀x,f (x,c)=d (p x,c)) (s:Sl α) (hs:s.xs.length<=1000000) :
    ((lpO (ixL e f) (s,s.len,0,c)).bind λy3=>Sum.elim (λy4=>d y4) (λy5=>d (-1,y5)) y3)=d (idx p s.xs,c):=by
 have:=wm (f:=ixL e f) (xs:=s.xs) (p:=p) (st:=λi=>(s,s.len,(i:Int),c)) (yes:=λi =>.inl ((i:Int),c)) (no :=.inr c)
  (λi hi=>by
    simp only[ixL,jl];simp only[zj,zg hi,jj,he,hf];rw[jv (by omega),zw (by omega)]
    split<;>rfl)
  (by simp only[ixL,jl];rw[jx (by rw[zj];omega)])
 rw[show((0:Int))=((0:Nat):Int) from rfl,this];unfold idx;cases s.xs.findIdx? p<;>rfl
def idT(n:U5)(t:List PT):Int:=idx (λx=>decide (x.N_=n)) t
def idN(n:U5)(l:List Nd):Int:=idx (λx=>decide (x.T_=n)) l
theorem zcA(t:Sl PT)(n:U5)(ht:t.xs.length<=1000000):q2c (t,n)=d (idT n t.xs):=by
 show(((lpO (ixL id q7c) (t,t.len,0,n)).bind _).bind λ(y0:Int×U5)=>d y0.1)=_;rw[zmk (e:=id) (λ_=>rfl) (p:=λx:PT=>decide (x.N_=n)) (λx=>rfl) t ht];rfl
def Zf(fs:List Nd)(n:U5):Int:=idx (λx=>decide (x.T_=n) && decide (x.K_.len=0)) fs
theorem vW(x:PT)(n:U5)(fs:Sl Nd)(hf:fs.xs.length<=1000000):q36 (x,n,fs)=d (Zf fs.xs n):=by
 show(((lpO (ixL (λy=>ke y) q5g) (fs,fs.len,0,n)).bind _).bind λ(y0:Int×U5)=>d y0.1)=_;rw[zmk zm (p:=λx=>decide (x.T_=n) && decide (x.K_.len=0)) (λx=>?_) fs hf];rfl;unfold q5g q87;grind
theorem zsT(fs:Sl Nd)(n:U5)(hf:fs.xs.length<=1000000):q9y (fs,n)=d (decide (0<=idN n fs.xs)):=by
 show((((lpO (ixL (λy=>ke y) qbh) (fs,fs.len,0,n)).bind _).bind _).bind λ(y0:Bool×U5)=>d y0.1)=_;rw[zmk zm (p:=λx:Nd=>decide (x.T_=n)) (λx=>rfl) fs hf];rfl
theorem W6(b:Bool)(n:Nd)(e:Int):q6i (b,n,e)=d (if b=B then .inr () else .inl (n.a_,e)):=by cases b<;>rfl
def isK(k:Int)(n:Nd):Bool:=decide (n.k_=k)
def Yi:List U5:=[lit [111,119,110],lit [99,101,108,108],lit [99,111,117,110,116,101,100],lit [108,111,99,107],lit [103,117,97,114,100]]
def zV(n:Nd):Nd:=n.K_.xs.headD vi
def YZ(s:Nd)(fs:List Nd)(acc:List PF)(f:Nd):Except Er (List PF):=
 if 0<=idN f.T_ (fs.take acc.length) then .error (f.a_,30)
 else if f.K_.xs=[] then .ok (acc++[⟨f.T_, -1⟩])
 else if s.T_=lit [111,119,110]/\0<=Zf fs (zV f).T_ then .ok (acc++[⟨f.T_,Zf fs (zV f).T_⟩]) else .error (f.a_,32)
def xY(t:List PT)(s:Nd)(fs cs:List Nd):Except Er (Int×Int):=
 let k:=idx (λw=>decide (s.T_=w)) Yi
 let w:=(zV s).T_
 let o:=idT w t
 if k=2\/k=3 then(if 0<=Zf fs w then .ok (k,Zf fs w) else .error (s.a_,32))
 else if k=4 then(if 0<=o/\((t[o.toNat]?).elim 0 qa.S_)=3 then(if fs.length+cs.length=0 then .ok (k,o) else .error (s.a_,32)) else .error (s.a_,31))
 else .ok (k,0)
def yx(fs:List Nd)(so:Int×Int)(c k:Nd):Except Er Int:=
 if k.T_=lit [] then .ok 0 else if 0<=Zf fs k.T_/\¬ ((so.1=2\/so.1=3)/\Zf fs k.T_=so.2) then .ok (Zf fs k.T_+1) else .error (c.a_,33)
def vX(c:U5)(a b k l:Int):List PL:=
 if c=lit [60] then [⟨a,b,U8 (U8 (l - k) - 1)⟩] else if c=lit [60,61] then [⟨a,b,U8 (l - k)⟩]
 else if c=lit [61,61] then [⟨a,b,U8 (l - k)⟩,⟨b,a,U8 (k - l)⟩] else []
def V4(n:Nd):Nd:=zV ⟨0,lit [],0,0,⟨n.K_.xs.tail,B⟩⟩
def YF(fs:List Nd)(so:Int×Int)(acc:List PL)(c:Nd):Except Er (List PL):=
 (yx fs so c (zV c)).bind λv=>(yx fs so c (V4 c)).bind λw =>.ok (acc++vX c.T_ v w (zV c).n_ (V4 c).n_)
def xg(t:List PT)(n:Nd):Except Er PT:=
 let fs:=n.K_.xs.filter (isK 3);let cs:=n.K_.xs.filter (isK 4)
 if 0<=idT n.T_ t then .error (n.a_,30) else if 8 < fs.length then .error (n.a_,22) else
 (fs.foldlM (YZ (zV n) fs) []).bind λfl=>(xY t (zV n) fs cs).bind λso=>(cs.foldlM (YF fs so) []).bind λfa =>.ok ⟨n.T_,so.1,so.2,mkS fl,mkS fa⟩
def zbs(l:List Nd):Except Er (List PT):=l.foldlM (λt k=>if k.k_=1 then(xg t k).bind λx =>.ok (t++[x]) else .ok t) []
theorem xZ{b:Nat}(hb:b<=1000000){acc:List α}(h:acc.length+l.length<=100000):zo b (mkS acc) l=d (mkS (acc++l)):=by
 have:(acc.length+l.length) * b<=100000 * 1000000:=Nat.mul_le_mul h hb;rw[yQ (by simp only[mkS];omega) (by simp only[mkS];omega)];cases acc<;>cases l<;>simp[mkS]
theorem zu4(n:Nd)(h:n.K_.xs.length<=50000):q9z n=d (mkS (n.K_.xs.filter (isK 3)),mkS (n.K_.xs.filter (isK 4))):=by
 show((lpO q82 (n.K_,n.K_.len,0,C [] F,C [] F)).bind λy6=>d y6)=_
 have:=zmj (E:=Er) (f:=q82) (xs:=n.K_.xs) (A:=List Nd×List Nd) (step:=λa k =>.ok (if isK 3 k then(a.1++[k],a.2) else if isK 4 k then(a.1,a.2++[k]) else a))
  (st:=λi a=>(n.K_,n.K_.len,(i:Int),mkS a.1,mkS a.2)) (fin:=λa=>(mkS a.1,mkS a.2)) (er:=λ_=>(mkS [],mkS [])) (I:=λi a=>a.1.length<=i/\a.2.length<=i)
  (λi hi a ha=>by
   unfold q82;simp only[jl];simp only[zj,zg hi,jj,zm,isK];rw[jv (by omega)];have hw:=zw (k:=i) (by omega);by_cases h3:n.K_.xs[i].k_=3
   ·simp only[h3,jq,js];rw[xZ (by omega) (by simp;omega)];grind
   ·by_cases h4:n.K_.xs[i].k_=4
    ·simp (decide:=true) only [h4,jq,jp,js,jr,jk];rw[xZ (by omega) (by simp;omega)];grind
    grind)
  (λi hi a a' ha e=>by
   cases e
   grind)
  (λa _=>by unfold q82;simp only[jl];rw[jx (by rw[zj];omega)])
  (a:=([],[])) (by simp)
 have e:∀(l a b:List Nd),l.foldlM (m:=Except Er) (λ(a:List Nd×List Nd) k =>.ok (if isK 3 k then(a.1++[k],a.2) else if isK 4 k then(a.1,a.2++[k]) else a)) (a,b) = .ok (a++l.filter (isK 3),b++l.filter (isK 4)):=by
  intro l
  induction l with
  |nil=>intro a b;simp;rfl
  |cons x l ih=>
   intro a b;rw[H];by_cases h3:isK 3 x=B
   ·have h4:isK 4 x=false:=by simp only[isK,jl] at h3 |-;simp[h3]
    simp only[h3,h4,jq,M,jk,jp];show K _ (a++[x],b) l=_;rw[ih];simp
   ·by_cases h4:isK 4 x=B
    ·simp only[h3,h4,jq,M,jk,jp];show K _ (a,b++[x]) l=_;rw[ih];simp
    ·simp only[h3,h4,jp,M,jk];show K _ (a,b) l=_;rw[ih]
 rw[e] at this;simp only[Ds] at this;rw[show(lpO q82 (n.K_,n.K_.len,0,C [] F,C [] F))=_ from this];rfl
theorem zsU(s:U5):q2q (C [lit [111,119,110],lit [99,101,108,108],lit [99,111,117,110,116,101,100],lit [108,111,99,107],lit [103,117,97,114,100]] B,s)=d (idx (λw=>decide (s=w)) Yi):=by
 have:=wm (f:=q1n) (xs:=Yi) (p:=λw=>decide (s=w)) (st:=λi=>(⟨Yi,B⟩,s,Sl.len (⟨Yi,B⟩:Sl U5),(i:Int))) (yes:=λi =>.inl (i:Int)) (no :=.inr ())
  (λi hi=>by
   have hi5:i < 5:=hi;unfold q1n;simp only[jl];simp only[zj,zg (s:=⟨Yi,B⟩) hi,jj];rw[jv (by omega),zw (by omega)]
   split<;>rfl)
  (by unfold q1n;simp only[jl];rw[jx (by show¬ ((5:Int) < 5);omega)])
 show((lpO q1n (⟨Yi,B⟩,s,Sl.len (⟨Yi,B⟩:Sl U5),((0:Nat):Int))).bind _)=_;rw[this];unfold idx;cases Yi.findIdx? _<;>rfl
theorem zpH{s:Sl α}{t:Sl β}(ha:s.xs.length<=100000)(hb:t.xs.length<=100000):(U8 (s.len+t.len)=0)=(s.xs.length+t.xs.length=0):=by
 rw[zj,zj,zK (by omega) (by omega)];grind
theorem zu5 {t:Sl PT}{s:Nd}{fs cs:Sl Nd}(hs:zjm s) (ht:t.xs.length<=100000) (hf:fs.xs.length<=100000) (hc:cs.xs.length<=100000) (nm:U5) (fl:Sl PF) (fa:Sl PL) :
    ∃w:Er->(U5×Int×Int)×Sl PF×Sl PL,q4l (t,s,fs,cs,(nm,0,0),fl,fa)=d (match xY t.xs s fs.xs cs.xs with | .ok so =>.inr ((nm,so.1,so.2),fl,fa) | .error e =>.inl (e,w e)):=by
 unfold q4l qaw;rw[zsU];obtain⟨kd,tx,nu,a,ks⟩:=s;have i0:idx (λw=>decide (lit [111,119,110]=w)) Yi=0:=by decide +kernel
 have i1:idx (λw=>decide (lit [99,101,108,108]=w)) Yi=1:=by decide +kernel
 have i2:idx (λw=>decide (lit [99,111,117,110,116,101,100]=w)) Yi=2:=by decide +kernel
 have i3:idx (λw=>decide (lit [108,111,99,107]=w)) Yi=3:=by decide +kernel
 have i4:idx (λw=>decide (lit [103,117,97,114,100]=w)) Yi=4:=by decide +kernel
 obtain⟨_,hs⟩:=hs;simp only at hs;obtain⟨rfl | rfl,rfl⟩ | ⟨w,hw,rfl,k,rfl,_⟩:=hs
 ·unfold xY;simp (decide:=true) only [i0,jj,jp,jm,jr,jk];exact⟨λ_=>default,by grind⟩
 ·unfold xY;simp (decide:=true) only [i1,jj,jp,jm,jr,jk];exact⟨λ_=>default,by grind⟩
 have g0:∀(k:Nd),za (⟨[k],B⟩:Sl Nd) 0=d k:=λ_=>rfl
 simp only[zes,De,Q,or_false] at hw;rcases hw with rfl | rfl | rfl
 · unfold xY;simp (decide:=true) only [i2,jj,jp,jq,jm,jr,js,jk,g0,vW _ _ fs (by omega),W6,zV,Du,jl];by_cases h:0<=Zf fs.xs k.T_
   ·simp only[h,jq,jm,jj];exact⟨λ_=>default,by grind⟩
   ·simp only[h,jp,jo,jj];exact⟨λ_=>_,rfl⟩
 · unfold xY;simp (decide:=true) only [i3,jj,jp,jq,jm,jr,js,jk,g0,vW _ _ fs (by omega),W6,zV,Du,jl];by_cases h:0<=Zf fs.xs k.T_
   ·simp only[h,jq,jm,jj];exact⟨λ_=>default,by grind⟩
   ·simp only[h,jp,jo,jj];exact⟨λ_=>_,rfl⟩
 · unfold xY;have hl:idT k.T_ t.xs < t.xs.length:=yz.2.1;simp (decide:=true) only [i4,jj,jp,jq,jm,jr,js,jk,g0,zcA t _ (by omega),W6,zV,Du,zpH hf hc,jl];by_cases h:0<=idT k.T_ t.xs
   · obtain⟨j,hj⟩:∃j:Nat,idT k.T_ t.xs=j:=⟨_,(DH h).symm⟩
     rw[hj] at hl;have hlt:j < t.xs.length:=by omega
     simp only[hj,show(0:Int)<=(j:Int) by omega,jq,UJ,zg hlt,jj,O,UM hlt,P];by_cases h3:t.xs[j].S_=3
     · simp only[h3,jq,jm,jj];by_cases h0:fs.xs.length+cs.xs.length=0
       ·simp only[zpH hf hc,h0,jq,jm,jj];exact⟨λ_=>default,by grind⟩
       ·simp only[zpH hf hc,h0,jp,jo,jj];exact⟨λ_=>_,rfl⟩
     ·simp only[h3,jp,jo,jj];exact⟨λ_=>_,rfl⟩
   ·simp only[h,jp,false_and,jo,jj];exact⟨λ_=>_,rfl⟩
theorem zsV{c:U5}(hc:c=lit [60]\/c=lit [60,61]\/c=lit [61,61])(a b k l:Int):qa0 (c,a,b,k,l)=d ⟨vX c a b k l,B⟩:=by
 unfold qa0 qef vX;rcases hc with rfl | rfl | rfl<;>simp (decide:=true) only [jq,jp,jj,jo,js,jr,jk]
theorem zat(c:U5)(a b k l:Int):(vX c a b k l).length<=2:=by
 unfold vX;by_cases h1:c=lit [60]
 ·grind
 rw[jx h1];by_cases h2:c=lit [60,61]
 all_goals grind
abbrev Hd:=U5×Int×Int
noncomputable abbrev zcB:=q8q q36 q6i qa0
theorem zfi {fs ks:Sl Nd}(hf:fs.xs.length<=100000) {k c:Nd}{L i:Int}(hi:i=0\/i=1) (hL:i < L) (hk:za ks i=d k) (h:Hd) (fl:Sl PF) (fa:Sl PL) (v0 v1:Int) :
    zcB (fs,ks,L,i,h,fl,fa,c,v0,v1)=d (match yx fs.xs h.2 c k with
     | .error e =>.done (.inl (e,h,fl,fa))
     | .ok v =>.next (fs,ks,L,i+1,h,fl,fa,c,if k.T_=lit [] then v0 else if i=0 then v else v0,if k.T_=lit [] then v1 else if i=0 then v1 else v)):=by
 unfold zcB q8q;have hl:Zf fs.xs k.T_ < fs.xs.length:=yz.2.1;have hl0 : -1<=Zf fs.xs k.T_:=yz.1;have hw:U8 (i+1)=i+1:=zK (by omega) (by omega);have hw2:U8 (Zf fs.xs k.T_+1)=Zf fs.xs k.T_+1:=zK (by omega) (by omega);simp only[jl];rw[jv hL];simp only[hk,jj,zm,vW _ _ fs (by omega),W6,yx];by_cases ht:k.T_=lit []
 ·grind
 simp only[ht,jp];by_cases h0:0<=Zf fs.xs k.T_
 case neg=>grind
 simp only[h0,jq,UJ];have fin:((bif decide (i=1) then d (fs,ks,L,i,h,fl,fa,c,v0,Zf fs.xs k.T_+1) else bif decide (i=0) then d (fs,ks,L,i,h,fl,fa,c,Zf fs.xs k.T_+1,v1) else none):U7 (Sl Nd×Sl Nd×Int×Int×Hd×Sl PF×Sl PL×Nd×Int×Int))=d (fs,ks,L,i,h,fl,fa,c,if i=0 then Zf fs.xs k.T_+1 else v0,if i=0 then v1 else Zf fs.xs k.T_+1):=by
  grind
 by_cases h2:h.2.1=2
 · by_cases ho:Zf fs.xs k.T_=h.2.2
   ·simp only[h2,ho,jq,true_or,js,Dr,jk,jp,jt,and_self,jj,jo,jm]
   ·simp only[h2,ho,jq,true_or,jr,D8,jp,ju,and_false,jj,jo,jm,hw,hw2,fin]
 · by_cases h3:h.2.1=3
   · by_cases ho:Zf fs.xs k.T_=h.2.2
     ·simp (decide:=true) only [h3,ho,jq,or_true,js,Dr,jk,jp,jt,and_self,jj,jo,jm]
     ·simp (decide:=true) only [h3,ho,jq,or_true,jr,D8,jp,ju,and_false,jj,jo,jm,hw,hw2,fin]
   ·simp only[h2,h3,jq,or_self,false_and,D8,jp,ju,jj,jo,jm,hw,hw2,fin]
theorem zu6 {fs:Sl Nd}(hf:fs.xs.length<=100000) {c:Nd}(hc:zcz c) (h:Hd) (fl:Sl PF) (acc:List PL) (ha:acc.length<=50000) :
    q5a (c,fs,h,fl,mkS acc)=d (match YF fs.xs h.2 acc c with | .error e =>.inl (e,h,fl,mkS acc) | .ok l =>.inr (h,fl,mkS l)):=by
 obtain⟨_,ht,a,b,hk,_,_⟩:=hc;unfold q5a qbi;simp only[zm];simp only[hk];have b0:=zfi (ks:=⟨[a,b],B⟩) (k:=a) (c:=c) (L:=2) hf (.inl rfl) (by omega) rfl h fl (mkS acc) 0 0;have ka:zV c=a:=by unfold zV;rw[hk];rfl
 have kb:V4 c=b:=by unfold V4 zV;rw[hk];rfl
 unfold YF;rw[ka,kb,show Sl.len (⟨[a,b],B⟩:Sl Nd)=2 from rfl];cases e0:yx fs.xs h.2 c a with
 |error er=>rw[e0] at b0;rw[zA b0];rfl
 |ok v=>
  rw[e0] at b0;have b1:=zfi (ks:=⟨[a,b],B⟩) (k:=b) (c:=c) (L:=2) hf (.inr rfl) (by omega) rfl h fl (mkS acc) v 0;have hv:(if a.T_=lit [] then(0:Int) else v)=v:=by
   split
   ·rename_i h0;unfold yx at e0;grind
   ·rfl
  simp only[jq,hv,ite_self] at b0;rw[zG b0];show((lpO zcB (fs,⟨[a,b],B⟩,2,1,h,fl,mkS acc,c,v,0)).bind _)=_;cases e1:yx fs.xs h.2 c b with
  |error er=>rw[e1] at b1;rw[zA b1];rfl
  |ok w=>
   rw[e1] at b1;have hw:(if b.T_=lit [] then(0:Int) else w)=w:=by
    split
    ·rename_i h0;unfold yx at e1;grind
    ·rfl
   simp (decide:=true) only [jp,hw,ite_self] at b1;rw[zG b1,zA (y :=.inr (h,fl,mkS acc,c,v,w)) (by unfold zcB q8q;simp only[zm];rfl)];have hln:(vX c.T_ v w a.n_ b.n_).length<=2:=zat _ _ _ _ _;simp only[jj,jm,hk,show za (⟨[a,b],B⟩:Sl Nd) 0=d a from rfl,show za (⟨[a,b],B⟩:Sl Nd) 1=d b from rfl,zsV ht,D];rw[xZ (by omega) (by omega)];rfl
noncomputable abbrev zjn:=q8r q9z q2c q6i q9y q36 q4l q5a
noncomputable abbrev zjo:=q8s q9z q2c q6i q9y q36 q4l q5a
theorem zng {t:Sl PT}{cs:Sl Nd}(hf:fs.length<=20000) (hk:n.K_.xs≠[]) (hg:∀f∈fs,zbr f) (z h:Hd) :
    lpO zjn (t,mkS fs,mkS fs,Sl.len (mkS fs),0,n,z,cs,h,mkS [])=d (match fs.foldlM (YZ (zV n) fs) [] with | .error e =>.inl e | .ok l =>.inr (t,mkS fs,n,z,cs,h,mkS l)):=by
 have g0:za n.K_ 0=d (zV n):=by
  unfold zV;cases hx:n.K_ with | mk xs nn=>rw[hx] at hk;cases xs with | nil=>grind | cons a r=>rfl
 have:=zmj (f:=zjn) (xs:=fs) (step:=YZ (zV n) fs) (st:=λi a=>(t,mkS fs,mkS fs,Sl.len (mkS fs),(i:Int),n,z,cs,h,mkS a)) (fin:=λa =>.inr (t,mkS fs,n,z,cs,h,mkS a)) (er :=.inl) (I:=λi a=>a.length=i)
  (λi hi a ha=>by
    unfold zjn q8r;have hgi:=hg fs[i] (gc hi);have hw:=zw (k:=i) (by omega);simp only[jl];rw[jv (show((i:Int) < Sl.len (mkS fs)) by show(i:Int) < (fs.length:Int);omega)];rw[zg (s:=mkS fs) hi,jj,YV (by omega) (by omega) (by show(i:Int)<=(fs.length:Int);omega),jj];simp only[Int.toNat_zero,Dv,O,zm];rw[zsT _ _ (by simp;omega),jj];simp only[W6,jj,YZ,ha];show N (Sum.elim _ _ (if(!decide (0<=idN fs[i].T_ (fs.take i)))=B then _ else _)) _=_;by_cases h1:0<=idN fs[i].T_ (fs.take i)
    ·simp only[mkS,h1,js,Dr,jk,jp,jq,jo,jj]
    simp only[h1,jr,D8,jq,jp,jm];obtain⟨_,hk0 | ⟨k,hk1,_⟩⟩:=hgi
    · have hkx:fs[i].K_.xs=[]:=by rw[hk0]
      have e0:zV fs[i]=vi:=by unfold zV;rw[hk0];rfl
      simp only[show(mkS fs).xs[i]=fs[i] from rfl];simp (decide:=true) only [hk0,show(nilS:Sl Nd).len=0 from rfl,jp,jq,jm,jj];rw[xZ (by omega) (by simp;omega)];grind
    · have hkx:¬ fs[i].K_.xs=[]:=by rw[hk1];simp
      have e0:zV fs[i]=k:=by unfold zV;rw[hk1];rfl
      simp only[hkx,jp,e0];simp only[show(mkS fs).xs[i]=fs[i] from rfl];simp (decide:=true) only [hk1,show Sl.len (⟨[k],B⟩:Sl Nd)=1 from rfl,show za (⟨[k],B⟩:Sl Nd) 0=d k from rfl,jp,jq,jj,vW _ _ (mkS fs) (show fs.length<=1000000 by omega),g0];by_cases h2:(zV n).T_=lit [111,119,110]
      · by_cases h3:0<=Zf fs k.T_
        ·simp only[mkS,h2,h3,and_self,js,jq,jm,jj];rw[show({xs:=a,nn:= !a.isEmpty}:Sl PF)=mkS a from rfl,xZ (by omega) (by simp;omega)];simp only[jj,jm,hw,mkS]
        ·simp only[mkS,h2,h3,and_false,jr,jk,jq,jp,jo,jj]
      ·simp only[h2,false_and,jk,jp,jo,jj])
  (λi hi a a' ha e=>by
    unfold YZ at e;split at e
    ·cases e
    split at e
    ·cases e;simp;omega
    split at e
    ·cases e;simp;omega
    ·cases e)
  (λa _=>by
    unfold zjn q8r;simp only[jl,zm]
    rw[jx (show¬ ((fs.length:Int) < Sl.len (mkS fs)) by show¬ ((fs.length:Int) < (fs.length:Int));omega)])
  (a:=[]) rfl
 grind
theorem znh {fs:Sl Nd}(hf:fs.xs.length<=20000) (hc:cs.length<=20000) (hg:∀c∈cs,zcz c) (z h:Hd) (fl:Sl PF) :
    lpO zjo (fs,mkS cs,Sl.len (mkS cs),0,z,h,fl,mkS [])=d (match cs.foldlM (YF fs.xs h.2) [] with | .error e =>.inl e | .ok l =>.inr (z,h,fl,mkS l)):=by
 have:=zmj (f:=zjo) (xs:=cs) (step:=YF fs.xs h.2) (st:=λi a=>(fs,mkS cs,Sl.len (mkS cs),(i:Int),z,h,fl,mkS a)) (fin:=λa =>.inr (z,h,fl,mkS a)) (er :=.inl) (I:=λi a=>a.length<=2 * i)
  (λi hi a ha=>by
    unfold zjo q8s;have hw:=zw (k:=i) (by omega);simp only[jl];rw[jv (show((i:Int) < Sl.len (mkS cs)) by show(i:Int) < (cs.length:Int);omega),zg (s:=mkS cs) hi];simp only[jj,zm,show(mkS cs).xs[i]=cs[i] from rfl];rw[zu6 (by omega) (hg cs[i] (gc hi)) h fl a (by omega)];simp only[jj];cases YF fs.xs h.2 a cs[i] with
    |error e=>rfl
    |ok l=>simp only[jm,hw])
  (λi hi a a' ha e=>by
    unfold YF at e;cases e1:yx fs.xs h.2 cs[i] (zV cs[i]) with
    |error er=>rw[e1] at e;cases e
    |ok v=>
     cases e2:yx fs.xs h.2 cs[i] (V4 cs[i]) with
     |error er=>rw[e1,e2] at e;cases e
     |ok w=>
      rw[e1,e2] at e;cases e;have:=zat cs[i].T_ v w (zV cs[i]).n_ (V4 cs[i]).n_
      simp only[jy];omega)
  (λa _=>by
    unfold zjo q8s;simp only[jl]
    rw[jx (show¬ ((cs.length:Int) < Sl.len (mkS cs)) by show¬ ((cs.length:Int) < (cs.length:Int));omega)])
  (a:=[]) (by simp)
 rw[show(0:Int)=((0:Nat):Int) from rfl,this];cases cs.foldlM (YF fs.xs h.2) []<;>rfl
theorem zdX(h:wD n):∃s fs cs,n.K_=⟨s::(fs++cs),B⟩/\n.K_.xs.filter (isK 3)=fs/\n.K_.xs.filter (isK 4)=cs/\zjm s/\(∀f∈fs,zbr f)/\∀c∈cs,zcz c:=by
 obtain⟨_,s,fs,cs,hk,hs,hf,hc⟩:=h;refine⟨s,fs,cs,hk,?_,?_,hs,hf,hc⟩
 ·rw[hk];have h1:fs.filter (isK 3)=fs:=U.2 λf h=>by simp[isK,(hf f h).1]
  have h2:cs.filter (isK 3)=[]:=V.2 λc h=>by simp[isK,(hc c h).1]
  simp only[M,W,h1,h2,isK,hs.1,List.append_nil];rfl
 ·rw[hk];have h1:fs.filter (isK 4)=[]:=V.2 λf h=>by simp[isK,(hf f h).1]
  have h2:cs.filter (isK 4)=cs:=U.2 λc h=>by simp[isK,(hc c h).1]
  simp only[M,W,h1,h2,isK,hs.1];rfl
theorem zyg {t:Sl PT}(hg:wD n) (ht:t.xs.length<=20000) (hn:n.K_.xs.length<=20000) :
    q65 (t,n)=d (match xg t.xs n with | .error e =>.inl e | .ok x =>.inr ((x.N_,x.S_,x.o_),x.E_,x.U_)):=by
 unfold q65 qbj;simp only[zm];rw[zu4 n (by omega)];obtain⟨s,fs,cs,hk,hf3,hc4,hs,hf,hc⟩:=zdX hg;have hks:zV n=s:=by unfold zV;rw[hk];rfl
 have hlen:(s::(fs++cs)).length<=20000:=by have:=hn;rw[hk] at this;exact this
 simp only[jz,jy] at hlen;unfold xg;rw[hf3,hc4];simp only[jj,zcA t _ (by omega),W6,jl];by_cases h0:0<=idT n.T_ t.xs
 ·simp only[show¬ (idT n.T_ t.xs < 0) by omega,h0,jq,jp,jo]
 simp only[show idT n.T_ t.xs < 0 by omega,h0,jq,jp,jm];by_cases h8:8 < fs.length
 ·simp only[show¬ (Sl.len (mkS fs)<=8) by show¬ ((fs.length:Int)<=8);omega,h8,jq,jp,jo]
 simp only[show Sl.len (mkS fs)<=8 by show(fs.length:Int)<=8;omega,h8,jq,jp,jm];rw[show(C [] false:Sl PF)=mkS [] from rfl,zng (by omega) (by rw[hk];simp) hf];simp only[jj];cases e1:fs.foldlM (YZ (zV n) fs) [] with
 |error e=>rfl
 |ok fl=>
  simp only[jm,D];rw[show za n.K_ 0=d s by rw[hk];rfl,hks];simp only[jj,zm];obtain⟨w,hw⟩:=zu5 (t:=t) (s:=s) (fs:=mkS fs) (cs:=mkS cs) hs (by omega) (show fs.length<=100000 by omega) (show cs.length<=100000 by omega) n.T_ (mkS fl) (C [] F);rw[hw];simp only[jj,show(mkS fs).xs=fs from rfl,show(mkS cs).xs=cs from rfl];cases e2:xY t.xs s fs cs with
  |error e=>rfl
  |ok so=>
   simp only[jm];rw[show(C [] false:Sl PL)=mkS [] from rfl];rw[znh (fs:=mkS fs) (show fs.length<=20000 by omega) (by omega) hc _ (n.T_,so.1,so.2)];simp only[jj,show(mkS fs).xs=fs from rfl];cases e3:cs.foldlM (YF fs (so.1,so.2)) [] with
   |error e=>rfl
   |ok l=>rfl
theorem zau {st:Nat->A->S}{fin:A->R}{er:A->E->R}
    (h:∀i (hi:i < xs.length) a,I i a->f (st i a)=d (match step a xs[i] with | .ok a' =>.next (st (i+1) a') | .error e =>.done (er a e)))
    (hI:∀i (hi:i < xs.length) a a',I i a->step a xs[i] = .ok a'->I (i+1) a') (h0:∀a,I xs.length a->f (st xs.length a)=d (.done (fin a))) {a:A} (ha:I 0 a) :
    match xs.foldlM step a with | .ok a'=>lpO f (st 0 a)=d (fin a')/\I xs.length a' | .error e=>∃(i:Nat) (a':A),I i a'/\i < xs.length/\lpO f (st 0 a)=d (er a' e):=by
 have:∀(n i:Nat) (a:A),i+n=xs.length->I i a->match(xs.drop i).foldlM step a with | .ok a'=>lpO f (st i a)=d (fin a')/\I xs.length a' | .error e=>∃(j:Nat) (a':A),I j a'/\j < xs.length/\lpO f (st i a)=d (er a' e):=by
  intro n
  induction n with
  |zero=>
   intro i a hi ha;obtain rfl:i=xs.length:=by omega
   rw[UA (UN _)];exact⟨zA (h0 a ha),ha⟩
  |succ n ih=>
   intro i a hi ha;have hlt:i < xs.length:=by omega
   have h1:=h i hlt a ha;rw[Dt hlt,H];cases hs:step a xs[i] with
   |error e=>rw[hs] at h1;exact⟨i,a,ha,hlt,zA h1⟩
   |ok a'=>
    rw[hs] at h1;rw[zG h1];exact ih (i+1) a' (by omega) (hI i hlt a a' ha hs)
 have h2:=this xs.length 0 a (by omega) ha
 rwa [Dv] at h2
noncomputable abbrev zgZ:=qco q65 q7z q6w
theorem zu7 (hg:∀k∈n.K_.xs,k.k_=1->wD k/\k.K_.xs.length<=20000) (hn:n.K_.xs.length<=20000) :
    q6n n=d (match zbs n.K_.xs with | .error e=>(e.1,e.2,nilS) | .ok t=>(0,0,mkS t)):=by
 have:=zau (f:=zgZ) (xs:=n.K_.xs) (step:=λt k=>if k.k_=1 then(xg t k).bind λx =>.ok (t++[x]) else .ok t) (st:=λi a=>(n.K_,n.K_.len,(i:Int),n,0,0,mkS a))
  (fin:=λa =>.inr (n,0,0,mkS a)) (er:=λa e =>.inl (e,n,0,0,mkS a)) (I:=λi a=>a.length<=i)
  (λi hi a ha=>by
    unfold zgZ qco;have hw:=zw (k:=i) (by omega);simp only[jl,zm];rw[jv (show((i:Int) < Sl.len n.K_) by show(i:Int) < (n.K_.xs.length:Int);omega),zg hi];simp only[jj,zm];by_cases h1:n.K_.xs[i].k_=1
    · obtain⟨g1,g2⟩:=hg _ (gc hi) h1;simp only[h1,jq];rw[zyg g1 (show a.length<=20000 by omega) g2];simp only[show(mkS a).xs=a from rfl];cases xg a n.K_.xs[i] with
      |error e=>simp only[jj,jo,ZI];rfl
      |ok x=>
       simp only[jj,jm,D];rw[show qa.mk x.N_ x.S_ x.o_ x.E_ x.U_=x from rfl,xZ (by omega) (by simp;omega)];simp only[jj,jm,ZI,hw]
    ·simp only[h1,jp,jj,jm,hw])
  (λi hi a a' ha e=>by
    split at e
    · cases e1:xg a n.K_.xs[i] with
      |error er=>rw[e1] at e;cases e
      |ok x=>rw[e1] at e;cases e;simp;omega
    ·cases e;omega)
  (λa _=>by
    unfold zgZ qco;simp only[jl,zm]
    rw[jx (show¬ ((n.K_.xs.length:Int) < Sl.len n.K_) by show¬ ((n.K_.xs.length:Int) < (n.K_.xs.length:Int));omega)])
  (a:=[]) (by simp)
 unfold q6n qeg;simp only[zm];show((lpO zgZ (n.K_,n.K_.len,((0:Nat):Int),n,0,0,mkS [])).bind _)=_;unfold zbs;cases e:n.K_.xs.foldlM (m:=Except Er) (λt k=>if k.k_=1 then(xg t k).bind λx =>.ok (t++[x]) else .ok t) [] with
 |error er=>
  rw[e] at this;obtain⟨j,a,_,_,h⟩:=this;rw[h];rfl
 |ok t=>
  rw[e] at this;rw[this.1];rfl
abbrev RTy:=qd
def rF(x:PF):qn:=⟨x.N_,x.z_⟩
def rQ(x:PL):qu:=⟨x.X_,x.Y_,x.C_⟩
def slm(f:α->β)(s:Sl α):Sl β:=⟨s.xs.map f,s.nn⟩
def rT(x:PT):RTy:=⟨x.N_,x.S_,x.o_,slm rF x.E_,slm rQ x.U_⟩
theorem zsW(f:α->β)(l:List α):slm f (mkS l)=mkS (l.map f):=by cases l<;>rfl
theorem YM(l:List α):(mkS l).len=(l.length:Int):=rfl
theorem Xd{f:α->β}(h:i < l.length):za (mkS (l.map f)) (i:Int)=d (f l[i]):=by
 rw[zg (s:=mkS (l.map f)) (by simpa[mkS] using h)];simp[mkS]
theorem zZ(n:Nd):(rN n).T_=n.T_:=by rw[ym]
theorem ZT(n:Nd):(rN n).k_=n.k_:=by rw[ym]
theorem Y0(n:Nd):(rN n).a_=n.a_:=by rw[ym]
theorem zyh(n:Nd):(rN n).n_=n.n_:=by rw[ym]
theorem zF(n:Nd):(rN n).K_=⟨n.K_.xs.map rN,n.K_.nn⟩:=by rw[ym,yq]
theorem zav(t:List PT)(n:U5)(ht:t.length<=1000000):q1a (mkS (t.map rT),n)=d (idT n t):=by
 have:=wm (f:=q5h) (xs:=t) (p:=λx=>decide (x.N_=n)) (st:=λi=>(mkS (t.map rT),n,(i:Int))) (yes:=λi =>.inl (i:Int)) (no :=.inr ())
  (λi hi=>by
   unfold q5h;simp only[jl,YM,D4];rw[jv (by omega),Xd hi,jj,zw (by omega)]
   by_cases h:t[i].N_=n<;>simp[h,rT])
  (by unfold q5h;simp only[jl,YM,D4];grind)
 show((lpO q5h (mkS (t.map rT),n,((0:Nat):Int))).bind _)=_;rw[this];unfold idT idx;cases t.findIdx? _<;>rfl
theorem vY(fs:List Nd)(n:U5)(hf:fs.length<=1000000):q1e (mkS (fs.map rN),n)=d (Zf fs n):=by
 have:=wm (f:=q4n) (xs:=fs) (p:=λx=>decide (x.T_=n) && decide (x.K_.len=0)) (st:=λi=>(mkS (fs.map rN),n,(i:Int))) (yes:=λi =>.inl (i:Int)) (no :=.inr ())
  (λi hi=>by
   unfold q4n;simp only[jl,YM,D4];rw[jv (by omega),Xd hi];simp only[jj,zZ,zF];have hl:Sl.len (⟨fs[i].K_.xs.map rN,fs[i].K_.nn⟩:Sl RNd)=fs[i].K_.len:=by simp[Sl.len]
   have hw:=zw (k:=i) (by omega);rw[hl];by_cases h:fs[i].T_=n
   ·by_cases h2:fs[i].K_.len=0<;>simp only[h,h2,jq,jp,js,jr,jj,Bool.and_self,Bool.and_false,jk,hw]
   grind)
  (by unfold q4n;simp only[jl,YM,D4];grind)
 show((lpO q4n (mkS (fs.map rN),n,((0:Nat):Int))).bind _)=_;rw[this];unfold Zf idx;cases fs.findIdx? _<;>rfl
theorem zzY{acc:List Nd}{x:Nd}(h:acc.length<=50000):zo 64 (mkS (acc.map rN)) [rN x]=d (mkS ((acc++[x]).map rN)):=by
 rw[xZ (by omega) (by simp;omega)];simp
theorem zml(n:Nd)(k:Int)(h:n.K_.xs.length<=40000):q1f (rN n,k)=d (mkS ((n.K_.xs.filter (isK k)).map rN)):=by
 have:=zau (E:=Er) (f:=q6x) (xs:=n.K_.xs) (A:=List Nd) (step:=λa x =>.ok (if isK k x then a++[x] else a)) (st:=λi a=>(k,(i:Int),rN n,mkS (a.map rN))) (fin:=λa=>mkS (a.map rN)) (er:=λ_ _=>mkS []) (I:=λi a=>a.length<=i)
  (λi hi a ha=>by
   unfold q6x;simp only[jl,zi];have hg:za (rN n).K_ (i:Int)=d (rN n.K_.xs[i]):=by rw[zF,zg (by simpa using hi)];simp
   rw[jv (by rw[zF];simp[Sl.len];omega),hg];simp only[jj,ZT,isK,jl];have hw:=zw (k:=i) (by omega);by_cases h2:n.K_.xs[i].k_=k
   ·simp only[h2,jq];rw[zzY (by omega)];grind
   grind)
  (λi hi a a' ha e=>by grind)
  (λa _=>by unfold q6x;simp only[jl];rw[jx (by rw[zF];simp[Sl.len])])
  (a:=[]) (by simp)
 have e:∀(l a:List Nd),l.foldlM (m:=Except Er) (λ(a:List Nd) x =>.ok (if isK k x then a++[x] else a)) a = .ok (a++l.filter (isK k)):=by
  intro l
  induction l with
  |nil=>intro a;simp;rfl
  |cons x l ih=>
   intro a;rw[H];show K _ (if isK k x then a++[x] else a) l=_;grind
 rw[e] at this;unfold q1f q99;simp only[zi];rw[show(0:Int)=((0:Nat):Int) from rfl,show(C [] false:Sl RNd)=mkS (([]:List Nd).map rN) from rfl,this.1];simp
theorem zjp{acc:List PL}{x:PL}(h:acc.length<=50000):zo 24 (mkS (acc.map rQ)) [rQ x]=d (mkS ((acc++[x]).map rQ)):=by
 rw[xZ (by omega) (by simp;omega)];simp
theorem zsX{c:U5}(hc:c=lit [60]\/c=lit [60,61]\/c=lit [61,61])(a b k l:Int):q1d (c,a,b,k,l)=d (mkS ((vX c a b k l).map rQ)):=by
 unfold q1d q88 vX;rcases hc with rfl | rfl | rfl
 ·simp (decide:=true) only [jq,jp,jj,js,jr,jk];rfl
 ·simp (decide:=true) only [jq,jp,jj,js,jr,jk];rw[show(C [] false:Sl qu)=mkS (([]:List PL).map rQ) from rfl,show qu.mk a b (U8 (l - k))=rQ ⟨a,b,U8 (l - k)⟩ from rfl,zjp (by simp)];rfl
 ·simp (decide:=true) only [jq,jp,jj,js,jr,jk];rw[show(C [] false:Sl qu)=mkS (([]:List PL).map rQ) from rfl,show qu.mk a b (U8 (l - k))=rQ ⟨a,b,U8 (l - k)⟩ from rfl,zjp (by simp)];simp only[jj];rw[show qu.mk b a (U8 (k - l))=rQ ⟨b,a,U8 (k - l)⟩ from rfl,zjp (by simp)];rfl
noncomputable abbrev zpI:=q5x q1f q1a q1e q1d
noncomputable abbrev zmm:=q4s q1f q1a q1e q1d
noncomputable abbrev zpJ:=qa9 q1f q1a q1e q1d
noncomputable abbrev zpK:=q5y q1f q1a q1e q1d
noncomputable abbrev zmn:=q45 q1f q1a q1e q1d
theorem zyi (hi:i<=fs.length) (hf:fs.length<=20000) (f:Nd) (T:Sl RTy) (z:Hd) (cs:Sl RNd) (s:RNd) (h:Hd) (fl:Sl qn) :
    lpO zpI ((i:Int),0,T,z,mkS (fs.map rN),cs,s,h,rN f,fl)=d (if 0<=idN f.T_ (fs.take i) then .inl (f.a_,30,T,h,fl) else .inr ((i:Int),T,z,mkS (fs.map rN),cs,s,h,rN f,fl)):=by
 have hl:(fs.take i).length=i:=by simp;omega
 have:=wm (f:=zpI) (xs:=fs.take i) (p:=λx=>decide (x.T_=f.T_)) (st:=λk=>((i:Int),(k:Int),T,z,mkS (fs.map rN),cs,s,h,rN f,fl)) (yes:=λ_ =>.inl (f.a_,30,T,h,fl)) (no :=.inr ((i:Int),T,z,mkS (fs.map rN),cs,s,h,rN f,fl))
  (λk hk=>by
    rw[hl] at hk;unfold zpI q5x;simp only[jl,zi];rw[jv (by omega),Xd (by omega)];simp only[jj,zZ,Y0,List.getElem_take];rw[zw (by omega)]
    grind)
  (by unfold zpI q5x;simp only[jl,zi,hl];grind)
 rw[show(0:Int)=((0:Nat):Int) from rfl,this];unfold idN idx;cases(fs.take i).findIdx? _ with
 |none=>simp
 |some j=>simp
theorem zv7{acc:List PF}{x:PF}(h:acc.length<=50000):zo 24 (mkS (acc.map rF)) [rF x]=d (mkS ((acc++[x]).map rF)):=by
 rw[xZ (by omega) (by simp;omega)];simp
theorem zyj (hf:fs.length<=20000) (s:Nd) (hg:∀f∈fs,zbr f) (T:Sl RTy) (z:Hd) (cs:Sl RNd) (h:Hd) :
    match fs.foldlM (YZ s fs) [] with
    | .ok l=>lpO zmm (0,T,z,mkS (fs.map rN),cs,rN s,h,mkS [])=d (.inr (T,z,mkS (fs.map rN),cs,rN s,h,mkS (l.map rF)))
    | .error e=>∃w,lpO zmm (0,T,z,mkS (fs.map rN),cs,rN s,h,mkS [])=d (.inl (e.1,e.2,T,h,w)):=by
 have:=zau (f:=zmm) (xs:=fs) (step:=YZ s fs) (st:=λi a=>((i:Int),T,z,mkS (fs.map rN),cs,rN s,h,mkS (a.map rF))) (fin:=λa =>.inr (T,z,mkS (fs.map rN),cs,rN s,h,mkS (a.map rF))) (er:=λa e =>.inl (e.1,e.2,T,h,mkS (a.map rF))) (I:=λi a=>a.length=i)
  (λi hi a ha=>by
    unfold zmm q4s;have hgi:=hg fs[i] (gc hi);have hw:=zw (k:=i) (by omega);simp only[jl,zi,YM,D4];rw[jv (by omega),Xd hi];simp only[jj];have h0:=zyi (i:=i) (Nat.le_of_lt hi) hf fs[i] T z cs (rN s) h (mkS (a.map rF));rw[show lpO (q5x q1f q1a q1e q1d) ((i:Int),0,T,z,mkS (fs.map rN),cs,rN s,h,rN fs[i],mkS (a.map rF))=_ from h0];simp only[jj,YZ,ha];by_cases h1:0<=idN fs[i].T_ (fs.take i)
    ·grind
    simp only[h1,jp,jm];obtain⟨_,hk0 | ⟨k,hk1,_⟩⟩:=hgi
    · have hkl:(rN fs[i]).K_.len=0:=by rw[zF,hk0];rfl
      simp (decide:=true) only [hkl,jp,jm,jj,zZ,show qn.mk fs[i].T_ (-1)=rF ⟨fs[i].T_, -1⟩ from rfl];rw[zv7 (by omega)];grind
    · have hkx:¬ fs[i].K_.xs=[]:=by rw[hk1];simp
      have e0:zV fs[i]=k:=by unfold zV;rw[hk1];rfl
      have hkl:(rN fs[i]).K_=⟨[rN k],B⟩:=by rw[zF,hk1];rfl
      simp only[hkx,jp,e0];simp (decide:=true) only [hkl,show Sl.len (⟨[rN k],B⟩:Sl RNd)=1 from rfl,show za (⟨[rN k],B⟩:Sl RNd) 0=d (rN k) from rfl,jq,jj,zZ,Y0,vY fs _ (show fs.length<=1000000 by omega)];by_cases h2:s.T_=lit [111,119,110]
      · by_cases h3:0<=Zf fs k.T_
        ·simp only[zZ,h2,h3,Dm,jt,jp,and_self,jq,show¬ (Zf fs k.T_ < 0) by omega,jk,jm,jj,jr,show qn.mk fs[i].T_ (Zf fs k.T_)=rF ⟨fs[i].T_,Zf fs k.T_⟩ from rfl];rw[zv7 (by omega)];grind
        ·simp only[Y0,h2,h3,Dm,jt,jp,and_false,jq,show Zf fs k.T_ < 0 by omega,jo,jj,js]
      ·simp only[Y0,h2,Dm,ju,jq,false_and,jp,jo,jj])
  (λi hi a a' ha e=>by
    unfold YZ at e;split at e
    all_goals grind)
  (λa _=>by
    unfold zmm q4s;simp only[jl,zi,YM,D4]
    grind)
  (a:=[]) rfl
 cases e:fs.foldlM (YZ s fs) [] with
 |error er=>grind
 |ok l=>grind
def spc(so:Int×Int):Int:=if so.1=2\/so.1=3 then so.2 else -1
theorem znY (hf:fs.length<=20000) (hi:i < cs.length) {k:Nd}{j:Int}(hj:j=0\/j=1) (hk:za (rN cs[i]).K_ j=d (rN k)) (T:Sl RTy) (z h:Hd) (v0 v1:Int) (w:Sl qn) (q:Sl qu) :
    zpJ (spc h.2,(i:Int),j,T,z,mkS (fs.map rN),mkS (cs.map rN),h,⟨[v0,v1],B⟩,w,q)=d (match yx fs h.2 cs[i] k with
     | .error e =>.done (.inl (e.1,e.2,T,h,w,q))
     | .ok v =>.next (spc h.2,(i:Int),j+1,T,z,mkS (fs.map rN),mkS (cs.map rN),h,⟨[if k.T_=lit [] then v0 else if j=0 then v else v0,if k.T_=lit [] then v1 else if j=0 then v1 else v],B⟩,w,q)):=by
 unfold zpJ qa9;have hl:Zf fs k.T_ < fs.length:=yz.2.1;have hl0 : -1<=Zf fs k.T_:=yz.1;have hw:U8 (j+1)=j+1:=zK (by omega) (by omega);have hw2:U8 (Zf fs k.T_+1)=Zf fs k.T_+1:=zK (by omega) (by omega);have hv:∀x y:Int,∃u,za (⟨[x,y],B⟩:Sl Int) j=d u:=λx y=>by rcases hj with rfl | rfl<;>exact⟨_,rfl⟩
 have hs:∀x y u:Int,Sl.set (⟨[x,y],B⟩:Sl Int) j u=⟨[if j=0 then u else x,if j=0 then y else u],B⟩:=λx y u=>by rcases hj with rfl | rfl<;>rfl
 simp only[jl];rw[jv (by omega),Xd hi];simp only[jj,hk,zZ,Y0,vY fs _ (show fs.length<=1000000 by omega),yx];by_cases ht:k.T_=lit []
 ·grind
 simp only[ht,jp];by_cases h0:0<=Zf fs k.T_
 case neg=>simp only[Xd hi,Y0,show Zf fs k.T_ < 0 by omega,h0,jq,jp,false_and,jj,jm]
 have hsp:(Zf fs k.T_=spc h.2)=((h.2.1=2\/h.2.1=3)/\Zf fs k.T_=h.2.2):=by
  unfold spc;grind
 obtain⟨u,hu⟩:=hv v0 v1;by_cases hc:(h.2.1=2\/h.2.1=3)/\Zf fs k.T_=h.2.2
 ·simp only[Xd hi,Y0,show¬ (Zf fs k.T_ < 0) by omega,h0,jp,UJ,hsp,eq_true hc,jq,jt,and_self,js,jj,jm]
 ·simp only[show¬ (Zf fs k.T_ < 0) by omega,h0,jp,UJ,hsp,eq_false hc,jq,ju,jr,jk,jj,jo,hu,hs,hw,hw2]
theorem zyk (sp:Int) (i:Int) (T:Sl RTy) (z h:Hd) (fs cs:Sl RNd) (fl:Sl qn) (l acc:List PL) (ha:acc.length+l.length<=50000) :
    lpO zpK (sp,i,0,T,z,fs,cs,h,mkS (l.map rQ),fl,mkS (acc.map rQ))=d (sp,i,T,z,fs,cs,h,fl,mkS ((acc++l).map rQ)):=by
 have:=zau (E:=Er) (f:=zpK) (xs:=l) (step:=λa x =>.ok (a++[x])) (st:=λk a=>(sp,i,(k:Int),T,z,fs,cs,h,mkS (l.map rQ),fl,mkS (a.map rQ))) (fin:=λa=>(sp,i,T,z,fs,cs,h,fl,mkS (a.map rQ))) (er:=λa _=>(sp,i,T,z,fs,cs,h,fl,mkS (a.map rQ))) (I:=λk a=>a.length=acc.length+k)
  (λk hk a ha=>by
    unfold zpK q5y;simp only[jl,YM,D4];rw[jv (by omega),Xd hk];simp only[jj]
    rw[zjp (by omega),jj,zw (by omega)])
  (λk hk a a' ha e=>by grind)
  (λa _=>by unfold zpK q5y;simp only[jl,YM,D4];grind)
  (a:=acc) rfl
 have e:∀(l a:List PL),l.foldlM (m:=Except Er) (λ(a:List PL) x =>.ok (a++[x])) a = .ok (a++l):=by
  intro l
  induction l with
  |nil=>intro a;simp;rfl
  |cons x l ih=>intro a;rw[H];show K _ (a++[x]) l=_;rw[ih];simp
 grind
theorem zyl (hf:fs.length<=20000) (hc:cs.length<=20000) (hg:∀c∈cs,zcz c) (T:Sl RTy) (z h:Hd) (fl:Sl qn) :
    match cs.foldlM (YF fs h.2) [] with
    | .ok l=>lpO zmn (spc h.2,0,T,z,mkS (fs.map rN),mkS (cs.map rN),h,fl,mkS [])=d (.inr (T,z,h,fl,mkS (l.map rQ)))
    | .error e=>∃w,lpO zmn (spc h.2,0,T,z,mkS (fs.map rN),mkS (cs.map rN),h,fl,mkS [])=d (.inl (e.1,e.2,T,h,fl,w)):=by
 have:=zau (f:=zmn) (xs:=cs) (step:=YF fs h.2) (st:=λi a=>(spc h.2,(i:Int),T,z,mkS (fs.map rN),mkS (cs.map rN),h,fl,mkS (a.map rQ))) (fin:=λa =>.inr (T,z,h,fl,mkS (a.map rQ))) (er:=λa e =>.inl (e.1,e.2,T,h,fl,mkS (a.map rQ))) (I:=λi a=>a.length<=2 * i)
  (λi hi a ha=>by
    unfold zmn q45;have hw:=zw (k:=i) (by omega);obtain⟨_,ht,x,y,hk,_,_⟩:=hg cs[i] (gc hi);have ka:zV cs[i]=x:=by unfold zV;rw[hk];rfl
    have kb:V4 cs[i]=y:=by unfold V4 zV;rw[hk];rfl
    have hks:(rN cs[i]).K_=⟨[rN x,rN y],B⟩:=by rw[zF,hk];rfl
    have g0:za (rN cs[i]).K_ 0=d (rN x):=by rw[hks];rfl
    have g1:za (rN cs[i]).K_ 1=d (rN y):=by rw[hks];rfl
    have b0:=znY hf hi (.inl rfl) g0 T z h 0 0 fl (mkS (a.map rQ));simp only[jl,YM,D4];rw[jv (by omega)];unfold YF;rw[ka,kb];show N (lpO zpJ _) _=_;cases e0:yx fs h.2 cs[i] x with
    |error er=>rw[e0] at b0;rw[zA b0];rfl
    |ok v=>
     rw[e0] at b0;have b1:=znY hf hi (.inr rfl) g1 T z h v 0 fl (mkS (a.map rQ));have hv:(if x.T_=lit [] then(0:Int) else v)=v:=by
      split
      ·rename_i h0;unfold yx at e0;grind
      ·rfl
     simp only[jq,hv,ite_self] at b0;rw[zG b0];show N (lpO zpJ (spc h.2,(i:Int),1,T,z,mkS (fs.map rN),mkS (cs.map rN),h,⟨[v,0],B⟩,fl,mkS (a.map rQ))) _=_;cases e1:yx fs h.2 cs[i] y with
     |error er=>rw[e1] at b1;rw[zA b1];rfl
     |ok w=>
      rw[e1] at b1;have hw2:(if y.T_=lit [] then(0:Int) else w)=w:=by
       split
       ·rename_i h0;unfold yx at e1;grind
       ·rfl
      simp (decide:=true) only [jp,hw2,ite_self] at b1;rw[zG b1,zA (y :=.inr (spc h.2,(i:Int),T,z,mkS (fs.map rN),mkS (cs.map rN),h,⟨[v,w],B⟩,fl,mkS (a.map rQ))) rfl];have hln:=zat cs[i].T_ v w x.n_ y.n_;simp only[jj,jm,Xd hi,g0,g1,zZ,zyh,show za (⟨[v,w],B⟩:Sl Int) 0=d v from rfl,show za (⟨[v,w],B⟩:Sl Int) 1=d w from rfl,zsX ht,D];rw[show lpO (q5y q1f q1a q1e q1d) _=_ from zyk _ _ _ _ _ _ _ _ (vX cs[i].T_ v w x.n_ y.n_) a (by omega)]
      grind)
  (λi hi a a' ha e=>by
    unfold YF at e;cases e1:yx fs h.2 cs[i] (zV cs[i]) with
    |error er=>rw[e1] at e;cases e
    |ok v=>
     cases e2:yx fs h.2 cs[i] (V4 cs[i]) with
     |error er=>rw[e1,e2] at e;cases e
     |ok w=>
      rw[e1,e2] at e;cases e;have:=zat cs[i].T_ v w (zV cs[i]).n_ (V4 cs[i]).n_
      grind)
  (λa _=>by
    unfold zmn q45;simp only[jl,YM,D4]
    grind)
  (a:=[]) (by simp)
 cases e:cs.foldlM (YF fs h.2) [] with
 |error er=>grind
 |ok l=>grind
theorem zzZ {t:List PT}(hg:wD n) (ht:t.length<=20000) (hn:n.K_.xs.length<=20000) :
    ∃w:Er->RTy,q4b (rN n,mkS (t.map rT))=d (match xg t n with | .error e=>(w e,e.1,e.2,mkS (t.map rT)) | .ok x=>(rT x,0,0,mkS (t.map rT))):=by
 obtain⟨s,fs,cs,hk,hf3,hc4,hs,hf,hc⟩:=zdX hg;have hks:zV n=s:=by unfold zV;rw[hk];rfl
 have hlen:(s::(fs++cs)).length<=20000:=by grind
 simp only[jz,jy] at hlen;unfold q4b qaa xg;simp only[zi];rw[zml n 3 (by omega),zml n 4 (by omega),hf3,hc4,hks,zav t _ (by omega)];simp only[jj,zZ,Y0,jl,YM,D4];rw[show za (rN n).K_ 0=d (rN s) by rw[zF,hk];rfl];simp only[jj,zi];by_cases h0:0<=idT n.T_ t
 ·simp only[h0,jq];exact⟨λ_=>_,rfl⟩
 simp only[h0,jp];by_cases h8:8 < fs.length
 ·simp only[show(8:Int) < (fs.length:Int) by omega,h8,jq];exact⟨λ_=>_,rfl⟩
 simp only[show¬ ((8:Int) < (fs.length:Int)) by omega,h8,jp];have h1:=zyj (fs:=fs) (by omega) s hf (mkS (t.map rT)) (lit [],0,0) (mkS (cs.map rN)) (n.T_,0,0);rw[show(C [] false:Sl qn)=mkS [] from rfl];cases e1:fs.foldlM (YZ s fs) [] with
 |error e=>
  rw[e1] at h1;obtain⟨w,h1⟩:=h1;rw[show lpO (q4s q1f q1a q1e q1d) _=_ from h1];exact⟨λ_=>_,rfl⟩
 |ok fl=>
  rw[e1] at h1;simp only at h1;rw[show lpO (q4s q1f q1a q1e q1d) _=_ from h1];simp only[jj,jm,D]
  have fin:∀so:Int×Int,∃w:Er->RTy,((lpO (q45 q1f q1a q1e q1d) (spc so,0,mkS (t.map rT),(lit [],0,0),mkS (fs.map rN),mkS (cs.map rN),(n.T_,so.1,so.2),mkS (fl.map rF),C [] F)).bind λy78=>
      Sum.elim (λy79=>d (qd.mk y79.2.2.2.1.1 y79.2.2.2.1.2.1 y79.2.2.2.1.2.2 y79.2.2.2.2.1 y79.2.2.2.2.2,y79.1,y79.2.1,y79.2.2.1)) (λy80=>d (qd.mk y80.2.2.1.1 y80.2.2.1.2.1 y80.2.2.1.2.2 y80.2.2.2.1 y80.2.2.2.2,0,0,y80.1)) y78) =
      d (match(cs.foldlM (YF fs so) []).bind λfa=>(.ok ⟨n.T_,so.1,so.2,mkS fl,mkS fa⟩:Except Er PT) with | .error e=>(w e,e.1,e.2,mkS (t.map rT)) | .ok x=>(rT x,0,0,mkS (t.map rT))):=by
   intro so;have h4:=zyl (fs:=fs) (cs:=cs) (by omega) (by omega) hc (mkS (t.map rT)) (lit [],0,0) (n.T_,so.1,so.2) (mkS (fl.map rF));rw[show(C [] false:Sl qu)=mkS [] from rfl];cases e4:cs.foldlM (YF fs so) [] with
   |error e=>
    rw[show((n.T_,so.1,so.2):Hd).2=so from rfl,e4] at h4;obtain⟨w,h4⟩:=h4;rw[show lpO (q45 q1f q1a q1e q1d) _=_ from h4];exact⟨λ_=>_,rfl⟩
   |ok l=>
    rw[show((n.T_,so.1,so.2):Hd).2=so from rfl,e4] at h4;simp only at h4;rw[show lpO (q45 q1f q1a q1e q1d) _=_ from h4];refine⟨λ_=>⟨lit [],0,0,mkS [],mkS []⟩,?_⟩;simp only[jj,jm,D,rT,zsW]
  have i0:idx (λw=>decide (lit [111,119,110]=w)) Yi=0:=by decide +kernel
  have i1:idx (λw=>decide (lit [99,101,108,108]=w)) Yi=1:=by decide +kernel
  have i2:idx (λw=>decide (lit [99,111,117,110,116,101,100]=w)) Yi=2:=by decide +kernel
  have i3:idx (λw=>decide (lit [108,111,99,107]=w)) Yi=3:=by decide +kernel
  have i4:idx (λw=>decide (lit [103,117,97,114,100]=w)) Yi=4:=by decide +kernel
  obtain⟨kd,tx,nu,a,ks⟩:=s;obtain⟨_,hs⟩:=hs;simp only at hs;have g0:∀(k:Nd),za (rN ⟨kd,tx,nu,a,⟨[k],B⟩⟩).K_ 0=d (rN k):=λk=>by rw[zF];rfl
  obtain⟨rfl | rfl,rfl⟩ | ⟨w,hw,rfl,k,rfl,_⟩:=hs
  ·unfold xY;simp (decide:=true) only [i0,jj,jp,jq,jm,jo,jr,jk,Z7,zZ];exact fin (0,0)
  ·unfold xY;simp (decide:=true) only [i1,jj,jp,jq,jm,jo,jr,jk,Z7,zZ];exact fin (1,0)
  simp only[zes,De,Q,or_false] at hw;rcases hw with rfl | rfl | rfl
  · unfold xY;simp (decide:=true) only [i2,jj,jp,jq,jm,jo,jr,js,jk,Z7,zZ,Y0,g0,vY fs _ (show fs.length<=1000000 by omega),zV,Du];by_cases h:0<=Zf fs k.T_
    ·simp only[h,show¬ (Zf fs k.T_ < 0) by omega,jq,jp,jm,jo,jj];have:=fin (2,Zf fs k.T_);simp (decide:=true) only [spc,jq,or_false] at this;exact this
    ·simp only[h,show Zf fs k.T_ < 0 by omega,jq,jp,jm,jo,jj];exact⟨λ_=>_,rfl⟩
  · unfold xY;simp (decide:=true) only [i3,jj,jp,jq,jm,jo,jr,js,jk,Z7,zZ,Y0,g0,vY fs _ (show fs.length<=1000000 by omega),zV,Du];by_cases h:0<=Zf fs k.T_
    ·simp only[h,show¬ (Zf fs k.T_ < 0) by omega,jq,jp,jm,jo,jj];have:=fin (3,Zf fs k.T_);simp (decide:=true) only [spc,jq,or_true] at this;exact this
    ·simp only[h,show Zf fs k.T_ < 0 by omega,jq,jp,jm,jo,jj];exact⟨λ_=>_,rfl⟩
  · unfold xY;have hl:idT k.T_ t < t.length:=yz.2.1;simp (decide:=true) only [i4,jj,jp,jq,jm,jo,jr,js,jk,Z7,zZ,Y0,g0,zav t _ (show t.length<=1000000 by omega),zV,Du];by_cases h:0<=idT k.T_ t
    · obtain⟨j,hj⟩:∃j:Nat,idT k.T_ t=j:=⟨_,(DH h).symm⟩
      rw[hj] at hl;have hlt:j < t.length:=by omega
      simp only[hj,show(0:Int)<=(j:Int) by omega,show¬ ((j:Int) < 0) by omega,jq,jp,UJ,Xd hlt,jj,O,UM hlt,P,rT];by_cases h3:t[j].S_=3
      · simp only[h3,YM,D4,jq,jp,jm,jj,Dm,jt];by_cases h0:fs.length+cs.length=0
        ·simp only[h0,show¬ ((0:Int) < (fs.length:Int)) by omega,show¬ ((0:Int) < (cs.length:Int)) by omega,jq,jp,jr,jk,jm,jo,jj];exact fin (4,(j:Int))
        · simp only[h0,jp];by_cases hf0:(0:Int) < (fs.length:Int)
          ·simp only[hf0,jq,jo,jm,jj];exact⟨λ_=>_,rfl⟩
          ·simp only[hf0,show(0:Int) < (cs.length:Int) by omega,jq,jp,js,jo,jm,jj];exact⟨λ_=>_,rfl⟩
      ·simp only[h3,jq,jp,Dm,ju,jo,jm,jj];exact⟨λ_=>_,rfl⟩
    ·simp only[h,show idT k.T_ t < 0 by omega,jq,jp,false_and,jo,jm,jj];exact⟨λ_=>_,rfl⟩
theorem zsY (hg:∀k∈n.K_.xs,k.k_=1->wD k/\k.K_.xs.length<=20000) (hn:n.K_.xs.length<=20000) :
    q34 (rN n)=d (match zbs n.K_.xs with | .error e=>(e.1,e.2,C [] F) | .ok t=>(0,0,mkS (t.map rT))):=by
 have hne:∀(t:List PT) (k:Nd) (e:Er),xg t k = .error e->e.2≠0:=by
  intro t k e h;have hfold:∀{α A:Type} (f:A->α->Except Er A),(∀a x e,f a x = .error e->e.2≠0)->∀(l:List α) (a:A) (e:Er),l.foldlM f a = .error e->e.2≠0:=by
   intro α A f hf l
   induction l with
   |nil=>intro a e h;cases h
   |cons x l ih=>
    intro a e h;rw[H] at h;cases hx:f a x with
    |error er=>rw[hx] at h;cases h;grind
    |ok b=>rw[hx] at h;exact ih b e h
  unfold xg at h;simp only at h;split at h
  ·cases h;simp
  split at h
  ·cases h;simp
  generalize k.K_.xs.filter (isK 3)=fs at h;generalize k.K_.xs.filter (isK 4)=cs at h;cases e1:fs.foldlM (YZ (zV k) fs) [] with
  |error er=>
   rw[e1] at h;cases h;refine hfold _ (λa x e h=>?_) _ _ _ e1;unfold YZ at h;grind
  |ok fl=>
   rw[e1] at h;simp only[D] at h;cases e2:xY t (zV k) fs cs with
   |error er=>
    rw[e2] at h;cases h;unfold xY at e2;simp only at e2;split at e2
    ·grind
    split at e2
    ·grind
    ·cases e2
   |ok so=>
    rw[e2] at h;simp only at h;cases e3:cs.foldlM (YF fs so) [] with
    |ok fa=>grind
    |error er=>
     rw[e3] at h;cases h;refine hfold _ (λa x e h=>?_) _ _ _ e3;have hv:∀c k e,yx fs so c k = .error e->e.2≠0:=by
      intro c k e h;unfold yx at h;grind
     unfold YF at h;cases e5:yx fs so x (zV x) with
     |error er=>rw[e5] at h;cases h;grind
     |ok v=>
      cases e6:yx fs so x (V4 x) with
      |error er=>rw[e5,e6] at h;cases h;grind
      |ok w=>rw[e5,e6] at h;cases h
 have:=zau (f:=q4z q4b) (xs:=n.K_.xs) (step:=λt k=>if k.k_=1 then(xg t k).bind λx =>.ok (t++[x]) else .ok t) (st:=λi a=>((i:Int),rN n,mkS (a.map rT)))
  (fin:=λa =>.inr (mkS (a.map rT))) (er:=λ_ e =>.inl e) (I:=λi a=>a.length<=i)
  (λi hi a ha=>by
    unfold q4z;have hw:=zw (k:=i) (by omega);simp only[jl,zi];have hg0:za (rN n).K_ (i:Int)=d (rN n.K_.xs[i]):=by rw[zF,zg (by simpa using hi)];simp
    rw[jv (by rw[zF];simp[Sl.len];omega),hg0];simp only[jj,ZT,zi];by_cases h1:n.K_.xs[i].k_=1
    · obtain⟨g1,g2⟩:=hg _ (gc hi) h1;obtain⟨w,hw1⟩:=zzZ g1 (show a.length<=20000 by omega) g2;simp only[h1,Dm,jt,jp,jq,hw1,jj];cases e:xg a n.K_.xs[i] with
      |error e2=>have:=hne _ _ _ e;simp only[this,ju,jq,jj,jm,D]
      |ok x=>
       simp only[jt,jp,D];rw[xZ (by omega) (by simp;omega)];grind
    grind)
  (λi hi a a' ha e=>by
    split at e
    · cases e1:xg a n.K_.xs[i] with
      |error er=>rw[e1] at e;cases e
      |ok x=>rw[e1] at e;cases e;simp;omega
    grind)
  (λa _=>by
    unfold q4z;simp only[jl]
    rw[jx (by rw[zF];simp[Sl.len])])
  (a:=[]) (by simp)
 unfold q34 q89;simp only[zi];show((lpO (q4z q4b) (((0:Nat):Int),rN n,mkS (([]:List PT).map rT))).bind _)=_;unfold zbs;cases e:n.K_.xs.foldlM (m:=Except Er) (λt k=>if k.k_=1 then(xg t k).bind λx =>.ok (t++[x]) else .ok t) [] with
 |error er=>
  grind
 |ok t=>
  grind
end Go.Px
