/- Part Ld: Px22PL Px22PM Px22PN Px22PO Px22PP Px22PQ Px2 -/
import Derived.Test.YtpcipfnohfefhaaGreatDoorLc
set_option linter.unusedVariables false
set_option linter.unusedSimpArgs false
namespace Go.Px
open Bool renaming true->B,false->F
open Except renaming bind->D
open Int renaming toNat_natCast->O
open List renaming foldlM_cons->H,foldlM->K,filter_cons->M,not_mem_nil->Q,filter_eq_self->U,filter_eq_nil_iff->V,filter_append->W
open _root_.Option renaming some->d,bind->N,elim_some->P
open Sl renaming mk->C
variable{A E R S α β:Type}{cs fs:List Nd}{i:Nat}{n:Nd}{t ts:List Tk}{I:Nat->A->Prop}{f:S->Us (Step S R)}{l xs:List α}{p:α->Bool}{step:A->α->Except E A}
theorem Dz:∀{a:Int},0<=a->↑a.toNat=a:=@Int.toNat_of_nonneg
theorem XB {st:Nat->S}{yes:Nat->R}{no:R}
    (h:∀i (hi:i < xs.length),f (st i)=d (if p xs[i]=B then .done (yes i) else .next (st (i+1)))) (h0:f (st xs.length)=d (.done no)) :
    lpO f (st 0)=d ((xs.findIdx? p).elim no yes):=by
  have:∀(n i:Nat),i+n=xs.length->lpO f (st i)=d (((xs.drop i).findIdx? p).elim no λj=>yes (i+j)):=by
    intro n
    induction n with
    |zero=>
      intro i hi;rw[Uv (by omega),show i=xs.length by omega,zx h0];rfl
    |succ n ih=>
      intro i hi;have hlt:i < xs.length:=by omega
      have h1:=h i hlt;rw[Dc hlt,List.findIdx?_cons];by_cases hp:p xs[i]=B
      ·rw[ju hp] at h1;rw[zx h1,ju hp];rfl
      · rw[jv hp] at h1;rw[zE h1,ih (i+1) (by omega),jv hp];cases(xs.drop (i+1)).findIdx? p with
        |none=>rfl
        |some j=>grind
  have h2:=this xs.length 0 (by omega);simpa using h2
theorem zlp {st:Nat->A->S}{fin:A->R}{er:E->R}
    (h:∀i (hi:i < xs.length) a,I i a->f (st i a)=d (match step a xs[i] with | .ok a' =>.next (st (i+1) a') | .error e =>.done (er e)))
    (hI:∀i (hi:i < xs.length) a a',I i a->step a xs[i] = .ok a'->I (i+1) a') (h0:∀a,I xs.length a->f (st xs.length a)=d (.done (fin a))) {a:A} (ha:I 0 a) :
    lpO f (st 0 a)=d (match xs.foldlM step a with | .ok a'=>fin a' | .error e=>er e):=by
  have:∀(n i:Nat) (a:A),i+n=xs.length->I i a->lpO f (st i a)=d (match(xs.drop i).foldlM step a with | .ok a'=>fin a' | .error e=>er e):=by
    intro n
    induction n with
    |zero=>
      intro i a hi ha;obtain rfl:i=xs.length:=by omega
      rw[Uv (U7 _),zx (h0 a ha)];rfl
    |succ n ih=>
      intro i a hi ha;have hlt:i < xs.length:=by omega
      have h1:=h i hlt a ha;rw[Dc hlt,H];cases hs:step a xs[i] with
      |error e=>rw[hs] at h1;rw[zx h1];rfl
      |ok a'=>rw[hs] at h1;rw[zE h1];exact ih (i+1) a' (by omega) (hI i hlt a a' ha hs)
  have h2:=this xs.length 0 a (by omega) ha;grind
theorem zfj:∀(xs:List α) (k:Nat) (a:A),I k a->(∀i (hi:i < xs.length) a a',I (k+i) a->step a xs[i] = .ok a'->I (k+i+1) a')->∀b,xs.foldlM step a = .ok b->I (k+xs.length) b
 |[],k,a,h,_,b,e=>by cases e;exact h
 |x::xs,k,a,h,hs,b,e=>by
  rw[H] at e;cases h1:step a x with
  |error er=>rw[h1] at e;cases e
  |ok a'=>
   rw[h1] at e;have:=zfj xs (k+1) a' (hs 0 (by simp) a a' h h1) (λi hi a b ha hb=>by have:=hs (i+1) (by simp;omega) a b (by grind) hb;grind) b e;grind
theorem zh{s:Sl α}(h:i < s.xs.length):zb s (i:Int)=d s.xs[i]:=by rw[wF];grind
theorem zo(s:Sl α):s.len=(s.xs.length:Int):=rfl
def idx(p:α->Bool)(l:List α):Int:=(l.findIdx? p).elim (-1) λi=>(i:Int)
theorem xB: -1<=idx p l/\idx p l < l.length/\(0<=idx p l↔∃x∈l,p x=B):=by
 unfold idx;cases h:l.findIdx? p with
 |none=>
  rw[List.findIdx?_eq_none_iff] at h;refine⟨by simp,by grind,by grind⟩
 |some i=>
  obtain⟨hi,hp,_⟩:=List.findIdx?_eq_some_iff_getElem.1 h;exact⟨by grind,by grind,λ_=>⟨_,g9 hi,hp⟩,λ_=>by simp⟩
theorem zdU(g:α->β)(p:β->Bool)(l:List α):idx p (l.map g)=idx (λx=>p (g x)) l:=by
 unfold idx;rw[List.findIdx?_map];rfl
def zdV(n:Nd):Prop:=n.K_=nilS
def zdW:List (List UInt8):=[[99,111,117,110,116,101,100],[108,111,99,107],[103,117,97,114,100]]
def ziN(n:Nd):Prop:=n.k_=2/\((n.T_=lit [111,119,110]\/n.T_=lit [99,101,108,108])/\n.K_=nilS\/∃w∈zdW,n.T_=lit w/\∃k,n.K_=⟨[k],B⟩/\zdV k)
def za5(n:Nd):Prop:=n.k_=3/\(n.K_=nilS\/∃k,n.K_=⟨[k],B⟩/\zdV k)
def zb8(n:Nd):Prop:=n.k_=4/\(n.T_=lit [60]\/n.T_=lit [60,61]\/n.T_=lit [61,61])/\∃a b,n.K_=⟨[a,b],B⟩/\zdV a/\zdV b
def wd(n:Nd):Prop:=n.k_=1/\∃s fs cs,n.K_=⟨s::(fs++cs),B⟩/\ziN s/\(∀f∈fs,za5 f)/\∀c∈cs,zb8 c
theorem XC{w:List UInt8}(h:isP w ts=B):(hd ts).T_=lit w:=by
 unfold isP at h;grind
theorem zw3(h:WT ts = .ok (n,t)):ziN n:=by
 unfold WT at h;split at h
 ·rename_i c;cases h;exact⟨rfl,.inl ⟨.inl (XC c),rfl⟩⟩
 split at h
 ·rename_i c;cases h;exact⟨rfl,.inl ⟨.inr (XC c),rfl⟩⟩
 split at h
 ·rename_i c;obtain⟨k,t1,e,h⟩:=bd_ok h;cases h;exact⟨rfl,.inr ⟨_,by simp[zdW],XC c,k,rfl,zN e⟩⟩
 split at h
 ·rename_i c;obtain⟨k,t1,e,h⟩:=bd_ok h;cases h;exact⟨rfl,.inr ⟨_,by simp[zdW],XC c,k,rfl,zN e⟩⟩
 split at h
 ·rename_i c;obtain⟨k,t1,e,h⟩:=bd_ok h;cases h;exact⟨rfl,.inr ⟨_,by simp[zdW],XC c,k,rfl,zN e⟩⟩
 ·cases h
theorem ztU(h:xx ts = .ok (n,t)):za5 n:=by
 obtain⟨m,t1,em,h⟩:=bd_ok h;split at h
 ·obtain⟨k,t2,ek,h⟩:=bd_ok h;obtain⟨u,t3,_,h⟩:=bd_ok h;cases h;exact⟨rfl,.inr ⟨k,rfl,zN ek⟩⟩
 ·cases h;exact⟨rfl,.inl rfl⟩
theorem zy0{s:Uq}(h:zb1 ts = .ok (s,t)):s=lit [60]\/s=lit [60,61]\/s=lit [61,61]:=by
 unfold zb1 at h;split at h
 ·grind
 split at h
 ·grind
 split at h
 ·grind
 ·cases h
theorem zm1(h:Yy ts = .ok (n,t)):zb8 n/\n.n_=0:=by
 obtain⟨a,t1,ea,h⟩:=bd_ok h;obtain⟨op,t2,eo,h⟩:=bd_ok h;obtain⟨b,t3,eb,h⟩:=bd_ok h;cases h;exact⟨⟨rfl,zy0 eo,a,b,rfl,XO ea,XO eb⟩,rfl⟩
theorem zgo{one:List Tk->PR Nd}{G:Nd->Prop}(hg:∀ts n t,one ts = .ok (n,t)->G n):∀(j:Nat) (acc:List Nd) (ts:List Tk) (l:List Nd) (t:List Tk),(∀x∈acc,G x)->Zr one j acc ts = .ok (l,t)->∀x∈l,G x
 |0,acc,ts,l,t,h,e=>by cases e;exact h
 |j+1,acc,ts,l,t,h,e=>by
  unfold Zr at e;split at e
  ·obtain⟨a,t1,e1,e⟩:=bd_ok e;refine zgo hg j _ _ l t (λx hx=>?_) e;grind
  grind
theorem zdX{one:List Tk->PR Nd}{G:Nd->Prop}(hg:∀ts n t,one ts = .ok (n,t)->G n){l:List Nd}(e:Z9 one ts = .ok (l,t)):∀x∈l,G x:=by
 obtain⟨a,t1,e1,e⟩:=bd_ok e;exact zgo hg _ _ _ l t (by grind) e
theorem zy1{a:Int}(h:zdi a ts = .ok (n,t)):wd n:=by
 rw[zm0] at h;obtain⟨m,t1,em,h⟩:=bd_ok h;obtain⟨s,t2,es,h⟩:=bd_ok h;obtain⟨ks,t3,e3,h⟩:=bd_ok h;obtain⟨k2,t4,e4,h⟩:=bd_ok h;obtain⟨u,t5,e5,h⟩:=bd_ok h;cases h;obtain⟨fs,rfl,hf⟩:∃fs,ks=s::fs/\∀f∈fs,za5 f:=by
  unfold WG at e3;split at e3
  ·obtain⟨l,t6,e6,e3⟩:=bd_ok e3;obtain⟨u,t7,_,e3⟩:=bd_ok e3;cases e3;exact⟨l,rfl,zdX (λ_ _ _=>ztU) e6⟩
  grind
 obtain⟨cs,rfl,hc⟩:∃cs,k2=(s::fs)++cs/\∀f∈cs,zb8 f:=by
  unfold za4 at e4;split at e4
  ·obtain⟨l,t6,e6,e4⟩:=bd_ok e4;cases e4;exact⟨l,rfl,zdX (λ_ _ _ h=>(zm1 h).1) e6⟩
  ·cases e4;exact⟨[],by simp,by simp⟩
 exact⟨rfl,s,fs,cs,by simp,zw3 es,hf,hc⟩
abbrev PT:=qa
abbrev PF:=qp
abbrev PL:=qr
abbrev Er:=Int×Int
abbrev IxS(α γ:Type):=Sl α×Int×Int×γ
def ixL{γ:Type}(e:α->α)(f:α×γ->Us (Bool×γ)):IxS α γ->Us (Step (IxS α γ) (Int×γ⊕γ)):=λy0=>
 if decide (y0.2.2.1 < y0.2.1)=B then(zb y0.1 y0.2.2.1).bind λy1=>(f (e y1,y0.2.2.2)).bind λy2=>
  if y2.1=B then d (Step.done (Sum.inl (y0.2.2.1,y2.2))) else d (Step.next (y0.1,y0.2.1,Ut (y0.2.2.1+1),y2.2))
 else d (Step.done (Sum.inr y0.2.2.2))
theorem zlq {γ:Type}{e:α->α}(he:∀x,e x=x) {f:α×γ->Us (Bool×γ)}{c:γ}(hf:∀x,f (x,c)=d (p x,c)) (s:Sl α) (hs:s.xs.length<=1000000) :
    ((lpO (ixL e f) (s,s.len,0,c)).bind λy3=>Sum.elim (λy4=>d y4) (λy5=>d (-1,y5)) y3)=d (idx p s.xs,c):=by
  have:=XB (f:=ixL e f) (xs:=s.xs) (p:=p) (st:=λi=>(s,s.len,(i:Int),c)) (yes:=λi =>.inl ((i:Int),c)) (no :=.inr c)
    (λi hi=>by
      simp only[ixL,jk];simp only[zo,zh hi,ji,he,hf];rw[ju (by omega),zw (by omega)]
      split<;>rfl)
    (by simp only[ixL,jk];rw[jv (by rw[zo];omega)])
  rw[show((0:Int))=((0:Nat):Int) from rfl,this];unfold idx;cases s.xs.findIdx? p<;>rfl
def idT(n:Uq)(t:List PT):Int:=idx (λx=>decide (x.N_=n)) t
def idN(n:Uq)(l:List Nd):Int:=idx (λx=>decide (x.T_=n)) l
theorem VG(t:Sl PT)(n:Uq)(ht:t.xs.length<=1000000):q25 (t,n)=d (idT n t.xs):=by
 show(((lpO (ixL id q74) (t,t.len,0,n)).bind _).bind λ(y0:Int×Uq)=>d y0.1)=_;rw[zlq (e:=id) (λ_=>rfl) (p:=λx:PT=>decide (x.N_=n)) (λx=>rfl) t ht];rfl
def Ze(fs:List Nd)(n:Uq):Int:=idx (λx=>decide (x.T_=n) && decide (x.K_.len=0)) fs
theorem vz(x:PT)(n:Uq)(fs:Sl Nd)(hf:fs.xs.length<=1000000):q2y (x,n,fs)=d (Ze fs.xs n):=by
 show(((lpO (ixL (λy=>kg y) q5b) (fs,fs.len,0,n)).bind _).bind λ(y0:Int×Uq)=>d y0.1)=_;rw[zlq zn (p:=λx=>decide (x.T_=n) && decide (x.K_.len=0)) (λx=>?_) fs hf];rfl;unfold q5b q83;grind
theorem zrG(fs:Sl Nd)(n:Uq)(hf:fs.xs.length<=1000000):q9u (fs,n)=d (decide (0<=idN n fs.xs)):=by
 show((((lpO (ixL (λy=>kg y) qay) (fs,fs.len,0,n)).bind _).bind _).bind λ(y0:Bool×Uq)=>d y0.1)=_;rw[zlq zn (p:=λx:Nd=>decide (x.T_=n)) (λx=>rfl) fs hf];rfl
theorem WH(b:Bool)(n:Nd)(e:Int):q6a (b,n,e)=d (if b=B then .inr () else .inl (n.a_,e)):=by cases b<;>rfl
def isK(k:Int)(n:Nd):Bool:=decide (n.k_=k)
def Yc:List Uq:=[lit [111,119,110],lit [99,101,108,108],lit [99,111,117,110,116,101,100],lit [108,111,99,107],lit [103,117,97,114,100]]
def zQ(n:Nd):Nd:=n.K_.xs.headD wc
def YR(s:Nd)(fs:List Nd)(acc:List PF)(f:Nd):Except Er (List PF):=
 if 0<=idN f.T_ (fs.take acc.length) then .error (f.a_,30)
 else if f.K_.xs=[] then .ok (acc++[⟨f.T_, -1⟩])
 else if s.T_=lit [111,119,110]/\0<=Ze fs (zQ f).T_ then .ok (acc++[⟨f.T_,Ze fs (zQ f).T_⟩]) else .error (f.a_,32)
def xP(t:List PT)(s:Nd)(fs cs:List Nd):Except Er (Int×Int):=
 let k:=idx (λw=>decide (s.T_=w)) Yc
 let w:=(zQ s).T_
 let o:=idT w t
 if k=2\/k=3 then(if 0<=Ze fs w then .ok (k,Ze fs w) else .error (s.a_,32))
 else if k=4 then(if 0<=o/\((t[o.toNat]?).elim 0 qa.S_)=3 then(if fs.length+cs.length=0 then .ok (k,o) else .error (s.a_,32)) else .error (s.a_,31))
 else .ok (k,0)
def yx(fs:List Nd)(so:Int×Int)(c k:Nd):Except Er Int:=
 if k.T_=lit [] then .ok 0 else if 0<=Ze fs k.T_/\¬ ((so.1=2\/so.1=3)/\Ze fs k.T_=so.2) then .ok (Ze fs k.T_+1) else .error (c.a_,33)
def vA(c:Uq)(a b k l:Int):List PL:=
 if c=lit [60] then [⟨a,b,Ut (Ut (l - k) - 1)⟩] else if c=lit [60,61] then [⟨a,b,Ut (l - k)⟩]
 else if c=lit [61,61] then [⟨a,b,Ut (l - k)⟩,⟨b,a,Ut (k - l)⟩] else []
def VH(n:Nd):Nd:=zQ ⟨0,lit [],0,0,⟨n.K_.xs.tail,B⟩⟩
def Yz(fs:List Nd)(so:Int×Int)(acc:List PL)(c:Nd):Except Er (List PL):=
 (yx fs so c (zQ c)).bind λv=>(yx fs so c (VH c)).bind λw =>.ok (acc++vA c.T_ v w (zQ c).n_ (VH c).n_)
def Y7(t:List PT)(n:Nd):Except Er PT:=
 let fs:=n.K_.xs.filter (isK 3);let cs:=n.K_.xs.filter (isK 4)
 if 0<=idT n.T_ t then .error (n.a_,30) else if 8 < fs.length then .error (n.a_,22) else
 (fs.foldlM (YR (zQ n) fs) []).bind λfl=>(xP t (zQ n) fs cs).bind λso=>(cs.foldlM (Yz fs so) []).bind λfa =>.ok ⟨n.T_,so.1,so.2,mkS fl,mkS fa⟩
def za6(l:List Nd):Except Er (List PT):=l.foldlM (λt k=>if k.k_=1 then(Y7 t k).bind λx =>.ok (t++[x]) else .ok t) []
theorem xQ{b:Nat}(hb:b<=1000000){acc:List α}(h:acc.length+l.length<=100000):zp b (mkS acc) l=d (mkS (acc++l)):=by
 have:(acc.length+l.length) * b<=100000 * 1000000:=Nat.mul_le_mul h hb;rw[yP (by simp only[mkS];omega) (by simp only[mkS];omega)];cases acc<;>cases l<;>simp[mkS]
theorem ztV(n:Nd)(h:n.K_.xs.length<=50000):q9v n=d (mkS (n.K_.xs.filter (isK 3)),mkS (n.K_.xs.filter (isK 4))):=by
 show((lpO q7x (n.K_,n.K_.len,0,C [] F,C [] F)).bind λy6=>d y6)=_
 have:=zlp (E:=Er) (f:=q7x) (xs:=n.K_.xs) (A:=List Nd×List Nd) (step:=λa k =>.ok (if isK 3 k then(a.1++[k],a.2) else if isK 4 k then(a.1,a.2++[k]) else a))
  (st:=λi a=>(n.K_,n.K_.len,(i:Int),mkS a.1,mkS a.2)) (fin:=λa=>(mkS a.1,mkS a.2)) (er:=λ_=>(mkS [],mkS [])) (I:=λi a=>a.1.length<=i/\a.2.length<=i)
  (λi hi a ha=>by
   unfold q7x;simp only[jk];simp only[zo,zh hi,ji,zn,isK];rw[ju (by omega)];have hw:=zw (k:=i) (by omega);by_cases h3:n.K_.xs[i].k_=3
   ·simp only[h3,jp,jr];rw[xQ (by omega) (by simp;omega)];grind
   ·by_cases h4:n.K_.xs[i].k_=4
    ·simp (decide:=true) only [h4,jp,jo,jr,jq,jj];rw[xQ (by omega) (by simp;omega)];grind
    grind)
  (λi hi a a' ha e=>by
   cases e
   grind)
  (λa _=>by unfold q7x;simp only[jk];rw[jv (by rw[zo];omega)])
  (a:=([],[])) (by simp)
 have e:∀(l a b:List Nd),l.foldlM (m:=Except Er) (λ(a:List Nd×List Nd) k =>.ok (if isK 3 k then(a.1++[k],a.2) else if isK 4 k then(a.1,a.2++[k]) else a)) (a,b) = .ok (a++l.filter (isK 3),b++l.filter (isK 4)):=by
  intro l
  induction l with
  |nil=>intro a b;simp;rfl
  |cons x l ih=>
   intro a b;rw[H];by_cases h3:isK 3 x=B
   ·have h4:isK 4 x=false:=by simp only[isK,jk] at h3 |-;simp[h3]
    simp only[h3,h4,jp,M,jj,jo];show K _ (a++[x],b) l=_;rw[ih];simp
   ·by_cases h4:isK 4 x=B
    ·simp only[h3,h4,jp,M,jj,jo];show K _ (a,b++[x]) l=_;rw[ih];simp
    ·simp only[h3,h4,jo,M,jj];show K _ (a,b) l=_;rw[ih]
 rw[e] at this;simp only[Db] at this;rw[show(lpO q7x (n.K_,n.K_.len,0,C [] F,C [] F))=_ from this];rfl
theorem zrH(s:Uq):q2k (C [lit [111,119,110],lit [99,101,108,108],lit [99,111,117,110,116,101,100],lit [108,111,99,107],lit [103,117,97,114,100]] B,s)=d (idx (λw=>decide (s=w)) Yc):=by
 have:=XB (f:=q1i) (xs:=Yc) (p:=λw=>decide (s=w)) (st:=λi=>(⟨Yc,B⟩,s,Sl.len (⟨Yc,B⟩:Sl Uq),(i:Int))) (yes:=λi =>.inl (i:Int)) (no :=.inr ())
  (λi hi=>by
   have hi5:i < 5:=hi;unfold q1i;simp only[jk];simp only[zo,zh (s:=⟨Yc,B⟩) hi,ji];rw[ju (by omega),zw (by omega)]
   split<;>rfl)
  (by unfold q1i;simp only[jk];rw[jv (by show¬ ((5:Int) < 5);omega)])
 show((lpO q1i (⟨Yc,B⟩,s,Sl.len (⟨Yc,B⟩:Sl Uq),((0:Nat):Int))).bind _)=_;rw[this];unfold idx;cases Yc.findIdx? _<;>rfl
theorem zoR{s:Sl α}{t:Sl β}(ha:s.xs.length<=100000)(hb:t.xs.length<=100000):(Ut (s.len+t.len)=0)=(s.xs.length+t.xs.length=0):=by
 rw[zo,zo,zK (by omega) (by omega)];grind
theorem ztW {t:Sl PT}{s:Nd}{fs cs:Sl Nd}(hs:ziN s) (ht:t.xs.length<=100000) (hf:fs.xs.length<=100000) (hc:cs.xs.length<=100000) (nm:Uq) (fl:Sl PF) (fa:Sl PL) :
    ∃w:Er->(Uq×Int×Int)×Sl PF×Sl PL,q4f (t,s,fs,cs,(nm,0,0),fl,fa)=d (match xP t.xs s fs.xs cs.xs with | .ok so =>.inr ((nm,so.1,so.2),fl,fa) | .error e =>.inl (e,w e)):=by
  unfold q4f qan;rw[zrH];obtain⟨kd,tx,nu,a,ks⟩:=s;have i0:idx (λw=>decide (lit [111,119,110]=w)) Yc=0:=by decide +kernel
  have i1:idx (λw=>decide (lit [99,101,108,108]=w)) Yc=1:=by decide +kernel
  have i2:idx (λw=>decide (lit [99,111,117,110,116,101,100]=w)) Yc=2:=by decide +kernel
  have i3:idx (λw=>decide (lit [108,111,99,107]=w)) Yc=3:=by decide +kernel
  have i4:idx (λw=>decide (lit [103,117,97,114,100]=w)) Yc=4:=by decide +kernel
  obtain⟨_,hs⟩:=hs;simp only at hs;obtain⟨rfl | rfl,rfl⟩ | ⟨w,hw,rfl,k,rfl,_⟩:=hs
  ·unfold xP;simp (decide:=true) only [i0,ji,jo,jl,jq,jj];exact⟨λ_=>default,by grind⟩
  ·unfold xP;simp (decide:=true) only [i1,ji,jo,jl,jq,jj];exact⟨λ_=>default,by grind⟩
  have g0:∀(k:Nd),zb (⟨[k],B⟩:Sl Nd) 0=d k:=λ_=>rfl
  simp only[zdW,UO,Q,or_false] at hw;rcases hw with rfl | rfl | rfl
  · unfold xP;simp (decide:=true) only [i2,ji,jo,jp,jl,jq,jr,jj,g0,vz _ _ fs (by omega),WH,zQ,Dd,jk];by_cases h:0<=Ze fs.xs k.T_
    ·simp only[h,jp,jl,ji];exact⟨λ_=>default,by grind⟩
    ·simp only[h,jo,jm,ji];exact⟨λ_=>_,rfl⟩
  · unfold xP;simp (decide:=true) only [i3,ji,jo,jp,jl,jq,jr,jj,g0,vz _ _ fs (by omega),WH,zQ,Dd,jk];by_cases h:0<=Ze fs.xs k.T_
    ·simp only[h,jp,jl,ji];exact⟨λ_=>default,by grind⟩
    ·simp only[h,jo,jm,ji];exact⟨λ_=>_,rfl⟩
  · unfold xP;have hl:idT k.T_ t.xs < t.xs.length:=xB.2.1;simp (decide:=true) only [i4,ji,jo,jp,jl,jq,jr,jj,g0,VG t _ (by omega),WH,zQ,Dd,zoR hf hc,jk];by_cases h:0<=idT k.T_ t.xs
    · obtain⟨j,hj⟩:∃j:Nat,idT k.T_ t.xs=j:=⟨_,(Dz h).symm⟩
      rw[hj] at hl;have hlt:j < t.xs.length:=by omega
      simp only[hj,show(0:Int)<=(j:Int) by omega,jp,U4,zh hlt,ji,O,U6 hlt,P];by_cases h3:t.xs[j].S_=3
      · simp only[h3,jp,jl,ji];by_cases h0:fs.xs.length+cs.xs.length=0
        ·simp only[zoR hf hc,h0,jp,jl,ji];exact⟨λ_=>default,by grind⟩
        ·simp only[zoR hf hc,h0,jo,jm,ji];exact⟨λ_=>_,rfl⟩
      ·simp only[h3,jo,jm,ji];exact⟨λ_=>_,rfl⟩
    ·simp only[h,jo,false_and,jm,ji];exact⟨λ_=>_,rfl⟩
theorem zrI{c:Uq}(hc:c=lit [60]\/c=lit [60,61]\/c=lit [61,61])(a b k l:Int):q9w (c,a,b,k,l)=d ⟨vA c a b k l,B⟩:=by
 unfold q9w qdt vA;rcases hc with rfl | rfl | rfl<;>simp (decide:=true) only [jp,jo,ji,jm,jr,jq,jj]
theorem zaa(c:Uq)(a b k l:Int):(vA c a b k l).length<=2:=by
 unfold vA;by_cases h1:c=lit [60]
 ·grind
 rw[jv h1];by_cases h2:c=lit [60,61]
 all_goals grind
abbrev Hd:=Uq×Int×Int
noncomputable abbrev zb9:=q8n q2y q6a q9w
theorem zeM {fs ks:Sl Nd}(hf:fs.xs.length<=100000) {k c:Nd}{L i:Int}(hi:i=0\/i=1) (hL:i < L) (hk:zb ks i=d k) (h:Hd) (fl:Sl PF) (fa:Sl PL) (v0 v1:Int) :
    zb9 (fs,ks,L,i,h,fl,fa,c,v0,v1)=d (match yx fs.xs h.2 c k with
      | .error e =>.done (.inl (e,h,fl,fa))
      | .ok v =>.next (fs,ks,L,i+1,h,fl,fa,c,if k.T_=lit [] then v0 else if i=0 then v else v0,if k.T_=lit [] then v1 else if i=0 then v1 else v)):=by
  unfold zb9 q8n;have hl:Ze fs.xs k.T_ < fs.xs.length:=xB.2.1;have hl0 : -1<=Ze fs.xs k.T_:=xB.1;have hw:Ut (i+1)=i+1:=zK (by omega) (by omega);have hw2:Ut (Ze fs.xs k.T_+1)=Ze fs.xs k.T_+1:=zK (by omega) (by omega);simp only[jk];rw[ju hL];simp only[hk,ji,zn,vz _ _ fs (by omega),WH,yx];by_cases ht:k.T_=lit []
  ·grind
  simp only[ht,jo];by_cases h0:0<=Ze fs.xs k.T_
  case neg=>grind
  simp only[h0,jp,U4];have fin:((bif decide (i=1) then d (fs,ks,L,i,h,fl,fa,c,v0,Ze fs.xs k.T_+1) else bif decide (i=0) then d (fs,ks,L,i,h,fl,fa,c,Ze fs.xs k.T_+1,v1) else none):Us (Sl Nd×Sl Nd×Int×Int×Hd×Sl PF×Sl PL×Nd×Int×Int))=d (fs,ks,L,i,h,fl,fa,c,if i=0 then Ze fs.xs k.T_+1 else v0,if i=0 then v1 else Ze fs.xs k.T_+1):=by
    grind
  by_cases h2:h.2.1=2
  · by_cases ho:Ze fs.xs k.T_=h.2.2
    ·simp only[h2,ho,jp,true_or,jr,Da,jj,jo,js,and_self,ji,jm,jl]
    ·simp only[h2,ho,jp,true_or,jq,Dq,jo,jt,and_false,ji,jm,jl,hw,hw2,fin]
  · by_cases h3:h.2.1=3
    · by_cases ho:Ze fs.xs k.T_=h.2.2
      ·simp (decide:=true) only [h3,ho,jp,or_true,jr,Da,jj,jo,js,and_self,ji,jm,jl]
      ·simp (decide:=true) only [h3,ho,jp,or_true,jq,Dq,jo,jt,and_false,ji,jm,jl,hw,hw2,fin]
    ·simp only[h2,h3,jp,or_self,false_and,Dq,jo,jt,ji,jm,jl,hw,hw2,fin]
theorem ztX {fs:Sl Nd}(hf:fs.xs.length<=100000) {c:Nd}(hc:zb8 c) (h:Hd) (fl:Sl PF) (acc:List PL) (ha:acc.length<=50000) :
    q54 (c,fs,h,fl,mkS acc)=d (match Yz fs.xs h.2 acc c with | .error e =>.inl (e,h,fl,mkS acc) | .ok l =>.inr (h,fl,mkS l)):=by
  obtain⟨_,ht,a,b,hk,_,_⟩:=hc;unfold q54 qaz;simp only[zn];simp only[hk];have b0:=zeM (ks:=⟨[a,b],B⟩) (k:=a) (c:=c) (L:=2) hf (.inl rfl) (by omega) rfl h fl (mkS acc) 0 0;have ka:zQ c=a:=by unfold zQ;rw[hk];rfl
  have kb:VH c=b:=by unfold VH zQ;rw[hk];rfl
  unfold Yz;rw[ka,kb,show Sl.len (⟨[a,b],B⟩:Sl Nd)=2 from rfl];cases e0:yx fs.xs h.2 c a with
  |error er=>rw[e0] at b0;rw[zx b0];rfl
  |ok v=>
    rw[e0] at b0;have b1:=zeM (ks:=⟨[a,b],B⟩) (k:=b) (c:=c) (L:=2) hf (.inr rfl) (by omega) rfl h fl (mkS acc) v 0;have hv:(if a.T_=lit [] then(0:Int) else v)=v:=by
      split
      ·rename_i h0;unfold yx at e0;grind
      ·rfl
    simp only[jp,hv,ite_self] at b0;rw[zE b0];show((lpO zb9 (fs,⟨[a,b],B⟩,2,1,h,fl,mkS acc,c,v,0)).bind _)=_;cases e1:yx fs.xs h.2 c b with
    |error er=>rw[e1] at b1;rw[zx b1];rfl
    |ok w=>
      rw[e1] at b1;have hw:(if b.T_=lit [] then(0:Int) else w)=w:=by
        split
        ·rename_i h0;unfold yx at e1;grind
        ·rfl
      simp (decide:=true) only [jo,hw,ite_self] at b1;rw[zE b1,zx (y :=.inr (h,fl,mkS acc,c,v,w)) (by unfold zb9 q8n;simp only[zn];rfl)];have hln:(vA c.T_ v w a.n_ b.n_).length<=2:=zaa _ _ _ _ _;simp only[ji,jl,hk,show zb (⟨[a,b],B⟩:Sl Nd) 0=d a from rfl,show zb (⟨[a,b],B⟩:Sl Nd) 1=d b from rfl,zrI ht,D];rw[xQ (by omega) (by omega)];rfl
noncomputable abbrev ziO:=q8o q9v q25 q6a q9u q2y q4f q54
noncomputable abbrev ziP:=q8p q9v q25 q6a q9u q2y q4f q54
theorem zmk {t:Sl PT}{cs:Sl Nd}(hf:fs.length<=20000) (hk:n.K_.xs≠[]) (hg:∀f∈fs,za5 f) (z h:Hd) :
    lpO ziO (t,mkS fs,mkS fs,Sl.len (mkS fs),0,n,z,cs,h,mkS [])=d (match fs.foldlM (YR (zQ n) fs) [] with | .error e =>.inl e | .ok l =>.inr (t,mkS fs,n,z,cs,h,mkS l)):=by
  have g0:zb n.K_ 0=d (zQ n):=by
    unfold zQ;cases hx:n.K_ with | mk xs nn=>rw[hx] at hk;cases xs with | nil=>grind | cons a r=>rfl
  have:=zlp (f:=ziO) (xs:=fs) (step:=YR (zQ n) fs) (st:=λi a=>(t,mkS fs,mkS fs,Sl.len (mkS fs),(i:Int),n,z,cs,h,mkS a)) (fin:=λa =>.inr (t,mkS fs,n,z,cs,h,mkS a)) (er :=.inl) (I:=λi a=>a.length=i)
    (λi hi a ha=>by
      unfold ziO q8o;have hgi:=hg fs[i] (g9 hi);have hw:=zw (k:=i) (by omega);simp only[jk];rw[ju (show((i:Int) < Sl.len (mkS fs)) by show(i:Int) < (fs.length:Int);omega)];rw[zh (s:=mkS fs) hi,ji,Yk (by omega) (by omega) (by show(i:Int)<=(fs.length:Int);omega),ji];simp only[Int.toNat_zero,De,O,zn];rw[zrG _ _ (by simp;omega),ji];simp only[WH,ji,YR,ha];show N (Sum.elim _ _ (if(!decide (0<=idN fs[i].T_ (fs.take i)))=B then _ else _)) _=_;by_cases h1:0<=idN fs[i].T_ (fs.take i)
      ·simp only[mkS,h1,jr,Da,jj,jo,jp,jm,ji]
      simp only[h1,jq,Dq,jp,jo,jl];obtain⟨_,hk0 | ⟨k,hk1,_⟩⟩:=hgi
      · have hkx:fs[i].K_.xs=[]:=by rw[hk0]
        have e0:zQ fs[i]=wc:=by unfold zQ;rw[hk0];rfl
        simp only[show(mkS fs).xs[i]=fs[i] from rfl];simp (decide:=true) only [hk0,show(nilS:Sl Nd).len=0 from rfl,jo,jp,jl,ji];rw[xQ (by omega) (by simp;omega)];grind
      · have hkx:¬ fs[i].K_.xs=[]:=by rw[hk1];simp
        have e0:zQ fs[i]=k:=by unfold zQ;rw[hk1];rfl
        simp only[hkx,jo,e0];simp only[show(mkS fs).xs[i]=fs[i] from rfl];simp (decide:=true) only [hk1,show Sl.len (⟨[k],B⟩:Sl Nd)=1 from rfl,show zb (⟨[k],B⟩:Sl Nd) 0=d k from rfl,jo,jp,ji,vz _ _ (mkS fs) (show fs.length<=1000000 by omega),g0];by_cases h2:(zQ n).T_=lit [111,119,110]
        · by_cases h3:0<=Ze fs k.T_
          ·simp only[mkS,h2,h3,and_self,jr,jp,jl,ji];rw[show({xs:=a,nn:= !a.isEmpty}:Sl PF)=mkS a from rfl,xQ (by omega) (by simp;omega)];simp only[ji,jl,hw,mkS]
          ·simp only[mkS,h2,h3,and_false,jq,jj,jp,jo,jm,ji]
        ·simp only[h2,false_and,jj,jo,jm,ji])
    (λi hi a a' ha e=>by
      unfold YR at e;split at e
      ·cases e
      split at e
      ·cases e;simp;omega
      split at e
      ·cases e;simp;omega
      ·cases e)
    (λa _=>by
      unfold ziO q8o;simp only[jk,zn]
      rw[jv (show¬ ((fs.length:Int) < Sl.len (mkS fs)) by show¬ ((fs.length:Int) < (fs.length:Int));omega)])
    (a:=[]) rfl
  grind
theorem zml {fs:Sl Nd}(hf:fs.xs.length<=20000) (hc:cs.length<=20000) (hg:∀c∈cs,zb8 c) (z h:Hd) (fl:Sl PF) :
    lpO ziP (fs,mkS cs,Sl.len (mkS cs),0,z,h,fl,mkS [])=d (match cs.foldlM (Yz fs.xs h.2) [] with | .error e =>.inl e | .ok l =>.inr (z,h,fl,mkS l)):=by
  have:=zlp (f:=ziP) (xs:=cs) (step:=Yz fs.xs h.2) (st:=λi a=>(fs,mkS cs,Sl.len (mkS cs),(i:Int),z,h,fl,mkS a)) (fin:=λa =>.inr (z,h,fl,mkS a)) (er :=.inl) (I:=λi a=>a.length<=2 * i)
    (λi hi a ha=>by
      unfold ziP q8p;have hw:=zw (k:=i) (by omega);simp only[jk];rw[ju (show((i:Int) < Sl.len (mkS cs)) by show(i:Int) < (cs.length:Int);omega),zh (s:=mkS cs) hi];simp only[ji,zn,show(mkS cs).xs[i]=cs[i] from rfl];rw[ztX (by omega) (hg cs[i] (g9 hi)) h fl a (by omega)];simp only[ji];cases Yz fs.xs h.2 a cs[i] with
      |error e=>rfl
      |ok l=>simp only[jl,hw])
    (λi hi a a' ha e=>by
      unfold Yz at e;cases e1:yx fs.xs h.2 cs[i] (zQ cs[i]) with
      |error er=>rw[e1] at e;cases e
      |ok v=>
        cases e2:yx fs.xs h.2 cs[i] (VH cs[i]) with
        |error er=>rw[e1,e2] at e;cases e
        |ok w=>
          rw[e1,e2] at e;cases e;have:=zaa cs[i].T_ v w (zQ cs[i]).n_ (VH cs[i]).n_
          simp only[jx];omega)
    (λa _=>by
      unfold ziP q8p;simp only[jk]
      rw[jv (show¬ ((cs.length:Int) < Sl.len (mkS cs)) by show¬ ((cs.length:Int) < (cs.length:Int));omega)])
    (a:=[]) (by simp)
  rw[show(0:Int)=((0:Nat):Int) from rfl,this];cases cs.foldlM (Yz fs.xs h.2) []<;>rfl
theorem zds(h:wd n):∃s fs cs,n.K_=⟨s::(fs++cs),B⟩/\n.K_.xs.filter (isK 3)=fs/\n.K_.xs.filter (isK 4)=cs/\ziN s/\(∀f∈fs,za5 f)/\∀c∈cs,zb8 c:=by
 obtain⟨_,s,fs,cs,hk,hs,hf,hc⟩:=h;refine⟨s,fs,cs,hk,?_,?_,hs,hf,hc⟩
 ·rw[hk];have h1:fs.filter (isK 3)=fs:=U.2 λf h=>by simp[isK,(hf f h).1]
  have h2:cs.filter (isK 3)=[]:=V.2 λc h=>by simp[isK,(hc c h).1]
  simp only[M,W,h1,h2,isK,hs.1,List.append_nil];rfl
 ·rw[hk];have h1:fs.filter (isK 4)=[]:=V.2 λf h=>by simp[isK,(hf f h).1]
  have h2:cs.filter (isK 4)=cs:=U.2 λc h=>by simp[isK,(hc c h).1]
  simp only[M,W,h1,h2,isK,hs.1];rfl
theorem zw4 {t:Sl PT}(hg:wd n) (ht:t.xs.length<=20000) (hn:n.K_.xs.length<=20000) :
    q5z (t,n)=d (match Y7 t.xs n with | .error e =>.inl e | .ok x =>.inr ((x.N_,x.S_,x.o_),x.q_,x.I_)):=by
  unfold q5z qb0;simp only[zn];rw[ztV n (by omega)];obtain⟨s,fs,cs,hk,hf3,hc4,hs,hf,hc⟩:=zds hg;have hks:zQ n=s:=by unfold zQ;rw[hk];rfl
  have hlen:(s::(fs++cs)).length<=20000:=by have:=hn;rw[hk] at this;exact this
  simp only[jy,jx] at hlen;unfold Y7;rw[hf3,hc4];simp only[ji,VG t _ (by omega),WH,jk];by_cases h0:0<=idT n.T_ t.xs
  ·simp only[show¬ (idT n.T_ t.xs < 0) by omega,h0,jp,jo,jm]
  simp only[show idT n.T_ t.xs < 0 by omega,h0,jp,jo,jl];by_cases h8:8 < fs.length
  ·simp only[show¬ (Sl.len (mkS fs)<=8) by show¬ ((fs.length:Int)<=8);omega,h8,jp,jo,jm]
  simp only[show Sl.len (mkS fs)<=8 by show(fs.length:Int)<=8;omega,h8,jp,jo,jl];rw[show(C [] false:Sl PF)=mkS [] from rfl,zmk (by omega) (by rw[hk];simp) hf];simp only[ji];cases e1:fs.foldlM (YR (zQ n) fs) [] with
  |error e=>rfl
  |ok fl=>
    simp only[jl,D];rw[show zb n.K_ 0=d s by rw[hk];rfl,hks];simp only[ji,zn];obtain⟨w,hw⟩:=ztW (t:=t) (s:=s) (fs:=mkS fs) (cs:=mkS cs) hs (by omega) (show fs.length<=100000 by omega) (show cs.length<=100000 by omega) n.T_ (mkS fl) (C [] F);rw[hw];simp only[ji,show(mkS fs).xs=fs from rfl,show(mkS cs).xs=cs from rfl];cases e2:xP t.xs s fs cs with
    |error e=>rfl
    |ok so=>
      simp only[jl];rw[show(C [] false:Sl PL)=mkS [] from rfl];rw[zml (fs:=mkS fs) (show fs.length<=20000 by omega) (by omega) hc _ (n.T_,so.1,so.2)];simp only[ji,show(mkS fs).xs=fs from rfl];cases e3:cs.foldlM (Yz fs (so.1,so.2)) [] with
      |error e=>rfl
      |ok l=>rfl
theorem zab {st:Nat->A->S}{fin:A->R}{er:A->E->R}
    (h:∀i (hi:i < xs.length) a,I i a->f (st i a)=d (match step a xs[i] with | .ok a' =>.next (st (i+1) a') | .error e =>.done (er a e)))
    (hI:∀i (hi:i < xs.length) a a',I i a->step a xs[i] = .ok a'->I (i+1) a') (h0:∀a,I xs.length a->f (st xs.length a)=d (.done (fin a))) {a:A} (ha:I 0 a) :
    match xs.foldlM step a with | .ok a'=>lpO f (st 0 a)=d (fin a')/\I xs.length a' | .error e=>∃(i:Nat) (a':A),I i a'/\i < xs.length/\lpO f (st 0 a)=d (er a' e):=by
  have:∀(n i:Nat) (a:A),i+n=xs.length->I i a->match(xs.drop i).foldlM step a with | .ok a'=>lpO f (st i a)=d (fin a')/\I xs.length a' | .error e=>∃(j:Nat) (a':A),I j a'/\j < xs.length/\lpO f (st i a)=d (er a' e):=by
    intro n
    induction n with
    |zero=>
      intro i a hi ha;obtain rfl:i=xs.length:=by omega
      rw[Uv (U7 _)];exact⟨zx (h0 a ha),ha⟩
    |succ n ih=>
      intro i a hi ha;have hlt:i < xs.length:=by omega
      have h1:=h i hlt a ha;rw[Dc hlt,H];cases hs:step a xs[i] with
      |error e=>rw[hs] at h1;exact⟨i,a,ha,hlt,zx h1⟩
      |ok a'=>
        rw[hs] at h1;rw[zE h1];exact ih (i+1) a' (by omega) (hI i hlt a a' ha hs)
  have h2:=this xs.length 0 a (by omega) ha
  rwa [De] at h2
noncomputable abbrev zgp:=qby q5z q7q q6o
theorem ztY (hg:∀k∈n.K_.xs,k.k_=1->wd k/\k.K_.xs.length<=20000) (hn:n.K_.xs.length<=20000) :
    q5k n=d (match za6 n.K_.xs with | .error e=>(e.1,e.2,nilS) | .ok t=>(0,0,mkS t)):=by
  have:=zab (f:=zgp) (xs:=n.K_.xs) (step:=λt k=>if k.k_=1 then(Y7 t k).bind λx =>.ok (t++[x]) else .ok t) (st:=λi a=>(n.K_,n.K_.len,(i:Int),n,0,0,mkS a))
    (fin:=λa =>.inr (n,0,0,mkS a)) (er:=λa e =>.inl (e,n,0,0,mkS a)) (I:=λi a=>a.length<=i)
    (λi hi a ha=>by
      unfold zgp qby;have hw:=zw (k:=i) (by omega);simp only[jk,zn];rw[ju (show((i:Int) < Sl.len n.K_) by show(i:Int) < (n.K_.xs.length:Int);omega),zh hi];simp only[ji,zn];by_cases h1:n.K_.xs[i].k_=1
      · obtain⟨g1,g2⟩:=hg _ (g9 hi) h1;simp only[h1,jp];rw[zw4 g1 (show a.length<=20000 by omega) g2];simp only[show(mkS a).xs=a from rfl];cases Y7 a n.K_.xs[i] with
        |error e=>simp only[ji,jm,Zz];rfl
        |ok x=>
          simp only[ji,jl,D];rw[show qa.mk x.N_ x.S_ x.o_ x.q_ x.I_=x from rfl,xQ (by omega) (by simp;omega)];simp only[ji,jl,Zz,hw]
      ·simp only[h1,jo,ji,jl,hw])
    (λi hi a a' ha e=>by
      split at e
      · cases e1:Y7 a n.K_.xs[i] with
        |error er=>rw[e1] at e;cases e
        |ok x=>rw[e1] at e;cases e;simp;omega
      ·cases e;omega)
    (λa _=>by
      unfold zgp qby;simp only[jk,zn]
      rw[jv (show¬ ((n.K_.xs.length:Int) < Sl.len n.K_) by show¬ ((n.K_.xs.length:Int) < (n.K_.xs.length:Int));omega)])
    (a:=[]) (by simp)
  unfold q5k qdu;simp only[zn];show((lpO zgp (n.K_,n.K_.len,((0:Nat):Int),n,0,0,mkS [])).bind _)=_;unfold za6;cases e:n.K_.xs.foldlM (m:=Except Er) (λt k=>if k.k_=1 then(Y7 t k).bind λx =>.ok (t++[x]) else .ok t) [] with
  |error er=>
    rw[e] at this;obtain⟨j,a,_,_,h⟩:=this;rw[h];rfl
  |ok t=>
    rw[e] at this;rw[this.1];rfl
abbrev RTy:=qc
def rF(x:PF):qk:=⟨x.N_,x.w_⟩
def rQ(x:PL):qq:=⟨x.X_,x.Y_,x.C_⟩
def slm(f:α->β)(s:Sl α):Sl β:=⟨s.xs.map f,s.nn⟩
def rT(x:PT):RTy:=⟨x.N_,x.S_,x.o_,slm rF x.q_,slm rQ x.I_⟩
theorem zrJ(f:α->β)(l:List α):slm f (mkS l)=mkS (l.map f):=by cases l<;>rfl
theorem YG(l:List α):(mkS l).len=(l.length:Int):=rfl
theorem xY{f:α->β}(h:i < l.length):zb (mkS (l.map f)) (i:Int)=d (f l[i]):=by
 rw[zh (s:=mkS (l.map f)) (by simpa[mkS] using h)];simp[mkS]
theorem zX(n:Nd):(rN n).T_=n.T_:=by rw[yk]
theorem ZT(n:Nd):(rN n).k_=n.k_:=by rw[yk]
theorem YS(n:Nd):(rN n).a_=n.a_:=by rw[yk]
theorem zw5(n:Nd):(rN n).n_=n.n_:=by rw[yk]
theorem zD(n:Nd):(rN n).K_=⟨n.K_.xs.map rN,n.K_.nn⟩:=by rw[yk,yo]
theorem zac(t:List PT)(n:Uq)(ht:t.length<=1000000):q16 (mkS (t.map rT),n)=d (idT n t):=by
 have:=XB (f:=q5c) (xs:=t) (p:=λx=>decide (x.N_=n)) (st:=λi=>(mkS (t.map rT),n,(i:Int))) (yes:=λi =>.inl (i:Int)) (no :=.inr ())
  (λi hi=>by
   unfold q5c;simp only[jk,YG,Dn];rw[ju (by omega),xY hi,ji,zw (by omega)]
   by_cases h:t[i].N_=n<;>simp[h,rT])
  (by unfold q5c;simp only[jk,YG,Dn];grind)
 show((lpO q5c (mkS (t.map rT),n,((0:Nat):Int))).bind _)=_;rw[this];unfold idT idx;cases t.findIdx? _<;>rfl
theorem vC(fs:List Nd)(n:Uq)(hf:fs.length<=1000000):q1b (mkS (fs.map rN),n)=d (Ze fs n):=by
 have:=XB (f:=q4h) (xs:=fs) (p:=λx=>decide (x.T_=n) && decide (x.K_.len=0)) (st:=λi=>(mkS (fs.map rN),n,(i:Int))) (yes:=λi =>.inl (i:Int)) (no :=.inr ())
  (λi hi=>by
   unfold q4h;simp only[jk,YG,Dn];rw[ju (by omega),xY hi];simp only[ji,zX,zD];have hl:Sl.len (⟨fs[i].K_.xs.map rN,fs[i].K_.nn⟩:Sl RNd)=fs[i].K_.len:=by simp[Sl.len]
   have hw:=zw (k:=i) (by omega);rw[hl];by_cases h:fs[i].T_=n
   ·by_cases h2:fs[i].K_.len=0<;>simp only[h,h2,jp,jo,jr,jq,ji,Bool.and_self,Bool.and_false,jj,hw]
   grind)
  (by unfold q4h;simp only[jk,YG,Dn];grind)
 show((lpO q4h (mkS (fs.map rN),n,((0:Nat):Int))).bind _)=_;rw[this];unfold Ze idx;cases fs.findIdx? _<;>rfl
theorem zy2{acc:List Nd}{x:Nd}(h:acc.length<=50000):zp 64 (mkS (acc.map rN)) [rN x]=d (mkS ((acc++[x]).map rN)):=by
 rw[xQ (by omega) (by simp;omega)];simp
theorem zlr(n:Nd)(k:Int)(h:n.K_.xs.length<=40000):q1c (rN n,k)=d (mkS ((n.K_.xs.filter (isK k)).map rN)):=by
 have:=zab (E:=Er) (f:=q6p) (xs:=n.K_.xs) (A:=List Nd) (step:=λa x =>.ok (if isK k x then a++[x] else a)) (st:=λi a=>(k,(i:Int),rN n,mkS (a.map rN))) (fin:=λa=>mkS (a.map rN)) (er:=λ_ _=>mkS []) (I:=λi a=>a.length<=i)
  (λi hi a ha=>by
   unfold q6p;simp only[jk,zk];have hg:zb (rN n).K_ (i:Int)=d (rN n.K_.xs[i]):=by rw[zD,zh (by simpa using hi)];simp
   rw[ju (by rw[zD];simp[Sl.len];omega),hg];simp only[ji,ZT,isK,jk];have hw:=zw (k:=i) (by omega);by_cases h2:n.K_.xs[i].k_=k
   ·simp only[h2,jp];rw[zy2 (by omega)];grind
   grind)
  (λi hi a a' ha e=>by grind)
  (λa _=>by unfold q6p;simp only[jk];rw[jv (by rw[zD];simp[Sl.len])])
  (a:=[]) (by simp)
 have e:∀(l a:List Nd),l.foldlM (m:=Except Er) (λ(a:List Nd) x =>.ok (if isK k x then a++[x] else a)) a = .ok (a++l.filter (isK k)):=by
  intro l
  induction l with
  |nil=>intro a;simp;rfl
  |cons x l ih=>
   intro a;rw[H];show K _ (if isK k x then a++[x] else a) l=_;grind
 rw[e] at this;unfold q1c q94;simp only[zk];rw[show(0:Int)=((0:Nat):Int) from rfl,show(C [] false:Sl RNd)=mkS (([]:List Nd).map rN) from rfl,this.1];simp
theorem ziQ{acc:List PL}{x:PL}(h:acc.length<=50000):zp 24 (mkS (acc.map rQ)) [rQ x]=d (mkS ((acc++[x]).map rQ)):=by
 rw[xQ (by omega) (by simp;omega)];simp
theorem zrK{c:Uq}(hc:c=lit [60]\/c=lit [60,61]\/c=lit [61,61])(a b k l:Int):q1a (c,a,b,k,l)=d (mkS ((vA c a b k l).map rQ)):=by
 unfold q1a q84 vA;rcases hc with rfl | rfl | rfl
 ·simp (decide:=true) only [jp,jo,ji,jr,jq,jj];rfl
 ·simp (decide:=true) only [jp,jo,ji,jr,jq,jj];rw[show(C [] false:Sl qq)=mkS (([]:List PL).map rQ) from rfl,show qq.mk a b (Ut (l - k))=rQ ⟨a,b,Ut (l - k)⟩ from rfl,ziQ (by simp)];rfl
 ·simp (decide:=true) only [jp,jo,ji,jr,jq,jj];rw[show(C [] false:Sl qq)=mkS (([]:List PL).map rQ) from rfl,show qq.mk a b (Ut (l - k))=rQ ⟨a,b,Ut (l - k)⟩ from rfl,ziQ (by simp)];simp only[ji];rw[show qq.mk b a (Ut (k - l))=rQ ⟨b,a,Ut (k - l)⟩ from rfl,ziQ (by simp)];rfl
noncomputable abbrev zoS:=q5q q1c q16 q1b q1a
noncomputable abbrev zls:=q4m q1c q16 q1b q1a
noncomputable abbrev zoT:=qa3 q1c q16 q1b q1a
noncomputable abbrev zoU:=q5r q1c q16 q1b q1a
noncomputable abbrev zlt:=q3z q1c q16 q1b q1a
theorem zw6 (hi:i<=fs.length) (hf:fs.length<=20000) (f:Nd) (T:Sl RTy) (z:Hd) (cs:Sl RNd) (s:RNd) (h:Hd) (fl:Sl qk) :
    lpO zoS ((i:Int),0,T,z,mkS (fs.map rN),cs,s,h,rN f,fl)=d (if 0<=idN f.T_ (fs.take i) then .inl (f.a_,30,T,h,fl) else .inr ((i:Int),T,z,mkS (fs.map rN),cs,s,h,rN f,fl)):=by
  have hl:(fs.take i).length=i:=by simp;omega
  have:=XB (f:=zoS) (xs:=fs.take i) (p:=λx=>decide (x.T_=f.T_)) (st:=λk=>((i:Int),(k:Int),T,z,mkS (fs.map rN),cs,s,h,rN f,fl)) (yes:=λ_ =>.inl (f.a_,30,T,h,fl)) (no :=.inr ((i:Int),T,z,mkS (fs.map rN),cs,s,h,rN f,fl))
    (λk hk=>by
      rw[hl] at hk;unfold zoS q5q;simp only[jk,zk];rw[ju (by omega),xY (by omega)];simp only[ji,zX,YS,List.getElem_take];rw[zw (by omega)]
      grind)
    (by unfold zoS q5q;simp only[jk,zk,hl];grind)
  rw[show(0:Int)=((0:Nat):Int) from rfl,this];unfold idN idx;cases(fs.take i).findIdx? _ with
  |none=>simp
  |some j=>simp
theorem zu0{acc:List PF}{x:PF}(h:acc.length<=50000):zp 24 (mkS (acc.map rF)) [rF x]=d (mkS ((acc++[x]).map rF)):=by
 rw[xQ (by omega) (by simp;omega)];simp
theorem zw7 (hf:fs.length<=20000) (s:Nd) (hg:∀f∈fs,za5 f) (T:Sl RTy) (z:Hd) (cs:Sl RNd) (h:Hd) :
    match fs.foldlM (YR s fs) [] with
    | .ok l=>lpO zls (0,T,z,mkS (fs.map rN),cs,rN s,h,mkS [])=d (.inr (T,z,mkS (fs.map rN),cs,rN s,h,mkS (l.map rF)))
    | .error e=>∃w,lpO zls (0,T,z,mkS (fs.map rN),cs,rN s,h,mkS [])=d (.inl (e.1,e.2,T,h,w)):=by
  have:=zab (f:=zls) (xs:=fs) (step:=YR s fs) (st:=λi a=>((i:Int),T,z,mkS (fs.map rN),cs,rN s,h,mkS (a.map rF))) (fin:=λa =>.inr (T,z,mkS (fs.map rN),cs,rN s,h,mkS (a.map rF))) (er:=λa e =>.inl (e.1,e.2,T,h,mkS (a.map rF))) (I:=λi a=>a.length=i)
    (λi hi a ha=>by
      unfold zls q4m;have hgi:=hg fs[i] (g9 hi);have hw:=zw (k:=i) (by omega);simp only[jk,zk,YG,Dn];rw[ju (by omega),xY hi];simp only[ji];have h0:=zw6 (i:=i) (Nat.le_of_lt hi) hf fs[i] T z cs (rN s) h (mkS (a.map rF));rw[show lpO (q5q q1c q16 q1b q1a) ((i:Int),0,T,z,mkS (fs.map rN),cs,rN s,h,rN fs[i],mkS (a.map rF))=_ from h0];simp only[ji,YR,ha];by_cases h1:0<=idN fs[i].T_ (fs.take i)
      ·grind
      simp only[h1,jo,jl];obtain⟨_,hk0 | ⟨k,hk1,_⟩⟩:=hgi
      · have hkl:(rN fs[i]).K_.len=0:=by rw[zD,hk0];rfl
        simp (decide:=true) only [hkl,jo,jl,ji,zX,show qk.mk fs[i].T_ (-1)=rF ⟨fs[i].T_, -1⟩ from rfl];rw[zu0 (by omega)];grind
      · have hkx:¬ fs[i].K_.xs=[]:=by rw[hk1];simp
        have e0:zQ fs[i]=k:=by unfold zQ;rw[hk1];rfl
        have hkl:(rN fs[i]).K_=⟨[rN k],B⟩:=by rw[zD,hk1];rfl
        simp only[hkx,jo,e0];simp (decide:=true) only [hkl,show Sl.len (⟨[rN k],B⟩:Sl RNd)=1 from rfl,show zb (⟨[rN k],B⟩:Sl RNd) 0=d (rN k) from rfl,jp,ji,zX,YS,vC fs _ (show fs.length<=1000000 by omega)];by_cases h2:s.T_=lit [111,119,110]
        · by_cases h3:0<=Ze fs k.T_
          ·simp only[zX,h2,h3,UW,js,jo,and_self,jp,show¬ (Ze fs k.T_ < 0) by omega,jj,jl,ji,jq,show qk.mk fs[i].T_ (Ze fs k.T_)=rF ⟨fs[i].T_,Ze fs k.T_⟩ from rfl];rw[zu0 (by omega)];grind
          ·simp only[YS,h2,h3,UW,js,jo,and_false,jp,show Ze fs k.T_ < 0 by omega,jm,ji,jr]
        ·simp only[YS,h2,UW,jt,jp,false_and,jo,jm,ji])
    (λi hi a a' ha e=>by
      unfold YR at e;split at e
      all_goals grind)
    (λa _=>by
      unfold zls q4m;simp only[jk,zk,YG,Dn]
      grind)
    (a:=[]) rfl
  cases e:fs.foldlM (YR s fs) [] with
  |error er=>grind
  |ok l=>grind
def spc(so:Int×Int):Int:=if so.1=2\/so.1=3 then so.2 else -1
theorem zm2 (hf:fs.length<=20000) (hi:i < cs.length) {k:Nd}{j:Int}(hj:j=0\/j=1) (hk:zb (rN cs[i]).K_ j=d (rN k)) (T:Sl RTy) (z h:Hd) (v0 v1:Int) (w:Sl qk) (q:Sl qq) :
    zoT (spc h.2,(i:Int),j,T,z,mkS (fs.map rN),mkS (cs.map rN),h,⟨[v0,v1],B⟩,w,q)=d (match yx fs h.2 cs[i] k with
      | .error e =>.done (.inl (e.1,e.2,T,h,w,q))
      | .ok v =>.next (spc h.2,(i:Int),j+1,T,z,mkS (fs.map rN),mkS (cs.map rN),h,⟨[if k.T_=lit [] then v0 else if j=0 then v else v0,if k.T_=lit [] then v1 else if j=0 then v1 else v],B⟩,w,q)):=by
  unfold zoT qa3;have hl:Ze fs k.T_ < fs.length:=xB.2.1;have hl0 : -1<=Ze fs k.T_:=xB.1;have hw:Ut (j+1)=j+1:=zK (by omega) (by omega);have hw2:Ut (Ze fs k.T_+1)=Ze fs k.T_+1:=zK (by omega) (by omega);have hv:∀x y:Int,∃u,zb (⟨[x,y],B⟩:Sl Int) j=d u:=λx y=>by rcases hj with rfl | rfl<;>exact⟨_,rfl⟩
  have hs:∀x y u:Int,Sl.set (⟨[x,y],B⟩:Sl Int) j u=⟨[if j=0 then u else x,if j=0 then y else u],B⟩:=λx y u=>by rcases hj with rfl | rfl<;>rfl
  simp only[jk];rw[ju (by omega),xY hi];simp only[ji,hk,zX,YS,vC fs _ (show fs.length<=1000000 by omega),yx];by_cases ht:k.T_=lit []
  ·grind
  simp only[ht,jo];by_cases h0:0<=Ze fs k.T_
  case neg=>simp only[xY hi,YS,show Ze fs k.T_ < 0 by omega,h0,jp,jo,false_and,ji,jl]
  have hsp:(Ze fs k.T_=spc h.2)=((h.2.1=2\/h.2.1=3)/\Ze fs k.T_=h.2.2):=by
    unfold spc;grind
  obtain⟨u,hu⟩:=hv v0 v1;by_cases hc:(h.2.1=2\/h.2.1=3)/\Ze fs k.T_=h.2.2
  ·simp only[xY hi,YS,show¬ (Ze fs k.T_ < 0) by omega,h0,jo,U4,hsp,eq_true hc,jp,js,and_self,jr,ji,jl]
  ·simp only[show¬ (Ze fs k.T_ < 0) by omega,h0,jo,U4,hsp,eq_false hc,jp,jt,jq,jj,ji,jm,hu,hs,hw,hw2]
theorem zw8 (sp:Int) (i:Int) (T:Sl RTy) (z h:Hd) (fs cs:Sl RNd) (fl:Sl qk) (l acc:List PL) (ha:acc.length+l.length<=50000) :
    lpO zoU (sp,i,0,T,z,fs,cs,h,mkS (l.map rQ),fl,mkS (acc.map rQ))=d (sp,i,T,z,fs,cs,h,fl,mkS ((acc++l).map rQ)):=by
  have:=zab (E:=Er) (f:=zoU) (xs:=l) (step:=λa x =>.ok (a++[x])) (st:=λk a=>(sp,i,(k:Int),T,z,fs,cs,h,mkS (l.map rQ),fl,mkS (a.map rQ))) (fin:=λa=>(sp,i,T,z,fs,cs,h,fl,mkS (a.map rQ))) (er:=λa _=>(sp,i,T,z,fs,cs,h,fl,mkS (a.map rQ))) (I:=λk a=>a.length=acc.length+k)
    (λk hk a ha=>by
      unfold zoU q5r;simp only[jk,YG,Dn];rw[ju (by omega),xY hk];simp only[ji]
      rw[ziQ (by omega),ji,zw (by omega)])
    (λk hk a a' ha e=>by grind)
    (λa _=>by unfold zoU q5r;simp only[jk,YG,Dn];grind)
    (a:=acc) rfl
  have e:∀(l a:List PL),l.foldlM (m:=Except Er) (λ(a:List PL) x =>.ok (a++[x])) a = .ok (a++l):=by
    intro l
    induction l with
    |nil=>intro a;simp;rfl
    |cons x l ih=>intro a;rw[H];show K _ (a++[x]) l=_;rw[ih];simp
  grind
theorem zw9 (hf:fs.length<=20000) (hc:cs.length<=20000) (hg:∀c∈cs,zb8 c) (T:Sl RTy) (z h:Hd) (fl:Sl qk) :
    match cs.foldlM (Yz fs h.2) [] with
    | .ok l=>lpO zlt (spc h.2,0,T,z,mkS (fs.map rN),mkS (cs.map rN),h,fl,mkS [])=d (.inr (T,z,h,fl,mkS (l.map rQ)))
    | .error e=>∃w,lpO zlt (spc h.2,0,T,z,mkS (fs.map rN),mkS (cs.map rN),h,fl,mkS [])=d (.inl (e.1,e.2,T,h,fl,w)):=by
  have:=zab (f:=zlt) (xs:=cs) (step:=Yz fs h.2) (st:=λi a=>(spc h.2,(i:Int),T,z,mkS (fs.map rN),mkS (cs.map rN),h,fl,mkS (a.map rQ))) (fin:=λa =>.inr (T,z,h,fl,mkS (a.map rQ))) (er:=λa e =>.inl (e.1,e.2,T,h,fl,mkS (a.map rQ))) (I:=λi a=>a.length<=2 * i)
    (λi hi a ha=>by
      unfold zlt q3z;have hw:=zw (k:=i) (by omega);obtain⟨_,ht,x,y,hk,_,_⟩:=hg cs[i] (g9 hi);have ka:zQ cs[i]=x:=by unfold zQ;rw[hk];rfl
      have kb:VH cs[i]=y:=by unfold VH zQ;rw[hk];rfl
      have hks:(rN cs[i]).K_=⟨[rN x,rN y],B⟩:=by rw[zD,hk];rfl
      have g0:zb (rN cs[i]).K_ 0=d (rN x):=by rw[hks];rfl
      have g1:zb (rN cs[i]).K_ 1=d (rN y):=by rw[hks];rfl
      have b0:=zm2 hf hi (.inl rfl) g0 T z h 0 0 fl (mkS (a.map rQ));simp only[jk,YG,Dn];rw[ju (by omega)];unfold Yz;rw[ka,kb];show N (lpO zoT _) _=_;cases e0:yx fs h.2 cs[i] x with
      |error er=>rw[e0] at b0;rw[zx b0];rfl
      |ok v=>
        rw[e0] at b0;have b1:=zm2 hf hi (.inr rfl) g1 T z h v 0 fl (mkS (a.map rQ));have hv:(if x.T_=lit [] then(0:Int) else v)=v:=by
          split
          ·rename_i h0;unfold yx at e0;grind
          ·rfl
        simp only[jp,hv,ite_self] at b0;rw[zE b0];show N (lpO zoT (spc h.2,(i:Int),1,T,z,mkS (fs.map rN),mkS (cs.map rN),h,⟨[v,0],B⟩,fl,mkS (a.map rQ))) _=_;cases e1:yx fs h.2 cs[i] y with
        |error er=>rw[e1] at b1;rw[zx b1];rfl
        |ok w=>
          rw[e1] at b1;have hw2:(if y.T_=lit [] then(0:Int) else w)=w:=by
            split
            ·rename_i h0;unfold yx at e1;grind
            ·rfl
          simp (decide:=true) only [jo,hw2,ite_self] at b1;rw[zE b1,zx (y :=.inr (spc h.2,(i:Int),T,z,mkS (fs.map rN),mkS (cs.map rN),h,⟨[v,w],B⟩,fl,mkS (a.map rQ))) rfl];have hln:=zaa cs[i].T_ v w x.n_ y.n_;simp only[ji,jl,xY hi,g0,g1,zX,zw5,show zb (⟨[v,w],B⟩:Sl Int) 0=d v from rfl,show zb (⟨[v,w],B⟩:Sl Int) 1=d w from rfl,zrK ht,D];rw[show lpO (q5r q1c q16 q1b q1a) _=_ from zw8 _ _ _ _ _ _ _ _ (vA cs[i].T_ v w x.n_ y.n_) a (by omega)]
          grind)
    (λi hi a a' ha e=>by
      unfold Yz at e;cases e1:yx fs h.2 cs[i] (zQ cs[i]) with
      |error er=>rw[e1] at e;cases e
      |ok v=>
        cases e2:yx fs h.2 cs[i] (VH cs[i]) with
        |error er=>rw[e1,e2] at e;cases e
        |ok w=>
          rw[e1,e2] at e;cases e;have:=zaa cs[i].T_ v w (zQ cs[i]).n_ (VH cs[i]).n_
          grind)
    (λa _=>by
      unfold zlt q3z;simp only[jk,YG,Dn]
      grind)
    (a:=[]) (by simp)
  cases e:cs.foldlM (Yz fs h.2) [] with
  |error er=>grind
  |ok l=>grind
theorem zy3 {t:List PT}(hg:wd n) (ht:t.length<=20000) (hn:n.K_.xs.length<=20000) :
    ∃w:Er->RTy,q46 (rN n,mkS (t.map rT))=d (match Y7 t n with | .error e=>(w e,e.1,e.2,mkS (t.map rT)) | .ok x=>(rT x,0,0,mkS (t.map rT))):=by
  obtain⟨s,fs,cs,hk,hf3,hc4,hs,hf,hc⟩:=zds hg;have hks:zQ n=s:=by unfold zQ;rw[hk];rfl
  have hlen:(s::(fs++cs)).length<=20000:=by grind
  simp only[jy,jx] at hlen;unfold q46 qa4 Y7;simp only[zk];rw[zlr n 3 (by omega),zlr n 4 (by omega),hf3,hc4,hks,zac t _ (by omega)];simp only[ji,zX,YS,jk,YG,Dn];rw[show zb (rN n).K_ 0=d (rN s) by rw[zD,hk];rfl];simp only[ji,zk];by_cases h0:0<=idT n.T_ t
  ·simp only[h0,jp];exact⟨λ_=>_,rfl⟩
  simp only[h0,jo];by_cases h8:8 < fs.length
  ·simp only[show(8:Int) < (fs.length:Int) by omega,h8,jp];exact⟨λ_=>_,rfl⟩
  simp only[show¬ ((8:Int) < (fs.length:Int)) by omega,h8,jo];have h1:=zw7 (fs:=fs) (by omega) s hf (mkS (t.map rT)) (lit [],0,0) (mkS (cs.map rN)) (n.T_,0,0);rw[show(C [] false:Sl qk)=mkS [] from rfl];cases e1:fs.foldlM (YR s fs) [] with
  |error e=>
    rw[e1] at h1;obtain⟨w,h1⟩:=h1;rw[show lpO (q4m q1c q16 q1b q1a) _=_ from h1];exact⟨λ_=>_,rfl⟩
  |ok fl=>
    rw[e1] at h1;simp only at h1;rw[show lpO (q4m q1c q16 q1b q1a) _=_ from h1];simp only[ji,jl,D]
    have fin:∀so:Int×Int,∃w:Er->RTy,((lpO (q3z q1c q16 q1b q1a) (spc so,0,mkS (t.map rT),(lit [],0,0),mkS (fs.map rN),mkS (cs.map rN),(n.T_,so.1,so.2),mkS (fl.map rF),C [] F)).bind λy78=>
        Sum.elim (λy79=>d (qc.mk y79.2.2.2.1.1 y79.2.2.2.1.2.1 y79.2.2.2.1.2.2 y79.2.2.2.2.1 y79.2.2.2.2.2,y79.1,y79.2.1,y79.2.2.1)) (λy80=>d (qc.mk y80.2.2.1.1 y80.2.2.1.2.1 y80.2.2.1.2.2 y80.2.2.2.1 y80.2.2.2.2,0,0,y80.1)) y78) =
        d (match(cs.foldlM (Yz fs so) []).bind λfa=>(.ok ⟨n.T_,so.1,so.2,mkS fl,mkS fa⟩:Except Er PT) with | .error e=>(w e,e.1,e.2,mkS (t.map rT)) | .ok x=>(rT x,0,0,mkS (t.map rT))):=by
      intro so;have h4:=zw9 (fs:=fs) (cs:=cs) (by omega) (by omega) hc (mkS (t.map rT)) (lit [],0,0) (n.T_,so.1,so.2) (mkS (fl.map rF));rw[show(C [] false:Sl qq)=mkS [] from rfl];cases e4:cs.foldlM (Yz fs so) [] with
      |error e=>
        rw[show((n.T_,so.1,so.2):Hd).2=so from rfl,e4] at h4;obtain⟨w,h4⟩:=h4;rw[show lpO (q3z q1c q16 q1b q1a) _=_ from h4];exact⟨λ_=>_,rfl⟩
      |ok l=>
        rw[show((n.T_,so.1,so.2):Hd).2=so from rfl,e4] at h4;simp only at h4;rw[show lpO (q3z q1c q16 q1b q1a) _=_ from h4];refine⟨λ_=>⟨lit [],0,0,mkS [],mkS []⟩,?_⟩;simp only[ji,jl,D,rT,zrJ]
    have i0:idx (λw=>decide (lit [111,119,110]=w)) Yc=0:=by decide +kernel
    have i1:idx (λw=>decide (lit [99,101,108,108]=w)) Yc=1:=by decide +kernel
    have i2:idx (λw=>decide (lit [99,111,117,110,116,101,100]=w)) Yc=2:=by decide +kernel
    have i3:idx (λw=>decide (lit [108,111,99,107]=w)) Yc=3:=by decide +kernel
    have i4:idx (λw=>decide (lit [103,117,97,114,100]=w)) Yc=4:=by decide +kernel
    obtain⟨kd,tx,nu,a,ks⟩:=s;obtain⟨_,hs⟩:=hs;simp only at hs;have g0:∀(k:Nd),zb (rN ⟨kd,tx,nu,a,⟨[k],B⟩⟩).K_ 0=d (rN k):=λk=>by rw[zD];rfl
    obtain⟨rfl | rfl,rfl⟩ | ⟨w,hw,rfl,k,rfl,_⟩:=hs
    ·unfold xP;simp (decide:=true) only [i0,ji,jo,jp,jl,jm,jq,jj,Zy,zX];exact fin (0,0)
    ·unfold xP;simp (decide:=true) only [i1,ji,jo,jp,jl,jm,jq,jj,Zy,zX];exact fin (1,0)
    simp only[zdW,UO,Q,or_false] at hw;rcases hw with rfl | rfl | rfl
    · unfold xP;simp (decide:=true) only [i2,ji,jo,jp,jl,jm,jq,jr,jj,Zy,zX,YS,g0,vC fs _ (show fs.length<=1000000 by omega),zQ,Dd];by_cases h:0<=Ze fs k.T_
      ·simp only[h,show¬ (Ze fs k.T_ < 0) by omega,jp,jo,jl,jm,ji];have:=fin (2,Ze fs k.T_);simp (decide:=true) only [spc,jp,or_false] at this;exact this
      ·simp only[h,show Ze fs k.T_ < 0 by omega,jp,jo,jl,jm,ji];exact⟨λ_=>_,rfl⟩
    · unfold xP;simp (decide:=true) only [i3,ji,jo,jp,jl,jm,jq,jr,jj,Zy,zX,YS,g0,vC fs _ (show fs.length<=1000000 by omega),zQ,Dd];by_cases h:0<=Ze fs k.T_
      ·simp only[h,show¬ (Ze fs k.T_ < 0) by omega,jp,jo,jl,jm,ji];have:=fin (3,Ze fs k.T_);simp (decide:=true) only [spc,jp,or_true] at this;exact this
      ·simp only[h,show Ze fs k.T_ < 0 by omega,jp,jo,jl,jm,ji];exact⟨λ_=>_,rfl⟩
    · unfold xP;have hl:idT k.T_ t < t.length:=xB.2.1;simp (decide:=true) only [i4,ji,jo,jp,jl,jm,jq,jr,jj,Zy,zX,YS,g0,zac t _ (show t.length<=1000000 by omega),zQ,Dd];by_cases h:0<=idT k.T_ t
      · obtain⟨j,hj⟩:∃j:Nat,idT k.T_ t=j:=⟨_,(Dz h).symm⟩
        rw[hj] at hl;have hlt:j < t.length:=by omega
        simp only[hj,show(0:Int)<=(j:Int) by omega,show¬ ((j:Int) < 0) by omega,jp,jo,U4,xY hlt,ji,O,U6 hlt,P,rT];by_cases h3:t[j].S_=3
        · simp only[h3,YG,Dn,jp,jo,jl,ji,UW,js];by_cases h0:fs.length+cs.length=0
          ·simp only[h0,show¬ ((0:Int) < (fs.length:Int)) by omega,show¬ ((0:Int) < (cs.length:Int)) by omega,jp,jo,jq,jj,jl,jm,ji];exact fin (4,(j:Int))
          · simp only[h0,jo];by_cases hf0:(0:Int) < (fs.length:Int)
            ·simp only[hf0,jp,jm,jl,ji];exact⟨λ_=>_,rfl⟩
            ·simp only[hf0,show(0:Int) < (cs.length:Int) by omega,jp,jo,jr,jm,jl,ji];exact⟨λ_=>_,rfl⟩
        ·simp only[h3,jp,jo,UW,jt,jm,jl,ji];exact⟨λ_=>_,rfl⟩
      ·simp only[h,show idT k.T_ t < 0 by omega,jp,jo,false_and,jm,jl,ji];exact⟨λ_=>_,rfl⟩
theorem zrL (hg:∀k∈n.K_.xs,k.k_=1->wd k/\k.K_.xs.length<=20000) (hn:n.K_.xs.length<=20000) :
    q2i (rN n)=d (match za6 n.K_.xs with | .error e=>(e.1,e.2,C [] F) | .ok t=>(0,0,mkS (t.map rT))):=by
  have hne:∀(t:List PT) (k:Nd) (e:Er),Y7 t k = .error e->e.2≠0:=by
    intro t k e h;have hfold:∀{α A:Type} (f:A->α->Except Er A),(∀a x e,f a x = .error e->e.2≠0)->∀(l:List α) (a:A) (e:Er),l.foldlM f a = .error e->e.2≠0:=by
      intro α A f hf l
      induction l with
      |nil=>intro a e h;cases h
      |cons x l ih=>
        intro a e h;rw[H] at h;cases hx:f a x with
        |error er=>rw[hx] at h;cases h;grind
        |ok b=>rw[hx] at h;exact ih b e h
    unfold Y7 at h;simp only at h;split at h
    ·cases h;simp
    split at h
    ·cases h;simp
    generalize k.K_.xs.filter (isK 3)=fs at h;generalize k.K_.xs.filter (isK 4)=cs at h;cases e1:fs.foldlM (YR (zQ k) fs) [] with
    |error er=>
      rw[e1] at h;cases h;refine hfold _ (λa x e h=>?_) _ _ _ e1;unfold YR at h;grind
    |ok fl=>
      rw[e1] at h;simp only[D] at h;cases e2:xP t (zQ k) fs cs with
      |error er=>
        rw[e2] at h;cases h;unfold xP at e2;simp only at e2;split at e2
        ·grind
        split at e2
        ·grind
        ·cases e2
      |ok so=>
        rw[e2] at h;simp only at h;cases e3:cs.foldlM (Yz fs so) [] with
        |ok fa=>grind
        |error er=>
          rw[e3] at h;cases h;refine hfold _ (λa x e h=>?_) _ _ _ e3;have hv:∀c k e,yx fs so c k = .error e->e.2≠0:=by
            intro c k e h;unfold yx at h;grind
          unfold Yz at h;cases e5:yx fs so x (zQ x) with
          |error er=>rw[e5] at h;cases h;grind
          |ok v=>
            cases e6:yx fs so x (VH x) with
            |error er=>rw[e5,e6] at h;cases h;grind
            |ok w=>rw[e5,e6] at h;cases h
  have:=zab (f:=q4t q46) (xs:=n.K_.xs) (step:=λt k=>if k.k_=1 then(Y7 t k).bind λx =>.ok (t++[x]) else .ok t) (st:=λi a=>((i:Int),rN n,mkS (a.map rT)))
    (fin:=λa =>.inr (mkS (a.map rT))) (er:=λ_ e =>.inl e) (I:=λi a=>a.length<=i)
    (λi hi a ha=>by
      unfold q4t;have hw:=zw (k:=i) (by omega);simp only[jk,zk];have hg0:zb (rN n).K_ (i:Int)=d (rN n.K_.xs[i]):=by rw[zD,zh (by simpa using hi)];simp
      rw[ju (by rw[zD];simp[Sl.len];omega),hg0];simp only[ji,ZT,zk];by_cases h1:n.K_.xs[i].k_=1
      · obtain⟨g1,g2⟩:=hg _ (g9 hi) h1;obtain⟨w,hw1⟩:=zy3 g1 (show a.length<=20000 by omega) g2;simp only[h1,UW,js,jo,jp,hw1,ji];cases e:Y7 a n.K_.xs[i] with
        |error e2=>have:=hne _ _ _ e;simp only[this,jt,jp,ji,jl,D]
        |ok x=>
          simp only[js,jo,D];rw[xQ (by omega) (by simp;omega)];grind
      grind)
    (λi hi a a' ha e=>by
      split at e
      · cases e1:Y7 a n.K_.xs[i] with
        |error er=>rw[e1] at e;cases e
        |ok x=>rw[e1] at e;cases e;simp;omega
      grind)
    (λa _=>by
      unfold q4t;simp only[jk]
      rw[jv (by rw[zD];simp[Sl.len])])
    (a:=[]) (by simp)
  unfold q2i q85;simp only[zk];show((lpO (q4t q46) (((0:Nat):Int),rN n,mkS (([]:List PT).map rT))).bind _)=_;unfold za6;cases e:n.K_.xs.foldlM (m:=Except Er) (λt k=>if k.k_=1 then(Y7 t k).bind λx =>.ok (t++[x]) else .ok t) [] with
  |error er=>
    grind
  |ok t=>
    grind
end Go.Px
