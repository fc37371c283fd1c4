/- Part Ld. -/
import Derived.Test.YtlhommikjhhmbaaGreatDoorLc
set_option linter.unusedVariables false
set_option linter.unusedSimpArgs false
set_option linter.unusedSectionVars false
namespace Go.Px
open Bool renaming true->B,false->F
open Except renaming bind->D
open Int renaming toNat_natCast->O
open List renaming foldlM_cons->H,foldlM->K,filter_cons->M,not_mem_nil->Q,filter_eq_self->U,filter_eq_nil_iff->V,filter_append->W
open _root_.Option renaming some->d,bind->N,elim_some->P
open Sl renaming mk->C
variable{A E R S α β:Type}{cs fs:List Nd}{i:Nat}{n:Nd}{t ts:List Tk}{I:Nat->A->Prop}{f:S->U3 (Step S R)}{l xs:List α}{p:α->Bool}{step:A->α->Except E A}
theorem DF:∀{a:Int},0<=a->↑a.toNat=a:=@Int.toNat_of_nonneg
theorem wh {st:Nat->S}{yes:Nat->R}{no:R}
    (h:∀i (hi:i < xs.length),f (st i)=d (if p xs[i]=B then .done (yes i) else .next (st (i+1)))) (h0:f (st xs.length)=d (.done no)) :
    lpO f (st 0)=d ((xs.findIdx? p).elim no yes):=by
 have:∀(n i:Nat),i+n=xs.length->lpO f (st i)=d (((xs.drop i).findIdx? p).elim no λj=>yes (i+j)):=by
  intro n
  induction n with
  |zero=>
   intro i hi;rw[U6 Zc,(Zc:i=xs.length),zw h0];rfl
  |succ n b=>
   intro i hi;have a:i < xs.length:=Zc
   have h1:=h i a;rw[Dq a,List.findIdx?_cons];by_cases hp:p xs[i]=B
   ·rw[jv hp] at h1;rw[zw h1,jv hp];rfl
   · rw[jx hp] at h1;rw[zA h1,b (i+1) Zc,jx hp];cases(xs.drop (i+1)).findIdx? p with
     |none=>rfl
     |some j=>grind
 have h2:=this xs.length 0 Zc;simpa using h2
theorem zl4 {st:Nat->A->S}{fin:A->R}{er:E->R}
    (h:∀i (hi:i < xs.length) a,I i a->f (st i a)=d (match step a xs[i] with | .ok a' =>.next (st (i+1) a') | .error e =>.done (er e)))
    (j:∀i (hi:i < xs.length) a a',I i a->step a xs[i] = .ok a'->I (i+1) a') (h0:∀a,I xs.length a->f (st xs.length a)=d (.done (fin a))) {a:A} (c:I 0 a) :
    lpO f (st 0 a)=d (match xs.foldlM step a with | .ok a'=>fin a' | .error e=>er e):=by
 have:∀(n i:Nat) (a:A),i+n=xs.length->I i a->lpO f (st i a)=d (match(xs.drop i).foldlM step a with | .ok a'=>fin a' | .error e=>er e):=by
  intro n
  induction n with
  |zero=>
   intro i a hi c;obtain rfl:i=xs.length:=Zc
   rw[U6 (UK _),zw (h0 a c)];rfl
  |succ n g=>
   intro i a hi c;have b:i < xs.length:=Zc
   have h1:=h i b a c;rw[Dq b,H];cases hs:step a xs[i] with
   |error e=>rw[hs] at h1;rw[zw h1];rfl
   |ok a'=>rw[hs] at h1;rw[zA h1];exact g (i+1) a' Zc (j i b a a' c hs)
 have h2:=this xs.length 0 a Zc c;grind
theorem V6:∀(xs:List α) (k:Nat) (a:A),I k a->(∀i (hi:i < xs.length) a a',I (k+i) a->step a xs[i] = .ok a'->I (k+i+1) a')->∀b,xs.foldlM step a = .ok b->I (k+xs.length) b
 |[],k,a,h,_,b,e=>by cases e;exact h
 |x::xs,k,a,h,hs,b,e=>by
  rw[H] at e;cases h1:step a x with
  |error er=>rw[h1] at e;cases e
  |ok a'=>
   rw[h1] at e;have:=V6 xs (k+1) a' (hs 0 je a a' h h1) (λi hi a b c hb=>by have:=hs (i+1) ji a b jE hb;grind) b e;grind
theorem ze{s:Sl α}(h:i < s.xs.length):za s (i:Int)=d s.xs[i]:=by rw[wV];grind
theorem zf(s:Sl α):s.len=(s.xs.length:Int):=rfl
theorem jA{p:Prop}(h:p:=by simp only[zf];omega):p:=h
def idx(p:α->Bool)(l:List α):Int:=(l.findIdx? p).elim (-1) λi=>(i:Int)
theorem yE: -1<=idx p l/\idx p l < l.length/\(0<=idx p l↔∃x∈l,p x=B):=by
 unfold idx;cases h:l.findIdx? p with
 |none=>
  rw[List.findIdx?_eq_none_iff] at h;refine⟨je,jE,jE⟩
 |some i=>
  obtain⟨hi,hp,_⟩:=List.findIdx?_eq_some_iff_getElem.1 h;exact⟨jE,jE,λ_=>⟨_,gc hi,hp⟩,λ_=>je⟩
theorem znI(g:α->β)(p:β->Bool)(l:List α):idx p (l.map g)=idx (λx=>p (g x)) l:=by
 unfold idx;rw[List.findIdx?_map];rfl
def zer(n:Nd):Prop:=n.K_=nilS
def zes:List (List UInt8):=[[99,111,117,110,116,101,100],[108,111,99,107],[103,117,97,114,100]]
def zjo(n:Nd):Prop:=n.k_=2/\((n.T_=lit [111,119,110]\/n.T_=lit [99,101,108,108])/\n.K_=nilS\/∃w∈zes,n.T_=lit w/\∃k,n.K_=⟨[k],B⟩/\zer k)
def zbs(n:Nd):Prop:=n.k_=3/\(n.K_=nilS\/∃k,n.K_=⟨[k],B⟩/\zer k)
def zcA(n:Nd):Prop:=n.k_=4/\(n.T_=lit [60]\/n.T_=lit [60,61]\/n.T_=lit [61,61])/\∃a b,n.K_=⟨[a,b],B⟩/\zer a/\zer b
def wE(n:Nd):Prop:=n.k_=1/\∃s fs cs,n.K_=⟨s::(fs++cs),B⟩/\zjo s/\(∀f∈fs,zbs f)/\∀c∈cs,zcA c
theorem XO{w:List UInt8}(h:isP w ts=B):(hd ts).T_=lit w:=by
 unfold isP at h;grind
theorem zxg(h:vo ts = .ok (n,t)):zjo n:=by
 unfold vo at h;split at h
 ·rename_i c;cases h;exact⟨rfl,.inl ⟨.inl (XO c),rfl⟩⟩
 split at h
 ·rename_i c;cases h;exact⟨rfl,.inl ⟨.inr (XO c),rfl⟩⟩
 split at h
 ·rename_i c;obtain⟨k,a,e,h⟩:=bd_ok h;cases h;exact⟨rfl,.inr ⟨_,by simp[zes],XO c,k,rfl,zP e⟩⟩
 split at h
 ·rename_i c;obtain⟨k,a,e,h⟩:=bd_ok h;cases h;exact⟨rfl,.inr ⟨_,by simp[zes],XO c,k,rfl,zP e⟩⟩
 split at h
 ·rename_i c;obtain⟨k,a,e,h⟩:=bd_ok h;cases h;exact⟨rfl,.inr ⟨_,by simp[zes],XO c,k,rfl,zP e⟩⟩
 ·cases h
theorem zui(h:xG ts = .ok (n,t)):zbs n:=by
 obtain⟨m,c,b,h⟩:=bd_ok h;split at h
 ·obtain⟨k,t2,a,h⟩:=bd_ok h;obtain⟨u,t3,_,h⟩:=bd_ok h;cases h;exact⟨rfl,.inr ⟨k,rfl,zP a⟩⟩
 ·cases h;exact⟨rfl,.inl rfl⟩
theorem zyW{s:U0}(h:zct ts = .ok (s,t)):s=lit [60]\/s=lit [60,61]\/s=lit [61,61]:=by
 unfold zct at h;split at h
 ·grind
 split at h
 ·grind
 split at h
 ·grind
 ·cases h
theorem znJ(h:YI ts = .ok (n,t)):zcA n/\n.n_=0:=by
 obtain⟨a,j,g,h⟩:=bd_ok h;obtain⟨op,t2,e,h⟩:=bd_ok h;obtain⟨b,t3,c,h⟩:=bd_ok h;cases h;exact⟨⟨rfl,zyW e,a,b,rfl,X3 g,X3 c⟩,rfl⟩
theorem zgY{one:List Tk->PR Nd}{G:Nd->Prop}(b:∀ts n t,one ts = .ok (n,t)->G n):∀(j:Nat) (acc:List Nd) (ts:List Tk) (l:List Nd) (t:List Tk),(∀x∈acc,G x)->Zt one j acc ts = .ok (l,t)->∀x∈l,G x
 |0,acc,ts,l,t,h,e=>by cases e;exact h
 |j+1,acc,ts,l,t,h,e=>by
  unfold Zt at e;split at e
  ·obtain⟨a,k,c,e⟩:=bd_ok e;refine zgY b j _ _ l t (λx g=>?_) e;grind
  grind
theorem zet{one:List Tk->PR Nd}{G:Nd->Prop}(b:∀ts n t,one ts = .ok (n,t)->G n){l:List Nd}(e:yb one ts = .ok (l,t)):∀x∈l,G x:=by
 obtain⟨a,g,c,e⟩:=bd_ok e;exact zgY b _ _ _ l t jE e
theorem zyX{a:Int}(h:zdN a ts = .ok (n,t)):wE n:=by
 rw[znH] at h;obtain⟨m,r,w,h⟩:=bd_ok h;obtain⟨s,t2,es,h⟩:=bd_ok h;obtain⟨ks,t3,b,h⟩:=bd_ok h;obtain⟨g,t4,c,h⟩:=bd_ok h;obtain⟨u,t5,v,h⟩:=bd_ok h;cases h;obtain⟨fs,rfl,k⟩:∃fs,ks=s::fs/\∀f∈fs,zbs f:=by
  unfold vd at b;split at b
  ·obtain⟨l,o,e,b⟩:=bd_ok b;obtain⟨u,q,_,b⟩:=bd_ok b;cases b;exact⟨l,rfl,zet (λ_ _ _=>zui) e⟩
  grind
 obtain⟨cs,rfl,j⟩:∃cs,g=(s::fs)++cs/\∀f∈cs,zcA f:=by
  unfold zbr at c;split at c
  ·obtain⟨l,o,e,c⟩:=bd_ok c;cases c;exact⟨l,rfl,zet (λ_ _ _ h=>(znJ h).1) e⟩
  ·cases c;exact⟨[],je,je⟩
 exact⟨rfl,s,fs,cs,je,zxg es,k,j⟩
abbrev PT:=qa
abbrev PF:=qt
abbrev PL:=qw
abbrev Er:=Int×Int
abbrev IxS(α γ:Type):=Sl α×Int×Int×γ
def ixL{γ:Type}(e:α->α)(f:α×γ->U3 (Bool×γ)):IxS α γ->U3 (Step (IxS α γ) (Int×γ⊕γ)):=λa=>
 if decide (a.2.2.1 < a.2.1)=B then(za a.1 a.2.2.1).bind λc=>(f (e c,a.2.2.2)).bind λb=>
  if b.1=B then d (Step.done (Sum.inl (a.2.2.1,b.2))) else d (Step.next (a.1,a.2.1,U4 (a.2.2.1+1),b.2))
 else d (Step.done (Sum.inr a.2.2.2))
theorem zl5 {γ:Type}{e:α->α}(h:∀x,e x=x) {f:α×γ->U3 (Bool×γ)}{c:γ}(b:∀x,f (x,c)=d (p x,c)) (s:Sl α) (hs:s.xs.length<=1000000) :
    ((lpO (ixL e f) (s,s.len,0,c)).bind λj=>Sum.elim (λa=>d a) (λg=>d (-1,g)) j)=d (idx p s.xs,c):=by
 have:=wh (f:=ixL e f) (xs:=s.xs) (p:=p) (st:=λi=>(s,s.len,(i:Int),c)) (yes:=λi =>.inl ((i:Int),c)) (no :=.inr c)
  (λi hi=>by
    simp only[ixL,jl];simp only[zf,ze hi,jj,h,b];rw[jv Zc,zu Zc]
    split<;>rfl)
  (by simp only[ixL,jl];rw[jx (by rw[zf];omega)])
 rw[show((0:Int))=((0:Nat):Int) from rfl,this];unfold idx;cases s.xs.findIdx? p<;>rfl
def idT(n:U0)(t:List PT):Int:=idx (λx=>decide (x.N_=n)) t
def idN(n:U0)(l:List Nd):Int:=idx (λx=>decide (x.T_=n)) l
theorem zcB(t:Sl PT)(n:U0)(a:t.xs.length<=1000000):q2i (t,n)=d (idT n t.xs):=by
 show(((lpO (ixL id q7v) (t,t.len,0,n)).bind _).bind λ(b:Int×U0)=>d b.1)=_;rw[zl5 (e:=id) (λ_=>rfl) (p:=λx:PT=>decide (x.N_=n)) (λx=>rfl) t a];rfl
def Zf(fs:List Nd)(n:U0):Int:=idx (λx=>decide (x.T_=n) && decide (x.K_.len=0)) fs
theorem Vb(x:PT)(n:U0)(fs:Sl Nd)(a:fs.xs.length<=1000000):q3b (x,n,fs)=d (Zf fs.xs n):=by
 show(((lpO (ixL (λy=>ke y) q5x) (fs,fs.len,0,n)).bind _).bind λ(b:Int×U0)=>d b.1)=_;rw[zl5 zm (p:=λx=>decide (x.T_=n) && decide (x.K_.len=0)) (λx=>?_) fs a];rfl;unfold q5x q8r;grind
theorem zr2(fs:Sl Nd)(n:U0)(a:fs.xs.length<=1000000):qap (fs,n)=d (decide (0<=idN n fs.xs)):=by
 show((((lpO (ixL (λy=>ke y) qc1) (fs,fs.len,0,n)).bind _).bind _).bind λ(b:Bool×U0)=>d b.1)=_;rw[zl5 zm (p:=λx:Nd=>decide (x.T_=n)) (λx=>rfl) fs a];rfl
theorem ve(b:Bool)(n:Nd)(e:Int):q70 (b,n,e)=d (if b=B then .inr () else .inl (n.a_,e)):=by cases b<;>rfl
def isK(k:Int)(n:Nd):Bool:=decide (n.k_=k)
def Ym:List U0:=[lit [111,119,110],lit [99,101,108,108],lit [99,111,117,110,116,101,100],lit [108,111,99,107],lit [103,117,97,114,100]]
def zW(n:Nd):Nd:=n.K_.xs.headD vp
def Y2(s:Nd)(fs:List Nd)(acc:List PF)(f:Nd):Except Er (List PF):=
 if 0<=idN f.T_ (fs.take acc.length) then .error (f.a_,30)
 else if f.K_.xs=[] then .ok (acc++[⟨f.T_, -1⟩])
 else if s.T_=lit [111,119,110]/\0<=Zf fs (zW f).T_ then .ok (acc++[⟨f.T_,Zf fs (zW f).T_⟩]) else .error (f.a_,32)
def xZ(t:List PT)(s:Nd)(fs cs:List Nd):Except Er (Int×Int):=
 let k:=idx (λw=>decide (s.T_=w)) Ym
 let w:=(zW s).T_
 let o:=idT w t
 if k=2\/k=3 then(if 0<=Zf fs w then .ok (k,Zf fs w) else .error (s.a_,32))
 else if k=4 then(if 0<=o/\((t[o.toNat]?).elim 0 qa.S_)=3 then(if fs.length+cs.length=0 then .ok (k,o) else .error (s.a_,32)) else .error (s.a_,31))
 else .ok (k,0)
def yC(fs:List Nd)(a:Int×Int)(c k:Nd):Except Er Int:=
 if k.T_=lit [] then .ok 0 else if 0<=Zf fs k.T_/\¬ ((a.1=2\/a.1=3)/\Zf fs k.T_=a.2) then .ok (Zf fs k.T_+1) else .error (c.a_,33)
def Ve(c:U0)(a b k l:Int):List PL:=
 if c=lit [60] then [⟨a,b,U4 (U4 (l - k) - 1)⟩] else if c=lit [60,61] then [⟨a,b,U4 (l - k)⟩]
 else if c=lit [61,61] then [⟨a,b,U4 (l - k)⟩,⟨b,a,U4 (k - l)⟩] else []
def V7(n:Nd):Nd:=zW ⟨0,lit [],0,0,⟨n.K_.xs.tail,B⟩⟩
def YJ(fs:List Nd)(a:Int×Int)(acc:List PL)(c:Nd):Except Er (List PL):=
 (yC fs a c (zW c)).bind λv=>(yC fs a c (V7 c)).bind λw =>.ok (acc++Ve c.T_ v w (zW c).n_ (V7 c).n_)
def xj(t:List PT)(n:Nd):Except Er PT:=
 let fs:=n.K_.xs.filter (isK 3);let cs:=n.K_.xs.filter (isK 4)
 if 0<=idT n.T_ t then .error (n.a_,30) else if 8 < fs.length then .error (n.a_,22) else
 (fs.foldlM (Y2 (zW n) fs) []).bind λfl=>(xZ t (zW n) fs cs).bind λa=>(cs.foldlM (YJ fs a) []).bind λb =>.ok ⟨n.T_,a.1,a.2,mkS fl,mkS b⟩
def zbt(l:List Nd):Except Er (List PT):=l.foldlM (λt k=>if k.k_=1 then(xj t k).bind λx =>.ok (t++[x]) else .ok t) []
theorem x5{b:Nat}(hb:b<=1000000){acc:List α}(h:acc.length+l.length<=100000):zo b (mkS acc) l=d (mkS (acc++l)):=by
 have:(acc.length+l.length) * b<=100000 * 1000000:=Nat.mul_le_mul h hb;rw[yy (by simp only[mkS];omega) (by simp only[mkS];omega)];cases acc<;>cases l<;>simp[mkS]
theorem zuj(n:Nd)(h:n.K_.xs.length<=50000):qaq n=d (mkS (n.K_.xs.filter (isK 3)),mkS (n.K_.xs.filter (isK 4))):=by
 show((lpO q8n (n.K_,n.K_.len,0,C [] F,C [] F)).bind λo=>d o)=_
 have:=zl4 (E:=Er) (f:=q8n) (xs:=n.K_.xs) (A:=List Nd×List Nd) (step:=λa k =>.ok (if isK 3 k then(a.1++[k],a.2) else if isK 4 k then(a.1,a.2++[k]) else a))
  (st:=λi a=>(n.K_,n.K_.len,(i:Int),mkS a.1,mkS a.2)) (fin:=λa=>(mkS a.1,mkS a.2)) (er:=λ_=>(mkS [],mkS [])) (I:=λi a=>a.1.length<=i/\a.2.length<=i)
  (λi hi a q=>by
   unfold q8n;simp only[jl];simp only[zf,ze hi,jj,zm,isK];rw[jv Zc];have r:=zu (k:=i) Zc;by_cases c:n.K_.xs[i].k_=3
   ·simp only[c,jq,js];rw[x5 Zc ji];grind
   ·by_cases g:n.K_.xs[i].k_=4
    ·simp (decide:=true) only [g,jq,jp,js,jr,jk];rw[x5 Zc ji];grind
    grind)
  (λi hi a a' q e=>by
   cases e
   grind)
  (λa _=>by unfold q8n;simp only[jl];rw[jx (by rw[zf];omega)])
  (a:=([],[])) je
 have e:∀(l a b:List Nd),l.foldlM (m:=Except Er) (λ(a:List Nd×List Nd) k =>.ok (if isK 3 k then(a.1++[k],a.2) else if isK 4 k then(a.1,a.2++[k]) else a)) (a,b) = .ok (a++l.filter (isK 3),b++l.filter (isK 4)):=by
  intro l
  induction l with
  |nil=>intro a b;simp;rfl
  |cons x l j=>
   intro a b;rw[H];by_cases c:isK 3 x=B
   ·have g:isK 4 x=false:=by simp only[isK,jl] at c |-;simp[c]
    simp only[c,g,jq,M,jk,jp];show K _ (a++[x],b) l=_;rw[j];simp
   ·by_cases g:isK 4 x=B
    ·simp only[c,g,jq,M,jk,jp];show K _ (a,b++[x]) l=_;rw[j];simp
    ·simp only[c,g,jp,M,jk];show K _ (a,b) l=_;rw[j]
 rw[e] at this;simp only[Dp] at this;rw[show(lpO q8n (n.K_,n.K_.len,0,C [] F,C [] F))=_ from this];rfl
theorem zr3(s:U0):q2v (C [lit [111,119,110],lit [99,101,108,108],lit [99,111,117,110,116,101,100],lit [108,111,99,107],lit [103,117,97,114,100]] B,s)=d (idx (λw=>decide (s=w)) Ym):=by
 have:=wh (f:=q1r) (xs:=Ym) (p:=λw=>decide (s=w)) (st:=λi=>(⟨Ym,B⟩,s,Sl.len (⟨Ym,B⟩:Sl U0),(i:Int))) (yes:=λi =>.inl (i:Int)) (no :=.inr ())
  (λi hi=>by
   have a:i < 5:=hi;unfold q1r;simp only[jl];simp only[zf,ze (s:=⟨Ym,B⟩) hi,jj];rw[jv Zc,zu Zc]
   split<;>rfl)
  (by unfold q1r;simp only[jl];rw[jx (by show¬ ((5:Int) < 5);omega)])
 show((lpO q1r (⟨Ym,B⟩,s,Sl.len (⟨Ym,B⟩:Sl U0),((0:Nat):Int))).bind _)=_;rw[this];unfold idx;cases Ym.findIdx? _<;>rfl
theorem zpy{s:Sl α}{t:Sl β}(a:s.xs.length<=100000)(hb:t.xs.length<=100000):(U4 (s.len+t.len)=0)=(s.xs.length+t.xs.length=0):=by
 rw[zf,zf,zE Zc Zc];grind
theorem zuk {t:Sl PT}{s:Nd}{fs cs:Sl Nd}(hs:zjo s) (z:t.xs.length<=100000) (g:fs.xs.length<=100000) (c:cs.xs.length<=100000) (nm:U0) (fl:Sl PF) (r:Sl PL) :
    ∃w:Er->(U0×Int×Int)×Sl PF×Sl PL,q4x (t,s,fs,cs,(nm,0,0),fl,r)=d (match xZ t.xs s fs.xs cs.xs with | .ok q =>.inr ((nm,q.1,q.2),fl,r) | .error e =>.inl (e,w e)):=by
 unfold q4x qbm;rw[zr3];obtain⟨G,L,y,a,ks⟩:=s;have i0:idx (λw=>decide (lit [111,119,110]=w)) Ym=0:=ja
 have x:idx (λw=>decide (lit [99,101,108,108]=w)) Ym=1:=ja
 have i2:idx (λw=>decide (lit [99,111,117,110,116,101,100]=w)) Ym=2:=ja
 have i3:idx (λw=>decide (lit [108,111,99,107]=w)) Ym=3:=ja
 have i4:idx (λw=>decide (lit [103,117,97,114,100]=w)) Ym=4:=ja
 obtain⟨_,hs⟩:=hs;simp only at hs;obtain⟨rfl | rfl,rfl⟩ | ⟨w,m,rfl,k,rfl,_⟩:=hs
 ·unfold xZ;simp (decide:=true) only [i0,jj,jp,jm,jr,jk];exact⟨λ_=>default,jE⟩
 ·unfold xZ;simp (decide:=true) only [x,jj,jp,jm,jr,jk];exact⟨λ_=>default,jE⟩
 have g0:∀(k:Nd),za (⟨[k],B⟩:Sl Nd) 0=d k:=λ_=>rfl
 simp only[zes,Db,Q,or_false] at m;rcases m with rfl | rfl | rfl
 · unfold xZ;simp (decide:=true) only [i2,jj,jp,jq,jm,jr,js,jk,g0,Vb _ _ fs Zc,ve,zW,Dr,jl];by_cases h:0<=Zf fs.xs k.T_
   ·simp only[h,jq,jm,jj];exact⟨λ_=>default,jE⟩
   ·simp only[h,jp,jo,jj];exact⟨λ_=>_,rfl⟩
 · unfold xZ;simp (decide:=true) only [i3,jj,jp,jq,jm,jr,js,jk,g0,Vb _ _ fs Zc,ve,zW,Dr,jl];by_cases h:0<=Zf fs.xs k.T_
   ·simp only[h,jq,jm,jj];exact⟨λ_=>default,jE⟩
   ·simp only[h,jp,jo,jj];exact⟨λ_=>_,rfl⟩
 · unfold xZ;have v:idT k.T_ t.xs < t.xs.length:=yE.2.1;simp (decide:=true) only [i4,jj,jp,jq,jm,jr,js,jk,g0,zcB t _ Zc,ve,zW,Dr,zpy g c,jl];by_cases h:0<=idT k.T_ t.xs
   · obtain⟨j,o⟩:∃j:Nat,idT k.T_ t.xs=j:=⟨_,(DF h).symm⟩
     rw[o] at v;have b:j < t.xs.length:=Zc
     simp only[o,(Zc:(0:Int)<=(j:Int)),jq,UG,ze b,jj,O,UJ b,P];by_cases u:t.xs[j].S_=3
     · simp only[u,jq,jm,jj];by_cases h0:fs.xs.length+cs.xs.length=0
       ·simp only[zpy g c,h0,jq,jm,jj];exact⟨λ_=>default,jE⟩
       ·simp only[zpy g c,h0,jp,jo,jj];exact⟨λ_=>_,rfl⟩
     ·simp only[u,jp,jo,jj];exact⟨λ_=>_,rfl⟩
   ·simp only[h,jp,false_and,jo,jj];exact⟨λ_=>_,rfl⟩
theorem zr4{c:U0}(e:c=lit [60]\/c=lit [60,61]\/c=lit [61,61])(a b k l:Int):qar (c,a,b,k,l)=d ⟨Ve c a b k l,B⟩:=by
 unfold qar qew Ve;rcases e with rfl | rfl | rfl<;>simp (decide:=true) only [jq,jp,jj,jo,js,jr,jk]
theorem zaw(c:U0)(a b k l:Int):(Ve c a b k l).length<=2:=by
 unfold Ve;by_cases h1:c=lit [60]
 ·grind
 rw[jx h1];by_cases h2:c=lit [60,61]
 all_goals grind
abbrev Hd:=U0×Int×Int
noncomputable abbrev zcC:=q9c q3b q70 qar
theorem zfg {fs ks:Sl Nd}(x:fs.xs.length<=100000) {k c:Nd}{L i:Int}(hi:i=0\/i=1) (u:i < L) (q:za ks i=d k) (h:Hd) (fl:Sl PF) (b:Sl PL) (v0 j:Int) :
    zcC (fs,ks,L,i,h,fl,b,c,v0,j)=d (match yC fs.xs h.2 c k with
     | .error e =>.done (.inl (e,h,fl,b))
     | .ok v =>.next (fs,ks,L,i+1,h,fl,b,c,if k.T_=lit [] then v0 else if i=0 then v else v0,if k.T_=lit [] then j else if i=0 then j else v)):=by
 unfold zcC q9c;have w:Zf fs.xs k.T_ < fs.xs.length:=yE.2.1;have r : -1<=Zf fs.xs k.T_:=yE.1;have m:U4 (i+1)=i+1:=zE Zc Zc;have a:U4 (Zf fs.xs k.T_+1)=Zf fs.xs k.T_+1:=zE Zc Zc;simp only[jl];rw[jv u];simp only[q,jj,zm,Vb _ _ fs Zc,ve,yC];by_cases s:k.T_=lit []
 ·grind
 simp only[s,jp];by_cases h0:0<=Zf fs.xs k.T_
 case neg=>grind
 simp only[h0,jq,UG];have fin:((bif decide (i=1) then d (fs,ks,L,i,h,fl,b,c,v0,Zf fs.xs k.T_+1) else bif decide (i=0) then d (fs,ks,L,i,h,fl,b,c,Zf fs.xs k.T_+1,j) else none):U3 (Sl Nd×Sl Nd×Int×Int×Hd×Sl PF×Sl PL×Nd×Int×Int))=d (fs,ks,L,i,h,fl,b,c,if i=0 then Zf fs.xs k.T_+1 else v0,if i=0 then j else Zf fs.xs k.T_+1):=by
  grind
 by_cases h2:h.2.1=2
 · by_cases g:Zf fs.xs k.T_=h.2.2
   ·simp only[h2,g,jq,true_or,js,Do,jk,jp,jt,and_self,jj,jo,jm]
   ·simp only[h2,g,jq,true_or,jr,D6,jp,ju,and_false,jj,jo,jm,m,a,fin]
 · by_cases o:h.2.1=3
   · by_cases g:Zf fs.xs k.T_=h.2.2
     ·simp (decide:=true) only [o,g,jq,or_true,js,Do,jk,jp,jt,and_self,jj,jo,jm]
     ·simp (decide:=true) only [o,g,jq,or_true,jr,D6,jp,ju,and_false,jj,jo,jm,m,a,fin]
   ·simp only[h2,o,jq,or_self,false_and,D6,jp,ju,jj,jo,jm,m,a,fin]
theorem zul {fs:Sl Nd}(q:fs.xs.length<=100000) {c:Nd}(s:zcA c) (h:Hd) (fl:Sl PF) (acc:List PL) (X:acc.length<=50000) :
    q5o (c,fs,h,fl,mkS acc)=d (match YJ fs.xs h.2 acc c with | .error e =>.inl (e,h,fl,mkS acc) | .ok l =>.inr (h,fl,mkS l)):=by
 obtain⟨_,z,a,b,m,_,_⟩:=s;unfold q5o qc2;simp only[zm];simp only[m];have g:=zfg (ks:=⟨[a,b],B⟩) (k:=a) (c:=c) (L:=2) q (.inl rfl) Zc rfl h fl (mkS acc) 0 0;have u:zW c=a:=by unfold zW;rw[m];rfl
 have x:V7 c=b:=by unfold V7 zW;rw[m];rfl
 unfold YJ;rw[u,x,show Sl.len (⟨[a,b],B⟩:Sl Nd)=2 from rfl];cases e0:yC fs.xs h.2 c a with
 |error er=>rw[e0] at g;rw[zw g];rfl
 |ok v=>
  rw[e0] at g;have j:=zfg (ks:=⟨[a,b],B⟩) (k:=b) (c:=c) (L:=2) q (.inr rfl) Zc rfl h fl (mkS acc) v 0;have T:(if a.T_=lit [] then(0:Int) else v)=v:=by
   split
   ·rename_i h0;unfold yC at e0;grind
   ·rfl
  simp only[jq,T,ite_self] at g;rw[zA g];show((lpO zcC (fs,⟨[a,b],B⟩,2,1,h,fl,mkS acc,c,v,0)).bind _)=_;cases o:yC fs.xs h.2 c b with
  |error er=>rw[o] at j;rw[zw j];rfl
  |ok w=>
   rw[o] at j;have G:(if b.T_=lit [] then(0:Int) else w)=w:=by
    split
    ·rename_i h0;unfold yC at o;grind
    ·rfl
   simp (decide:=true) only [jp,G,ite_self] at j;rw[zA j,zw (y :=.inr (h,fl,mkS acc,c,v,w)) (by unfold zcC q9c;simp only[zm];rfl)];have r:(Ve c.T_ v w a.n_ b.n_).length<=2:=zaw _ _ _ _ _;simp only[jj,jm,m,show za (⟨[a,b],B⟩:Sl Nd) 0=d a from rfl,show za (⟨[a,b],B⟩:Sl Nd) 1=d b from rfl,zr4 z,D];rw[x5 Zc Zc];rfl
noncomputable abbrev zjp:=q9d qaq q2i q70 qap q3b q4x q5o
noncomputable abbrev zjq:=q9e qaq q2i q70 qap q3b q4x q5o
theorem zm2 {t:Sl PT}{cs:Sl Nd}(x:fs.length<=20000) (v:n.K_.xs≠[]) (w:∀f∈fs,zbs f) (z h:Hd) :
    lpO zjp (t,mkS fs,mkS fs,Sl.len (mkS fs),0,n,z,cs,h,mkS [])=d (match fs.foldlM (Y2 (zW n) fs) [] with | .error e =>.inl e | .ok l =>.inr (t,mkS fs,n,z,cs,h,mkS l)):=by
 have g0:za n.K_ 0=d (zW n):=by
  unfold zW;cases u:n.K_ with | mk xs nn=>rw[u] at v;cases xs with | nil=>grind | cons a r=>rfl
 have:=zl4 (f:=zjp) (xs:=fs) (step:=Y2 (zW n) fs) (st:=λi a=>(t,mkS fs,mkS fs,Sl.len (mkS fs),(i:Int),n,z,cs,h,mkS a)) (fin:=λa =>.inr (t,mkS fs,n,z,cs,h,mkS a)) (er :=.inl) (I:=λi a=>a.length=i)
  (λi hi a m=>by
    unfold zjp q9d;have j:=w fs[i] (gc hi);have q:=zu (k:=i) Zc;simp only[jl];rw[jv (show((i:Int) < Sl.len (mkS fs)) by show(i:Int) < (fs.length:Int);omega)];rw[ze (s:=mkS fs) hi,jj,Ys Zc Zc (by show(i:Int)<=(fs.length:Int);omega),jj];simp only[Int.toNat_zero,Ds,O,zm];rw[zr2 _ _ ji,jj];simp only[ve,jj,Y2,m];show N (Sum.elim _ _ (if(!decide (0<=idN fs[i].T_ (fs.take i)))=B then _ else _)) _=_;by_cases h1:0<=idN fs[i].T_ (fs.take i)
    ·simp only[mkS,h1,js,Do,jk,jp,jq,jo,jj]
    simp only[h1,jr,D6,jq,jp,jm];obtain⟨_,c | ⟨k,b,_⟩⟩:=j
    · have g:fs[i].K_.xs=[]:=by rw[c]
      have e0:zW fs[i]=vp:=by unfold zW;rw[c];rfl
      simp only[show(mkS fs).xs[i]=fs[i] from rfl];simp (decide:=true) only [c,show(nilS:Sl Nd).len=0 from rfl,jp,jq,jm,jj];rw[x5 Zc ji];grind
    · have g:¬ fs[i].K_.xs=[]:=by rw[b];simp
      have e0:zW fs[i]=k:=by unfold zW;rw[b];rfl
      simp only[g,jp,e0];simp only[show(mkS fs).xs[i]=fs[i] from rfl];simp (decide:=true) only [b,show Sl.len (⟨[k],B⟩:Sl Nd)=1 from rfl,show za (⟨[k],B⟩:Sl Nd) 0=d k from rfl,jp,jq,jj,Vb _ _ (mkS fs) (Zc:fs.length<=1000000),g0];by_cases h2:(zW n).T_=lit [111,119,110]
      · by_cases o:0<=Zf fs k.T_
        ·simp only[mkS,h2,o,and_self,js,jq,jm,jj];rw[show({xs:=a,nn:= !a.isEmpty}:Sl PF)=mkS a from rfl,x5 Zc ji];simp only[jj,jm,q,mkS]
        ·simp only[mkS,h2,o,and_false,jr,jk,jq,jp,jo,jj]
      ·simp only[h2,false_and,jk,jp,jo,jj])
  (λi hi a a' m e=>by
    unfold Y2 at e;split at e
    ·cases e
    split at e
    ·cases e;simp;omega
    split at e
    ·cases e;simp;omega
    ·cases e)
  (λa _=>by
    unfold zjp q9d;simp only[jl,zm]
    rw[jx (show¬ ((fs.length:Int) < Sl.len (mkS fs)) by show¬ ((fs.length:Int) < (fs.length:Int));omega)])
  (a:=[]) rfl
 grind
theorem zm3 {fs:Sl Nd}(r:fs.xs.length<=20000) (q:cs.length<=20000) (j:∀c∈cs,zcA c) (z h:Hd) (fl:Sl PF) :
    lpO zjq (fs,mkS cs,Sl.len (mkS cs),0,z,h,fl,mkS [])=d (match cs.foldlM (YJ fs.xs h.2) [] with | .error e =>.inl e | .ok l =>.inr (z,h,fl,mkS l)):=by
 have:=zl4 (f:=zjq) (xs:=cs) (step:=YJ fs.xs h.2) (st:=λi a=>(fs,mkS cs,Sl.len (mkS cs),(i:Int),z,h,fl,mkS a)) (fin:=λa =>.inr (z,h,fl,mkS a)) (er :=.inl) (I:=λi a=>a.length<=2 * i)
  (λi hi a m=>by
    unfold zjq q9e;have o:=zu (k:=i) Zc;simp only[jl];rw[jv (show((i:Int) < Sl.len (mkS cs)) by show(i:Int) < (cs.length:Int);omega),ze (s:=mkS cs) hi];simp only[jj,zm,show(mkS cs).xs[i]=cs[i] from rfl];rw[zul Zc (j cs[i] (gc hi)) h fl a Zc];simp only[jj];cases YJ fs.xs h.2 a cs[i] with
    |error e=>rfl
    |ok l=>simp only[jm,o])
  (λi hi a a' m e=>by
    unfold YJ at e;cases b:yC fs.xs h.2 cs[i] (zW cs[i]) with
    |error er=>rw[b] at e;cases e
    |ok v=>
     cases g:yC fs.xs h.2 cs[i] (V7 cs[i]) with
     |error er=>rw[b,g] at e;cases e
     |ok w=>
      rw[b,g] at e;cases e;have:=zaw cs[i].T_ v w (zW cs[i]).n_ (V7 cs[i]).n_
      simp only[jy];omega)
  (λa _=>by
    unfold zjq q9e;simp only[jl]
    rw[jx (show¬ ((cs.length:Int) < Sl.len (mkS cs)) by show¬ ((cs.length:Int) < (cs.length:Int));omega)])
  (a:=[]) je
 rw[show(0:Int)=((0:Nat):Int) from rfl,this];cases cs.foldlM (YJ fs.xs h.2) []<;>rfl
theorem zdX(h:wE n):∃s fs cs,n.K_=⟨s::(fs++cs),B⟩/\n.K_.xs.filter (isK 3)=fs/\n.K_.xs.filter (isK 4)=cs/\zjo s/\(∀f∈fs,zbs f)/\∀c∈cs,zcA c:=by
 obtain⟨_,s,fs,cs,a,hs,e,b⟩:=h;refine⟨s,fs,cs,a,?_,?_,hs,e,b⟩
 ·rw[a];have h1:fs.filter (isK 3)=fs:=U.2 λf h=>by simp[isK,(e f h).1]
  have h2:cs.filter (isK 3)=[]:=V.2 λc h=>by simp[isK,(b c h).1]
  simp only[M,W,h1,h2,isK,hs.1,List.append_nil];rfl
 ·rw[a];have h1:fs.filter (isK 4)=[]:=V.2 λf h=>by simp[isK,(e f h).1]
  have h2:cs.filter (isK 4)=cs:=U.2 λc h=>by simp[isK,(b c h).1]
  simp only[M,W,h1,h2,isK,hs.1];rfl
theorem zxh {t:Sl PT}(q:wE n) (z:t.xs.length<=20000) (r:n.K_.xs.length<=20000) :
    q6o (t,n)=d (match xj t.xs n with | .error e =>.inl e | .ok x =>.inr ((x.N_,x.S_,x.o_),x.E_,x.U_)):=by
 unfold q6o qc3;simp only[zm];rw[zuj n Zc];obtain⟨s,fs,cs,b,j,h,hs,o,m⟩:=zdX q;have g:zW n=s:=by unfold zW;rw[b];rfl
 have a:(s::(fs++cs)).length<=20000:=by have:=r;rw[b] at this;exact this
 simp only[jz,jy] at a;unfold xj;rw[j,h];simp only[jj,zcB t _ Zc,ve,jl];by_cases h0:0<=idT n.T_ t.xs
 ·simp only[(Zc:¬ (idT n.T_ t.xs < 0)),h0,jq,jp,jo]
 simp only[(Zc:idT n.T_ t.xs < 0),h0,jq,jp,jm];by_cases k:8 < fs.length
 ·simp only[show¬ (Sl.len (mkS fs)<=8) by show¬ ((fs.length:Int)<=8);omega,k,jq,jp,jo]
 simp only[show Sl.len (mkS fs)<=8 by show(fs.length:Int)<=8;omega,k,jq,jp,jm];rw[show(C [] false:Sl PF)=mkS [] from rfl,zm2 Zc (by rw[b];simp) o];simp only[jj];cases y:fs.foldlM (Y2 (zW n) fs) [] with
 |error e=>rfl
 |ok fl=>
  simp only[jm,D];rw[show za n.K_ 0=d s by rw[b];rfl,g];simp only[jj,zm];obtain⟨w,u⟩:=zuk (t:=t) (s:=s) (fs:=mkS fs) (cs:=mkS cs) hs Zc (Zc:fs.length<=100000) (Zc:cs.length<=100000) n.T_ (mkS fl) (C [] F);rw[u];simp only[jj,show(mkS fs).xs=fs from rfl,show(mkS cs).xs=cs from rfl];cases G:xZ t.xs s fs cs with
  |error e=>rfl
  |ok c=>
   simp only[jm];rw[show(C [] false:Sl PL)=mkS [] from rfl];rw[zm3 (fs:=mkS fs) (Zc:fs.length<=20000) Zc m _ (n.T_,c.1,c.2)];simp only[jj,show(mkS fs).xs=fs from rfl];cases v:cs.foldlM (YJ fs (c.1,c.2)) [] with
   |error e=>rfl
   |ok l=>rfl
theorem zax {st:Nat->A->S}{fin:A->R}{er:A->E->R}
    (h:∀i (hi:i < xs.length) a,I i a->f (st i a)=d (match step a xs[i] with | .ok a' =>.next (st (i+1) a') | .error e =>.done (er a e)))
    (k:∀i (hi:i < xs.length) a a',I i a->step a xs[i] = .ok a'->I (i+1) a') (h0:∀a,I xs.length a->f (st xs.length a)=d (.done (fin a))) {a:A} (c:I 0 a) :
    match xs.foldlM step a with | .ok a'=>lpO f (st 0 a)=d (fin a')/\I xs.length a' | .error e=>∃(i:Nat) (a':A),I i a'/\i < xs.length/\lpO f (st 0 a)=d (er a' e):=by
 have:∀(n i:Nat) (a:A),i+n=xs.length->I i a->match(xs.drop i).foldlM step a with | .ok a'=>lpO f (st i a)=d (fin a')/\I xs.length a' | .error e=>∃(j:Nat) (a':A),I j a'/\j < xs.length/\lpO f (st i a)=d (er a' e):=by
  intro n
  induction n with
  |zero=>
   intro i a hi c;obtain rfl:i=xs.length:=Zc
   rw[U6 (UK _)];exact⟨zw (h0 a c),c⟩
  |succ n g=>
   intro i a hi c;have b:i < xs.length:=Zc
   have h1:=h i b a c;rw[Dq b,H];cases hs:step a xs[i] with
   |error e=>rw[hs] at h1;exact⟨i,a,c,b,zw h1⟩
   |ok a'=>
    rw[hs] at h1;rw[zA h1];exact g (i+1) a' Zc (k i b a a' c hs)
 have h2:=this xs.length 0 a Zc c
 rwa [Ds] at h2
noncomputable abbrev zgZ:=qd7 q6o q8h q7e
theorem zum (o:∀k∈n.K_.xs,k.k_=1->wE k/\k.K_.xs.length<=20000) (r:n.K_.xs.length<=20000) :
    q75 n=d (match zbt n.K_.xs with | .error e=>(e.1,e.2,nilS) | .ok t=>(0,0,mkS t)):=by
 have:=zax (f:=zgZ) (xs:=n.K_.xs) (step:=λt k=>if k.k_=1 then(xj t k).bind λx =>.ok (t++[x]) else .ok t) (st:=λi a=>(n.K_,n.K_.len,(i:Int),n,0,0,mkS a))
  (fin:=λa =>.inr (n,0,0,mkS a)) (er:=λa e =>.inl (e,n,0,0,mkS a)) (I:=λi a=>a.length<=i)
  (λi hi a q=>by
    unfold zgZ qd7;have c:=zu (k:=i) Zc;simp only[jl,zm];rw[jv (show((i:Int) < Sl.len n.K_) by show(i:Int) < (n.K_.xs.length:Int);omega),ze hi];simp only[jj,zm];by_cases h1:n.K_.xs[i].k_=1
    · obtain⟨g,g2⟩:=o _ (gc hi) h1;simp only[h1,jq];rw[zxh g (Zc:a.length<=20000) g2];simp only[show(mkS a).xs=a from rfl];cases xj a n.K_.xs[i] with
      |error e=>simp only[jj,jo,Zs];rfl
      |ok x=>
       simp only[jj,jm,D];rw[show qa.mk x.N_ x.S_ x.o_ x.E_ x.U_=x from rfl,x5 Zc ji];simp only[jj,jm,Zs,c]
    ·simp only[h1,jp,jj,jm,c])
  (λi hi a a' q e=>by
    split at e
    · cases b:xj a n.K_.xs[i] with
      |error er=>rw[b] at e;cases e
      |ok x=>rw[b] at e;cases e;simp;omega
    ·cases e;omega)
  (λa _=>by
    unfold zgZ qd7;simp only[jl,zm]
    rw[jx (show¬ ((n.K_.xs.length:Int) < Sl.len n.K_) by show¬ ((n.K_.xs.length:Int) < (n.K_.xs.length:Int));omega)])
  (a:=[]) je
 unfold q75 qex;simp only[zm];show((lpO zgZ (n.K_,n.K_.len,((0:Nat):Int),n,0,0,mkS [])).bind _)=_;unfold zbt;cases e:n.K_.xs.foldlM (m:=Except Er) (λt k=>if k.k_=1 then(xj t k).bind λx =>.ok (t++[x]) else .ok t) [] with
 |error er=>
  rw[e] at this;obtain⟨j,a,_,_,h⟩:=this;rw[h];rfl
 |ok t=>
  rw[e] at this;rw[this.1];rfl
abbrev RTy:=qd
def rF(x:PF):qn:=⟨x.N_,x.z_⟩
def rQ(x:PL):qu:=⟨x.X_,x.Y_,x.C_⟩
def slm(f:α->β)(s:Sl α):Sl β:=⟨s.xs.map f,s.nn⟩
def rT(x:PT):RTy:=⟨x.N_,x.S_,x.o_,slm rF x.E_,slm rQ x.U_⟩
theorem zr5(f:α->β)(l:List α):slm f (mkS l)=mkS (l.map f):=by cases l<;>rfl
theorem YR(l:List α):(mkS l).len=(l.length:Int):=rfl
theorem Xe{f:α->β}(h:i < l.length):za (mkS (l.map f)) (i:Int)=d (f l[i]):=by
 rw[ze (s:=mkS (l.map f)) (by simpa[mkS] using h)];simp[mkS]
theorem zZ(n:Nd):(rN n).T_=n.T_:=by rw[yp]
theorem ZT(n:Nd):(rN n).k_=n.k_:=by rw[yp]
theorem Y3(n:Nd):(rN n).a_=n.a_:=by rw[yp]
theorem zxi(n:Nd):(rN n).n_=n.n_:=by rw[yp]
theorem zJ(n:Nd):(rN n).K_=⟨n.K_.xs.map rN,n.K_.nn⟩:=by rw[yp,yt]
theorem zay(t:List PT)(n:U0)(a:t.length<=1000000):q1a (mkS (t.map rT),n)=d (idT n t):=by
 have:=wh (f:=q5y) (xs:=t) (p:=λx=>decide (x.N_=n)) (st:=λi=>(mkS (t.map rT),n,(i:Int))) (yes:=λi =>.inl (i:Int)) (no :=.inr ())
  (λi hi=>by
   unfold q5y;simp only[jl,YR,D1];rw[jv Zc,Xe hi,jj,zu Zc]
   by_cases h:t[i].N_=n<;>simp[h,rT])
  (by unfold q5y;simp only[jl,YR,D1];grind)
 show((lpO q5y (mkS (t.map rT),n,((0:Nat):Int))).bind _)=_;rw[this];unfold idT idx;cases t.findIdx? _<;>rfl
theorem Vf(fs:List Nd)(n:U0)(c:fs.length<=1000000):q1f (mkS (fs.map rN),n)=d (Zf fs n):=by
 have:=wh (f:=q51) (xs:=fs) (p:=λx=>decide (x.T_=n) && decide (x.K_.len=0)) (st:=λi=>(mkS (fs.map rN),n,(i:Int))) (yes:=λi =>.inl (i:Int)) (no :=.inr ())
  (λi hi=>by
   unfold q51;simp only[jl,YR,D1];rw[jv Zc,Xe hi];simp only[jj,zZ,zJ];have a:Sl.len (⟨fs[i].K_.xs.map rN,fs[i].K_.nn⟩:Sl RNd)=fs[i].K_.len:=by simp[Sl.len]
   have b:=zu (k:=i) Zc;rw[a];by_cases h:fs[i].T_=n
   ·by_cases h2:fs[i].K_.len=0<;>simp only[h,h2,jq,jp,js,jr,jj,Bool.and_self,Bool.and_false,jk,b]
   grind)
  (by unfold q51;simp only[jl,YR,D1];grind)
 show((lpO q51 (mkS (fs.map rN),n,((0:Nat):Int))).bind _)=_;rw[this];unfold Zf idx;cases fs.findIdx? _<;>rfl
theorem zyY{acc:List Nd}{x:Nd}(h:acc.length<=50000):zo 64 (mkS (acc.map rN)) [rN x]=d (mkS ((acc++[x]).map rN)):=by
 rw[x5 Zc ji];simp
theorem zl6(n:Nd)(k:Int)(h:n.K_.xs.length<=40000):q1h (rN n,k)=d (mkS ((n.K_.xs.filter (isK k)).map rN)):=by
 have:=zax (E:=Er) (f:=q7f) (xs:=n.K_.xs) (A:=List Nd) (step:=λa x =>.ok (if isK k x then a++[x] else a)) (st:=λi a=>(k,(i:Int),rN n,mkS (a.map rN))) (fin:=λa=>mkS (a.map rN)) (er:=λ_ _=>mkS []) (I:=λi a=>a.length<=i)
  (λi hi a c=>by
   unfold q7f;simp only[jl,zj];have b:za (rN n).K_ (i:Int)=d (rN n.K_.xs[i]):=by rw[zJ,ze (by simpa using hi)];simp
   rw[jv (by rw[zJ];simp[Sl.len];omega),b];simp only[jj,ZT,isK,jl];have g:=zu (k:=i) Zc;by_cases h2:n.K_.xs[i].k_=k
   ·simp only[h2,jq];rw[zyY Zc];grind
   grind)
  (λi hi a a' c e=>jE)
  (λa _=>by unfold q7f;simp only[jl];rw[jx (by rw[zJ];simp[Sl.len])])
  (a:=[]) je
 have e:∀(l a:List Nd),l.foldlM (m:=Except Er) (λ(a:List Nd) x =>.ok (if isK k x then a++[x] else a)) a = .ok (a++l.filter (isK k)):=by
  intro l
  induction l with
  |nil=>intro a;simp;rfl
  |cons x l j=>
   intro a;rw[H];show K _ (if isK k x then a++[x] else a) l=_;grind
 rw[e] at this;unfold q1h q9z;simp only[zj];rw[show(0:Int)=((0:Nat):Int) from rfl,show(C [] false:Sl RNd)=mkS (([]:List Nd).map rN) from rfl,this.1];simp
theorem zjr{acc:List PL}{x:PL}(h:acc.length<=50000):zo 24 (mkS (acc.map rQ)) [rQ x]=d (mkS ((acc++[x]).map rQ)):=by
 rw[x5 Zc ji];simp
theorem zr6{c:U0}(e:c=lit [60]\/c=lit [60,61]\/c=lit [61,61])(a b k l:Int):q1e (c,a,b,k,l)=d (mkS ((Ve c a b k l).map rQ)):=by
 unfold q1e q8s Ve;rcases e with rfl | rfl | rfl
 ·simp (decide:=true) only [jq,jp,jj,js,jr,jk];rfl
 ·simp (decide:=true) only [jq,jp,jj,js,jr,jk];rw[show(C [] false:Sl qu)=mkS (([]:List PL).map rQ) from rfl,show qu.mk a b (U4 (l - k))=rQ ⟨a,b,U4 (l - k)⟩ from rfl,zjr je];rfl
 ·simp (decide:=true) only [jq,jp,jj,js,jr,jk];rw[show(C [] false:Sl qu)=mkS (([]:List PL).map rQ) from rfl,show qu.mk a b (U4 (l - k))=rQ ⟨a,b,U4 (l - k)⟩ from rfl,zjr je];simp only[jj];rw[show qu.mk b a (U4 (k - l))=rQ ⟨b,a,U4 (k - l)⟩ from rfl,zjr je];rfl
noncomputable abbrev zpz:=q6f q1h q1a q1f q1e
noncomputable abbrev zl7:=q56 q1h q1a q1f q1e
noncomputable abbrev zpA:=qb0 q1h q1a q1f q1e
noncomputable abbrev zpB:=q6g q1h q1a q1f q1e
noncomputable abbrev zl8:=q4d q1h q1a q1f q1e
theorem zxj (hi:i<=fs.length) (c:fs.length<=20000) (f:Nd) (T:Sl RTy) (z:Hd) (cs:Sl RNd) (s:RNd) (h:Hd) (fl:Sl qn) :
    lpO zpz ((i:Int),0,T,z,mkS (fs.map rN),cs,s,h,rN f,fl)=d (if 0<=idN f.T_ (fs.take i) then .inl (f.a_,30,T,h,fl) else .inr ((i:Int),T,z,mkS (fs.map rN),cs,s,h,rN f,fl)):=by
 have a:(fs.take i).length=i:=ji
 have:=wh (f:=zpz) (xs:=fs.take i) (p:=λx=>decide (x.T_=f.T_)) (st:=λk=>((i:Int),(k:Int),T,z,mkS (fs.map rN),cs,s,h,rN f,fl)) (yes:=λ_ =>.inl (f.a_,30,T,h,fl)) (no :=.inr ((i:Int),T,z,mkS (fs.map rN),cs,s,h,rN f,fl))
  (λk b=>by
    rw[a] at b;unfold zpz q6f;simp only[jl,zj];rw[jv Zc,Xe Zc];simp only[jj,zZ,Y3,List.getElem_take];rw[zu Zc]
    grind)
  (by unfold zpz q6f;simp only[jl,zj,a];grind)
 rw[show(0:Int)=((0:Nat):Int) from rfl,this];unfold idN idx;cases(fs.take i).findIdx? _ with
 |none=>simp
 |some j=>simp
theorem zvr{acc:List PF}{x:PF}(h:acc.length<=50000):zo 24 (mkS (acc.map rF)) [rF x]=d (mkS ((acc++[x]).map rF)):=by
 rw[x5 Zc ji];simp
theorem zxk (r:fs.length<=20000) (s:Nd) (u:∀f∈fs,zbs f) (T:Sl RTy) (z:Hd) (cs:Sl RNd) (h:Hd) :
    match fs.foldlM (Y2 s fs) [] with
    | .ok l=>lpO zl7 (0,T,z,mkS (fs.map rN),cs,rN s,h,mkS [])=d (.inr (T,z,mkS (fs.map rN),cs,rN s,h,mkS (l.map rF)))
    | .error e=>∃w,lpO zl7 (0,T,z,mkS (fs.map rN),cs,rN s,h,mkS [])=d (.inl (e.1,e.2,T,h,w)):=by
 have:=zax (f:=zl7) (xs:=fs) (step:=Y2 s fs) (st:=λi a=>((i:Int),T,z,mkS (fs.map rN),cs,rN s,h,mkS (a.map rF))) (fin:=λa =>.inr (T,z,mkS (fs.map rN),cs,rN s,h,mkS (a.map rF))) (er:=λa e =>.inl (e.1,e.2,T,h,mkS (a.map rF))) (I:=λi a=>a.length=i)
  (λi hi a o=>by
    unfold zl7 q56;have j:=u fs[i] (gc hi);have v:=zu (k:=i) Zc;simp only[jl,zj,YR,D1];rw[jv Zc,Xe hi];simp only[jj];have h0:=zxj (i:=i) (Nat.le_of_lt hi) r fs[i] T z cs (rN s) h (mkS (a.map rF));rw[show lpO (q6f q1h q1a q1f q1e) ((i:Int),0,T,z,mkS (fs.map rN),cs,rN s,h,rN fs[i],mkS (a.map rF))=_ from h0];simp only[jj,Y2,o];by_cases h1:0<=idN fs[i].T_ (fs.take i)
    ·grind
    simp only[h1,jp,jm];obtain⟨_,m | ⟨k,c,_⟩⟩:=j
    · have b:(rN fs[i]).K_.len=0:=by rw[zJ,m];rfl
      simp (decide:=true) only [b,jp,jm,jj,zZ,show qn.mk fs[i].T_ (-1)=rF ⟨fs[i].T_, -1⟩ from rfl];rw[zvr Zc];grind
    · have g:¬ fs[i].K_.xs=[]:=by rw[c];simp
      have e0:zW fs[i]=k:=by unfold zW;rw[c];rfl
      have b:(rN fs[i]).K_=⟨[rN k],B⟩:=by rw[zJ,c];rfl
      simp only[g,jp,e0];simp (decide:=true) only [b,show Sl.len (⟨[rN k],B⟩:Sl RNd)=1 from rfl,show za (⟨[rN k],B⟩:Sl RNd) 0=d (rN k) from rfl,jq,jj,zZ,Y3,Vf fs _ (Zc:fs.length<=1000000)];by_cases h2:s.T_=lit [111,119,110]
      · by_cases q:0<=Zf fs k.T_
        ·simp only[zZ,h2,q,Dj,jt,jp,and_self,jq,(Zc:¬ (Zf fs k.T_ < 0)),jk,jm,jj,jr,show qn.mk fs[i].T_ (Zf fs k.T_)=rF ⟨fs[i].T_,Zf fs k.T_⟩ from rfl];rw[zvr Zc];grind
        ·simp only[Y3,h2,q,Dj,jt,jp,and_false,jq,(Zc:Zf fs k.T_ < 0),jo,jj,js]
      ·simp only[Y3,h2,Dj,ju,jq,false_and,jp,jo,jj])
  (λi hi a a' o e=>by
    unfold Y2 at e;split at e
    all_goals grind)
  (λa _=>by
    unfold zl7 q56;simp only[jl,zj,YR,D1]
    grind)
  (a:=[]) rfl
 cases e:fs.foldlM (Y2 s fs) [] with
 |error er=>grind
 |ok l=>grind
def spc(a:Int×Int):Int:=if a.1=2\/a.1=3 then a.2 else -1
theorem znK (Z:fs.length<=20000) (hi:i < cs.length) {k:Nd}{j:Int}(m:j=0\/j=1) (o:za (rN cs[i]).K_ j=d (rN k)) (T:Sl RTy) (z h:Hd) (v0 b:Int) (w:Sl qn) (q:Sl qu) :
    zpA (spc h.2,(i:Int),j,T,z,mkS (fs.map rN),mkS (cs.map rN),h,⟨[v0,b],B⟩,w,q)=d (match yC fs h.2 cs[i] k with
     | .error e =>.done (.inl (e.1,e.2,T,h,w,q))
     | .ok v =>.next (spc h.2,(i:Int),j+1,T,z,mkS (fs.map rN),mkS (cs.map rN),h,⟨[if k.T_=lit [] then v0 else if j=0 then v else v0,if k.T_=lit [] then b else if j=0 then b else v],B⟩,w,q)):=by
 unfold zpA qb0;have Y:Zf fs k.T_ < fs.length:=yE.2.1;have s : -1<=Zf fs k.T_:=yE.1;have L:U4 (j+1)=j+1:=zE Zc Zc;have c:U4 (Zf fs k.T_+1)=Zf fs k.T_+1:=zE Zc Zc;have X:∀x y:Int,∃u,za (⟨[x,y],B⟩:Sl Int) j=d u:=λx y=>by rcases m with rfl | rfl<;>exact⟨_,rfl⟩
 have hs:∀x y u:Int,Sl.set (⟨[x,y],B⟩:Sl Int) j u=⟨[if j=0 then u else x,if j=0 then y else u],B⟩:=λx y u=>by rcases m with rfl | rfl<;>rfl
 simp only[jl];rw[jv Zc,Xe hi];simp only[jj,o,zZ,Y3,Vf fs _ (Zc:fs.length<=1000000),yC];by_cases G:k.T_=lit []
 ·grind
 simp only[G,jp];by_cases h0:0<=Zf fs k.T_
 case neg=>simp only[Xe hi,Y3,(Zc:Zf fs k.T_ < 0),h0,jq,jp,false_and,jj,jm]
 have a:(Zf fs k.T_=spc h.2)=((h.2.1=2\/h.2.1=3)/\Zf fs k.T_=h.2.2):=by
  unfold spc;grind
 obtain⟨u,r⟩:=X v0 b;by_cases g:(h.2.1=2\/h.2.1=3)/\Zf fs k.T_=h.2.2
 ·simp only[Xe hi,Y3,(Zc:¬ (Zf fs k.T_ < 0)),h0,jp,UG,a,eq_true g,jq,jt,and_self,js,jj,jm]
 ·simp only[(Zc:¬ (Zf fs k.T_ < 0)),h0,jp,UG,a,eq_false g,jq,ju,jr,jk,jj,jo,r,hs,L,c]
theorem zxl (b:Int) (i:Int) (T:Sl RTy) (z h:Hd) (fs cs:Sl RNd) (fl:Sl qn) (l acc:List PL) (g:acc.length+l.length<=50000) :
    lpO zpB (b,i,0,T,z,fs,cs,h,mkS (l.map rQ),fl,mkS (acc.map rQ))=d (b,i,T,z,fs,cs,h,fl,mkS ((acc++l).map rQ)):=by
 have:=zax (E:=Er) (f:=zpB) (xs:=l) (step:=λa x =>.ok (a++[x])) (st:=λk a=>(b,i,(k:Int),T,z,fs,cs,h,mkS (l.map rQ),fl,mkS (a.map rQ))) (fin:=λa=>(b,i,T,z,fs,cs,h,fl,mkS (a.map rQ))) (er:=λa _=>(b,i,T,z,fs,cs,h,fl,mkS (a.map rQ))) (I:=λk a=>a.length=acc.length+k)
  (λk c a g=>by
    unfold zpB q6g;simp only[jl,YR,D1];rw[jv Zc,Xe c];simp only[jj]
    rw[zjr Zc,jj,zu Zc])
  (λk c a a' g e=>jE)
  (λa _=>by unfold zpB q6g;simp only[jl,YR,D1];grind)
  (a:=acc) rfl
 have e:∀(l a:List PL),l.foldlM (m:=Except Er) (λ(a:List PL) x =>.ok (a++[x])) a = .ok (a++l):=by
  intro l
  induction l with
  |nil=>intro a;simp;rfl
  |cons x l j=>intro a;rw[H];show K _ (a++[x]) l=_;rw[j];simp
 grind
theorem zxm (u:fs.length<=20000) (hc:cs.length<=20000) (L:∀c∈cs,zcA c) (T:Sl RTy) (z h:Hd) (fl:Sl qn) :
    match cs.foldlM (YJ fs h.2) [] with
    | .ok l=>lpO zl8 (spc h.2,0,T,z,mkS (fs.map rN),mkS (cs.map rN),h,fl,mkS [])=d (.inr (T,z,h,fl,mkS (l.map rQ)))
    | .error e=>∃w,lpO zl8 (spc h.2,0,T,z,mkS (fs.map rN),mkS (cs.map rN),h,fl,mkS [])=d (.inl (e.1,e.2,T,h,fl,w)):=by
 have:=zax (f:=zl8) (xs:=cs) (step:=YJ fs h.2) (st:=λi a=>(spc h.2,(i:Int),T,z,mkS (fs.map rN),mkS (cs.map rN),h,fl,mkS (a.map rQ))) (fin:=λa =>.inr (T,z,h,fl,mkS (a.map rQ))) (er:=λa e =>.inl (e.1,e.2,T,h,fl,mkS (a.map rQ))) (I:=λi a=>a.length<=2 * i)
  (λi hi a ha=>by
    unfold zl8 q4d;have hw:=zu (k:=i) Zc;obtain⟨_,Z,x,y,q,_,_⟩:=L cs[i] (gc hi);have X:zW cs[i]=x:=by unfold zW;rw[q];rfl
    have Y:V7 cs[i]=y:=by unfold V7 zW;rw[q];rfl
    have j:(rN cs[i]).K_=⟨[rN x,rN y],B⟩:=by rw[zJ,q];rfl
    have g0:za (rN cs[i]).K_ 0=d (rN x):=by rw[j];rfl
    have s:za (rN cs[i]).K_ 1=d (rN y):=by rw[j];rfl
    have g:=znK u hi (.inl rfl) g0 T z h 0 0 fl (mkS (a.map rQ));simp only[jl,YR,D1];rw[jv Zc];unfold YJ;rw[X,Y];show N (lpO zpA _) _=_;cases e0:yC fs h.2 cs[i] x with
    |error er=>rw[e0] at g;rw[zw g];rfl
    |ok v=>
     rw[e0] at g;have m:=znK u hi (.inr rfl) s T z h v 0 fl (mkS (a.map rQ));have hv:(if x.T_=lit [] then(0:Int) else v)=v:=by
      split
      ·rename_i h0;unfold yC at e0;grind
      ·rfl
     simp only[jq,hv,ite_self] at g;rw[zA g];show N (lpO zpA (spc h.2,(i:Int),1,T,z,mkS (fs.map rN),mkS (cs.map rN),h,⟨[v,0],B⟩,fl,mkS (a.map rQ))) _=_;cases b:yC fs h.2 cs[i] y with
     |error er=>rw[b] at m;rw[zw m];rfl
     |ok w=>
      rw[b] at m;have o:(if y.T_=lit [] then(0:Int) else w)=w:=by
       split
       ·rename_i h0;unfold yC at b;grind
       ·rfl
      simp (decide:=true) only [jp,o,ite_self] at m;rw[zA m,zw (y :=.inr (spc h.2,(i:Int),T,z,mkS (fs.map rN),mkS (cs.map rN),h,⟨[v,w],B⟩,fl,mkS (a.map rQ))) rfl];have G:=zaw cs[i].T_ v w x.n_ y.n_;simp only[jj,jm,Xe hi,g0,s,zZ,zxi,show za (⟨[v,w],B⟩:Sl Int) 0=d v from rfl,show za (⟨[v,w],B⟩:Sl Int) 1=d w from rfl,zr6 Z,D];rw[show lpO (q6g q1h q1a q1f q1e) _=_ from zxl _ _ _ _ _ _ _ _ (Ve cs[i].T_ v w x.n_ y.n_) a Zc]
      grind)
  (λi hi a a' ha e=>by
    unfold YJ at e;cases b:yC fs h.2 cs[i] (zW cs[i]) with
    |error er=>rw[b] at e;cases e
    |ok v=>
     cases r:yC fs h.2 cs[i] (V7 cs[i]) with
     |error er=>rw[b,r] at e;cases e
     |ok w=>
      rw[b,r] at e;cases e;have:=zaw cs[i].T_ v w (zW cs[i]).n_ (V7 cs[i]).n_
      grind)
  (λa _=>by
    unfold zl8 q4d;simp only[jl,YR,D1]
    grind)
  (a:=[]) je
 cases e:cs.foldlM (YJ fs h.2) [] with
 |error er=>grind
 |ok l=>grind
theorem zyZ {t:List PT}(hg:wE n) (ht:t.length<=20000) (hn:n.K_.xs.length<=20000) :
    ∃w:Er->RTy,q4j (rN n,mkS (t.map rT))=d (match xj t n with | .error e=>(w e,e.1,e.2,mkS (t.map rT)) | .ok x=>(rT x,0,0,mkS (t.map rT))):=by
 obtain⟨s,fs,cs,hk,hf3,hc4,hs,hf,hc⟩:=zdX hg;have hks:zW n=s:=by unfold zW;rw[hk];rfl
 have hlen:(s::(fs++cs)).length<=20000:=by grind
 simp only[jz,jy] at hlen;unfold q4j qb1 xj;simp only[zj];rw[zl6 n 3 (by omega),zl6 n 4 (by omega),hf3,hc4,hks,zay t _ (by omega)];simp only[jj,zZ,Y3,jl,YR,D1];rw[show za (rN n).K_ 0=d (rN s) by rw[zJ,hk];rfl];simp only[jj,zj];by_cases h0:0<=idT n.T_ t
 ·simp only[h0,jq];exact⟨λ_=>_,rfl⟩
 simp only[h0,jp];by_cases h8:8 < fs.length
 ·simp only[show(8:Int) < (fs.length:Int) by omega,h8,jq];exact⟨λ_=>_,rfl⟩
 simp only[show¬ ((8:Int) < (fs.length:Int)) by omega,h8,jp];have h1:=zxk (fs:=fs) (by omega) s hf (mkS (t.map rT)) (lit [],0,0) (mkS (cs.map rN)) (n.T_,0,0);rw[show(C [] false:Sl qn)=mkS [] from rfl];cases e1:fs.foldlM (Y2 s fs) [] with
 |error e=>
  rw[e1] at h1;obtain⟨w,h1⟩:=h1;rw[show lpO (q56 q1h q1a q1f q1e) _=_ from h1];exact⟨λ_=>_,rfl⟩
 |ok fl=>
  rw[e1] at h1;simp only at h1;rw[show lpO (q56 q1h q1a q1f q1e) _=_ from h1];simp only[jj,jm,D]
  have fin:∀so:Int×Int,∃w:Er->RTy,((lpO (q4d q1h q1a q1f q1e) (spc so,0,mkS (t.map rT),(lit [],0,0),mkS (fs.map rN),mkS (cs.map rN),(n.T_,so.1,so.2),mkS (fl.map rF),C [] F)).bind λy78=>
      Sum.elim (λy79=>d (qd.mk y79.2.2.2.1.1 y79.2.2.2.1.2.1 y79.2.2.2.1.2.2 y79.2.2.2.2.1 y79.2.2.2.2.2,y79.1,y79.2.1,y79.2.2.1)) (λy80=>d (qd.mk y80.2.2.1.1 y80.2.2.1.2.1 y80.2.2.1.2.2 y80.2.2.2.1 y80.2.2.2.2,0,0,y80.1)) y78) =
      d (match(cs.foldlM (YJ fs so) []).bind λfa=>(.ok ⟨n.T_,so.1,so.2,mkS fl,mkS fa⟩:Except Er PT) with | .error e=>(w e,e.1,e.2,mkS (t.map rT)) | .ok x=>(rT x,0,0,mkS (t.map rT))):=by
   intro so;have h4:=zxm (fs:=fs) (cs:=cs) (by omega) (by omega) hc (mkS (t.map rT)) (lit [],0,0) (n.T_,so.1,so.2) (mkS (fl.map rF));rw[show(C [] false:Sl qu)=mkS [] from rfl];cases e4:cs.foldlM (YJ fs so) [] with
   |error e=>
    rw[show((n.T_,so.1,so.2):Hd).2=so from rfl,e4] at h4;obtain⟨w,h4⟩:=h4;rw[show lpO (q4d q1h q1a q1f q1e) _=_ from h4];exact⟨λ_=>_,rfl⟩
   |ok l=>
    rw[show((n.T_,so.1,so.2):Hd).2=so from rfl,e4] at h4;simp only at h4;rw[show lpO (q4d q1h q1a q1f q1e) _=_ from h4];refine⟨λ_=>⟨lit [],0,0,mkS [],mkS []⟩,?_⟩;simp only[jj,jm,D,rT,zr5]
  have i0:idx (λw=>decide (lit [111,119,110]=w)) Ym=0:=by decide +kernel
  have i1:idx (λw=>decide (lit [99,101,108,108]=w)) Ym=1:=by decide +kernel
  have i2:idx (λw=>decide (lit [99,111,117,110,116,101,100]=w)) Ym=2:=by decide +kernel
  have i3:idx (λw=>decide (lit [108,111,99,107]=w)) Ym=3:=by decide +kernel
  have i4:idx (λw=>decide (lit [103,117,97,114,100]=w)) Ym=4:=by decide +kernel
  obtain⟨kd,tx,nu,a,ks⟩:=s;obtain⟨_,hs⟩:=hs;simp only at hs;have g0:∀(k:Nd),za (rN ⟨kd,tx,nu,a,⟨[k],B⟩⟩).K_ 0=d (rN k):=λk=>by rw[zJ];rfl
  obtain⟨rfl | rfl,rfl⟩ | ⟨w,hw,rfl,k,rfl,_⟩:=hs
  ·unfold xZ;simp (decide:=true) only [i0,jj,jp,jq,jm,jo,jr,jk,Z8,zZ];exact fin (0,0)
  ·unfold xZ;simp (decide:=true) only [i1,jj,jp,jq,jm,jo,jr,jk,Z8,zZ];exact fin (1,0)
  simp only[zes,Db,Q,or_false] at hw;rcases hw with rfl | rfl | rfl
  · unfold xZ;simp (decide:=true) only [i2,jj,jp,jq,jm,jo,jr,js,jk,Z8,zZ,Y3,g0,Vf fs _ (show fs.length<=1000000 by omega),zW,Dr];by_cases h:0<=Zf fs k.T_
    ·simp only[h,show¬ (Zf fs k.T_ < 0) by omega,jq,jp,jm,jo,jj];have:=fin (2,Zf fs k.T_);simp (decide:=true) only [spc,jq,or_false] at this;exact this
    ·simp only[h,show Zf fs k.T_ < 0 by omega,jq,jp,jm,jo,jj];exact⟨λ_=>_,rfl⟩
  · unfold xZ;simp (decide:=true) only [i3,jj,jp,jq,jm,jo,jr,js,jk,Z8,zZ,Y3,g0,Vf fs _ (show fs.length<=1000000 by omega),zW,Dr];by_cases h:0<=Zf fs k.T_
    ·simp only[h,show¬ (Zf fs k.T_ < 0) by omega,jq,jp,jm,jo,jj];have:=fin (3,Zf fs k.T_);simp (decide:=true) only [spc,jq,or_true] at this;exact this
    ·simp only[h,show Zf fs k.T_ < 0 by omega,jq,jp,jm,jo,jj];exact⟨λ_=>_,rfl⟩
  · unfold xZ;have hl:idT k.T_ t < t.length:=yE.2.1;simp (decide:=true) only [i4,jj,jp,jq,jm,jo,jr,js,jk,Z8,zZ,Y3,g0,zay t _ (show t.length<=1000000 by omega),zW,Dr];by_cases h:0<=idT k.T_ t
    · obtain⟨j,hj⟩:∃j:Nat,idT k.T_ t=j:=⟨_,(DF h).symm⟩
      rw[hj] at hl;have hlt:j < t.length:=by omega
      simp only[hj,show(0:Int)<=(j:Int) by omega,show¬ ((j:Int) < 0) by omega,jq,jp,UG,Xe hlt,jj,O,UJ hlt,P,rT];by_cases h3:t[j].S_=3
      · simp only[h3,YR,D1,jq,jp,jm,jj,Dj,jt];by_cases h0:fs.length+cs.length=0
        ·simp only[h0,show¬ ((0:Int) < (fs.length:Int)) by omega,show¬ ((0:Int) < (cs.length:Int)) by omega,jq,jp,jr,jk,jm,jo,jj];exact fin (4,(j:Int))
        · simp only[h0,jp];by_cases hf0:(0:Int) < (fs.length:Int)
          ·simp only[hf0,jq,jo,jm,jj];exact⟨λ_=>_,rfl⟩
          ·simp only[hf0,show(0:Int) < (cs.length:Int) by omega,jq,jp,js,jo,jm,jj];exact⟨λ_=>_,rfl⟩
      ·simp only[h3,jq,jp,Dj,ju,jo,jm,jj];exact⟨λ_=>_,rfl⟩
    ·simp only[h,show idT k.T_ t < 0 by omega,jq,jp,false_and,jo,jm,jj];exact⟨λ_=>_,rfl⟩
theorem zr7 (Z:∀k∈n.K_.xs,k.k_=1->wE k/\k.K_.xs.length<=20000) (hn:n.K_.xs.length<=20000) :
    q38 (rN n)=d (match zbt n.K_.xs with | .error e=>(e.1,e.2,C [] F) | .ok t=>(0,0,mkS (t.map rT))):=by
 have s:∀(t:List PT) (k:Nd) (e:Er),xj t k = .error e->e.2≠0:=by
  intro t k e h;have g:∀{α A:Type} (f:A->α->Except Er A),(∀a x e,f a x = .error e->e.2≠0)->∀(l:List α) (a:A) (e:Er),l.foldlM f a = .error e->e.2≠0:=by
   intro α A f hf l
   induction l with
   |nil=>intro a e h;cases h
   |cons x l X=>
    intro a e h;rw[H] at h;cases z:f a x with
    |error er=>rw[z] at h;cases h;grind
    |ok b=>rw[z] at h;exact X b e h
  unfold xj at h;simp only at h;split at h
  ·cases h;simp
  split at h
  ·cases h;simp
  generalize k.K_.xs.filter (isK 3)=fs at h;generalize k.K_.xs.filter (isK 4)=cs at h;cases o:fs.foldlM (Y2 (zW k) fs) [] with
  |error er=>
   rw[o] at h;cases h;refine g _ (λa x e h=>?_) _ _ _ o;unfold Y2 at h;grind
  |ok fl=>
   rw[o] at h;simp only[D] at h;cases j:xZ t (zW k) fs cs with
   |error er=>
    rw[j] at h;cases h;unfold xZ at j;simp only at j;split at j
    ·grind
    split at j
    ·grind
    ·cases j
   |ok q=>
    rw[j] at h;simp only at h;cases G:cs.foldlM (YJ fs q) [] with
    |ok fa=>grind
    |error er=>
     rw[G] at h;cases h;refine g _ (λa x e h=>?_) _ _ _ G;have hv:∀c k e,yC fs q c k = .error e->e.2≠0:=by
      intro c k e h;unfold yC at h;grind
     unfold YJ at h;cases y:yC fs q x (zW x) with
     |error er=>rw[y] at h;cases h;grind
     |ok v=>
      cases L:yC fs q x (V7 x) with
      |error er=>rw[y,L] at h;cases h;grind
      |ok w=>rw[y,L] at h;cases h
 have:=zax (f:=q5d q4j) (xs:=n.K_.xs) (step:=λt k=>if k.k_=1 then(xj t k).bind λx =>.ok (t++[x]) else .ok t) (st:=λi a=>((i:Int),rN n,mkS (a.map rT)))
  (fin:=λa =>.inr (mkS (a.map rT))) (er:=λ_ e =>.inl e) (I:=λi a=>a.length<=i)
  (λi hi a T=>by
    unfold q5d;have hw:=zu (k:=i) Zc;simp only[jl,zj];have u:za (rN n).K_ (i:Int)=d (rN n.K_.xs[i]):=by rw[zJ,ze (by simpa using hi)];simp
    rw[jv (by rw[zJ];simp[Sl.len];omega),u];simp only[jj,ZT,zj];by_cases h1:n.K_.xs[i].k_=1
    · obtain⟨Y,g2⟩:=Z _ (gc hi) h1;obtain⟨w,r⟩:=zyZ Y (Zc:a.length<=20000) g2;simp only[h1,Dj,jt,jp,jq,r,jj];cases e:xj a n.K_.xs[i] with
      |error j=>have:=s _ _ _ e;simp only[this,ju,jq,jj,jm,D]
      |ok x=>
       simp only[jt,jp,D];rw[x5 Zc ji];grind
    grind)
  (λi hi a a' T e=>by
    split at e
    · cases o:xj a n.K_.xs[i] with
      |error er=>rw[o] at e;cases e
      |ok x=>rw[o] at e;cases e;simp;omega
    grind)
  (λa _=>by
    unfold q5d;simp only[jl]
    rw[jx (by rw[zJ];simp[Sl.len])])
  (a:=[]) je
 unfold q38 q8t;simp only[zj];show((lpO (q5d q4j) (((0:Nat):Int),rN n,mkS (([]:List PT).map rT))).bind _)=_;unfold zbt;cases e:n.K_.xs.foldlM (m:=Except Er) (λt k=>if k.k_=1 then(xj t k).bind λx =>.ok (t++[x]) else .ok t) [] with
 |error er=>
  grind
 |ok t=>
  grind
end Go.Px
