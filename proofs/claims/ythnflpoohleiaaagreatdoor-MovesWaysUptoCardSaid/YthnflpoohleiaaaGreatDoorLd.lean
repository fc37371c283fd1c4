/- Part Ld. -/
import Derived.Test.YthnflpoohleiaaaGreatDoorLc
set_option linter.unusedVariables false
set_option linter.unusedSimpArgs false
namespace Go.Px
open Bool renaming true->B,false->F
open Except renaming bind->D
open Int renaming toNat_natCast->O
open List renaming foldlM_cons->H,foldlM->K,filter_cons->M,not_mem_nil->Q,filter_eq_self->U,filter_eq_nil_iff->V,filter_append->W
open _root_.Option renaming some->d,bind->N,elim_some->P
open Sl renaming mk->C
variable{A E R S α β:Type}{cs fs:List Nd}{i:Nat}{n:Nd}{t ts:List Tk}{I:Nat->A->Prop}{f:S->Uv (Step S R)}{l xs:List α}{p:α->Bool}{step:A->α->Except E A}
theorem D6:∀{a:Int},0<=a->↑a.toNat=a:=@Int.toNat_of_nonneg
theorem wh {st:Nat->S}{yes:Nat->R}{no:R}
    (h:∀i (hi:i < xs.length),f (st i)=d (if p xs[i]=B then .done (yes i) else .next (st (i+1)))) (h0:f (st xs.length)=d (.done no)) :
    lpO f (st 0)=d ((xs.findIdx? p).elim no yes):=by
 have:∀(n i:Nat),i+n=xs.length->lpO f (st i)=d (((xs.drop i).findIdx? p).elim no λj=>yes (i+j)):=by
  intro n
  induction n with
  |zero=>
   intro i hi;rw[Uy Zd,(Zd:i=xs.length),zw h0];rfl
  |succ n b=>
   intro i hi;have a:i < xs.length:=Zd
   have h1:=h i a;rw[Di a,List.findIdx?_cons];by_cases hp:p xs[i]=B
   ·rw[jv hp] at h1;rw[zw h1,jv hp];rfl
   · rw[jx hp] at h1;rw[zB h1,b (i+1) Zd,jx hp];cases(xs.drop (i+1)).findIdx? p with
     |none=>rfl
     |some j=>grind
 have h2:=this xs.length 0 Zd;simpa using h2
theorem zlT {st:Nat->A->S}{fin:A->R}{er:E->R}
    (h:∀i (hi:i < xs.length) a,I i a->f (st i a)=d (match step a xs[i] with | .ok a' =>.next (st (i+1) a') | .error e =>.done (er e)))
    (g:∀i (hi:i < xs.length) a a',I i a->step a xs[i] = .ok a'->I (i+1) a') (h0:∀a,I xs.length a->f (st xs.length a)=d (.done (fin a))) {a:A} (c:I 0 a) :
    lpO f (st 0 a)=d (match xs.foldlM step a with | .ok a'=>fin a' | .error e=>er e):=by
 have:∀(n i:Nat) (a:A),i+n=xs.length->I i a->lpO f (st i a)=d (match(xs.drop i).foldlM step a with | .ok a'=>fin a' | .error e=>er e):=by
  intro n
  induction n with
  |zero=>
   intro i a hi c;obtain rfl:i=xs.length:=Zd
   rw[Uy (UD _),zw (h0 a c)];rfl
  |succ n j=>
   intro i a hi c;have b:i < xs.length:=Zd
   have h1:=h i b a c;rw[Di b,H];cases hs:step a xs[i] with
   |error e=>rw[hs] at h1;rw[zw h1];rfl
   |ok a'=>rw[hs] at h1;rw[zB h1];exact j (i+1) a' Zd (g i b a a' c hs)
 have h2:=this xs.length 0 a Zd c;grind
theorem V8:∀(xs:List α) (k:Nat) (a:A),I k a->(∀i (hi:i < xs.length) a a',I (k+i) a->step a xs[i] = .ok a'->I (k+i+1) a')->∀b,xs.foldlM step a = .ok b->I (k+xs.length) b
 |[],k,a,h,_,b,e=>by cases e;exact h
 |x::xs,k,a,h,hs,b,e=>by
  rw[H] at e;cases h1:step a x with
  |error er=>rw[h1] at e;cases e
  |ok a'=>
   rw[h1] at e;have:=V8 xs (k+1) a' (hs 0 je a a' h h1) (λi hi a b c hb=>by have:=hs (i+1) ji a b jE hb;grind) b e;grind
theorem ze{s:Sl α}(h:i < s.xs.length):za s (i:Int)=d s.xs[i]:=by rw[wU];grind
theorem zh(s:Sl α):s.len=(s.xs.length:Int):=rfl
theorem jA{p:Prop}(h:p:=by simp only[zh];omega):p:=h
def idx(p:α->Bool)(l:List α):Int:=(l.findIdx? p).elim (-1) λi=>(i:Int)
theorem yC: -1<=idx p l/\idx p l < l.length/\(0<=idx p l↔∃x∈l,p x=B):=by
 unfold idx;cases h:l.findIdx? p with
 |none=>
  rw[List.findIdx?_eq_none_iff] at h;refine⟨je,jE,jE⟩
 |some i=>
  obtain⟨hi,hp,_⟩:=List.findIdx?_eq_some_iff_getElem.1 h;exact⟨jE,jE,λ_=>⟨_,gc hi,hp⟩,λ_=>je⟩
theorem zny(g:α->β)(p:β->Bool)(l:List α):idx p (l.map g)=idx (λx=>p (g x)) l:=by
 unfold idx;rw[List.findIdx?_map];rfl
def zeu(n:Nd):Prop:=n.K_=nilS
def zev:List (List UInt8):=[[99,111,117,110,116,101,100],[108,111,99,107],[103,117,97,114,100]]
def zje(n:Nd):Prop:=n.k_=2/\((n.T_=lit [111,119,110]\/n.T_=lit [99,101,108,108])/\n.K_=nilS\/∃w∈zev,n.T_=lit w/\∃k,n.K_=⟨[k],B⟩/\zeu k)
def zbu(n:Nd):Prop:=n.k_=3/\(n.K_=nilS\/∃k,n.K_=⟨[k],B⟩/\zeu k)
def zcC(n:Nd):Prop:=n.k_=4/\(n.T_=lit [60]\/n.T_=lit [60,61]\/n.T_=lit [61,61])/\∃a b,n.K_=⟨[a,b],B⟩/\zeu a/\zeu b
def wE(n:Nd):Prop:=n.k_=1/\∃s fs cs,n.K_=⟨s::(fs++cs),B⟩/\zje s/\(∀f∈fs,zbu f)/\∀c∈cs,zcC c
theorem XN{w:List UInt8}(h:isP w ts=B):(hd ts).T_=lit w:=by
 unfold isP at h;grind
theorem zxc(h:vm ts = .ok (n,t)):zje n:=by
 unfold vm at h;split at h
 ·rename_i c;cases h;exact⟨rfl,.inl ⟨.inl (XN c),rfl⟩⟩
 split at h
 ·rename_i c;cases h;exact⟨rfl,.inl ⟨.inr (XN c),rfl⟩⟩
 split at h
 ·rename_i c;obtain⟨k,a,e,h⟩:=bd_ok h;cases h;exact⟨rfl,.inr ⟨_,by simp[zev],XN c,k,rfl,zP e⟩⟩
 split at h
 ·rename_i c;obtain⟨k,a,e,h⟩:=bd_ok h;cases h;exact⟨rfl,.inr ⟨_,by simp[zev],XN c,k,rfl,zP e⟩⟩
 split at h
 ·rename_i c;obtain⟨k,a,e,h⟩:=bd_ok h;cases h;exact⟨rfl,.inr ⟨_,by simp[zev],XN c,k,rfl,zP e⟩⟩
 ·cases h
theorem zue(h:xE ts = .ok (n,t)):zbu n:=by
 obtain⟨m,c,b,h⟩:=bd_ok h;split at h
 ·obtain⟨k,t2,a,h⟩:=bd_ok h;obtain⟨u,t3,_,h⟩:=bd_ok h;cases h;exact⟨rfl,.inr ⟨k,rfl,zP a⟩⟩
 ·cases h;exact⟨rfl,.inl rfl⟩
theorem zyR{s:Ut}(h:zcv ts = .ok (s,t)):s=lit [60]\/s=lit [60,61]\/s=lit [61,61]:=by
 unfold zcv at h;split at h
 ·grind
 split at h
 ·grind
 split at h
 ·grind
 ·cases h
theorem znz(h:YI ts = .ok (n,t)):zcC n/\n.n_=0:=by
 obtain⟨a,g,f,h⟩:=bd_ok h;obtain⟨op,t2,c,h⟩:=bd_ok h;obtain⟨b,t3,e,h⟩:=bd_ok h;cases h;exact⟨⟨rfl,zyR c,a,b,rfl,X0 f,X0 e⟩,rfl⟩
theorem zgW{one:List Tk->PR Nd}{G:Nd->Prop}(b:∀ts n t,one ts = .ok (n,t)->G n):∀(j:Nat) (acc:List Nd) (ts:List Tk) (l:List Nd) (t:List Tk),(∀x∈acc,G x)->Zt one j acc ts = .ok (l,t)->∀x∈l,G x
 |0,acc,ts,l,t,h,e=>by cases e;exact h
 |j+1,acc,ts,l,t,h,e=>by
  unfold Zt at e;split at e
  ·obtain⟨a,g,f,e⟩:=bd_ok e;refine zgW b j _ _ l t (λx c=>?_) e;grind
  grind
theorem zew{one:List Tk->PR Nd}{G:Nd->Prop}(b:∀ts n t,one ts = .ok (n,t)->G n){l:List Nd}(e:yc one ts = .ok (l,t)):∀x∈l,G x:=by
 obtain⟨a,f,c,e⟩:=bd_ok e;exact zgW b _ _ _ l t jE e
theorem zyS{a:Int}(h:zdQ a ts = .ok (n,t)):wE n:=by
 rw[znx] at h;obtain⟨m,q,r,h⟩:=bd_ok h;obtain⟨s,t2,es,h⟩:=bd_ok h;obtain⟨ks,t3,b,h⟩:=bd_ok h;obtain⟨k,t4,c,h⟩:=bd_ok h;obtain⟨u,t5,o,h⟩:=bd_ok h;cases h;obtain⟨fs,rfl,g⟩:∃fs,ks=s::fs/\∀f∈fs,zbu f:=by
  unfold va at b;split at b
  ·obtain⟨l,j,e,b⟩:=bd_ok b;obtain⟨u,p,_,b⟩:=bd_ok b;cases b;exact⟨l,rfl,zew (λ_ _ _=>zue) e⟩
  grind
 obtain⟨cs,rfl,i⟩:∃cs,k=(s::fs)++cs/\∀f∈cs,zcC f:=by
  unfold zbt at c;split at c
  ·obtain⟨l,j,e,c⟩:=bd_ok c;cases c;exact⟨l,rfl,zew (λ_ _ _ h=>(znz h).1) e⟩
  ·cases c;exact⟨[],je,je⟩
 exact⟨rfl,s,fs,cs,je,zxc es,g,i⟩
abbrev PT:=qa
abbrev PF:=qt
abbrev PL:=qw
abbrev Er:=Int×Int
abbrev IxS(α γ:Type):=Sl α×Int×Int×γ
def ixL{γ:Type}(e:α->α)(f:α×γ->Uv (Bool×γ)):IxS α γ->Uv (Step (IxS α γ) (Int×γ⊕γ)):=λa=>
 if decide (a.2.2.1 < a.2.1)=B then(za a.1 a.2.2.1).bind λc=>(f (e c,a.2.2.2)).bind λb=>
  if b.1=B then d (Step.done (Sum.inl (a.2.2.1,b.2))) else d (Step.next (a.1,a.2.1,Uw (a.2.2.1+1),b.2))
 else d (Step.done (Sum.inr a.2.2.2))
theorem zlU {γ:Type}{e:α->α}(j:∀x,e x=x) {f:α×γ->Uv (Bool×γ)}{c:γ}(a:∀x,f (x,c)=d (p x,c)) (s:Sl α) (hs:s.xs.length<=1000000) :
    ((lpO (ixL e f) (s,s.len,0,c)).bind λg=>Sum.elim (λb=>d b) (λh=>d (-1,h)) g)=d (idx p s.xs,c):=by
 have:=wh (f:=ixL e f) (xs:=s.xs) (p:=p) (st:=λi=>(s,s.len,(i:Int),c)) (yes:=λi =>.inl ((i:Int),c)) (no :=.inr c)
  (λi hi=>by
    simp only[ixL,jl];simp only[zh,ze hi,jj,j,a];rw[jv Zd,zu Zd]
    split<;>rfl)
  (by simp only[ixL,jl];rw[jx (by rw[zh];omega)])
 rw[show((0:Int))=((0:Nat):Int) from rfl,this];unfold idx;cases s.xs.findIdx? p<;>rfl
def idT(n:Ut)(t:List PT):Int:=idx (λx=>decide (x.N_=n)) t
def idN(n:Ut)(l:List Nd):Int:=idx (λx=>decide (x.T_=n)) l
theorem zcD(t:Sl PT)(n:Ut)(a:t.xs.length<=1000000):q2l (t,n)=d (idT n t.xs):=by
 show(((lpO (ixL id q80) (t,t.len,0,n)).bind _).bind λ(b:Int×Ut)=>d b.1)=_;rw[zlU (e:=id) (λ_=>rfl) (p:=λx:PT=>decide (x.N_=n)) (λx=>rfl) t a];rfl
def Zg(fs:List Nd)(n:Ut):Int:=idx (λx=>decide (x.T_=n) && decide (x.K_.len=0)) fs
theorem Va(x:PT)(n:Ut)(fs:Sl Nd)(a:fs.xs.length<=1000000):q3f (x,n,fs)=d (Zg fs.xs n):=by
 show(((lpO (ixL (λy=>ke y) q5y) (fs,fs.len,0,n)).bind _).bind λ(b:Int×Ut)=>d b.1)=_;rw[zlU zm (p:=λx=>decide (x.T_=n) && decide (x.K_.len=0)) (λx=>?_) fs a];rfl;unfold q5y q8u;grind
theorem zrY(fs:Sl Nd)(n:Ut)(a:fs.xs.length<=1000000):qam (fs,n)=d (decide (0<=idN n fs.xs)):=by
 show((((lpO (ixL (λy=>ke y) qc4) (fs,fs.len,0,n)).bind _).bind _).bind λ(b:Bool×Ut)=>d b.1)=_;rw[zlU zm (p:=λx:Nd=>decide (x.T_=n)) (λx=>rfl) fs a];rfl
theorem vb(b:Bool)(n:Nd)(e:Int):q72 (b,n,e)=d (if b=B then .inr () else .inl (n.a_,e)):=by cases b<;>rfl
def isK(k:Int)(n:Nd):Bool:=decide (n.k_=k)
def Yk:List Ut:=[lit [111,119,110],lit [99,101,108,108],lit [99,111,117,110,116,101,100],lit [108,111,99,107],lit [103,117,97,114,100]]
def zW(n:Nd):Nd:=n.K_.xs.headD vn
def Y0(s:Nd)(fs:List Nd)(acc:List PF)(f:Nd):Except Er (List PF):=
 if 0<=idN f.T_ (fs.take acc.length) then .error (f.a_,30)
 else if f.K_.xs=[] then .ok (acc++[⟨f.T_, -1⟩])
 else if s.T_=lit [111,119,110]/\0<=Zg fs (zW f).T_ then .ok (acc++[⟨f.T_,Zg fs (zW f).T_⟩]) else .error (f.a_,32)
def xY(t:List PT)(s:Nd)(fs cs:List Nd):Except Er (Int×Int):=
 let k:=idx (λw=>decide (s.T_=w)) Yk
 let w:=(zW s).T_
 let o:=idT w t
 if k=2\/k=3 then(if 0<=Zg fs w then .ok (k,Zg fs w) else .error (s.a_,32))
 else if k=4 then(if 0<=o/\((t[o.toNat]?).elim 0 qa.S_)=3 then(if fs.length+cs.length=0 then .ok (k,o) else .error (s.a_,32)) else .error (s.a_,31))
 else .ok (k,0)
def yA(fs:List Nd)(a:Int×Int)(c k:Nd):Except Er Int:=
 if k.T_=lit [] then .ok 0 else if 0<=Zg fs k.T_/\¬ ((a.1=2\/a.1=3)/\Zg fs k.T_=a.2) then .ok (Zg fs k.T_+1) else .error (c.a_,33)
def Vb(c:Ut)(a b k l:Int):List PL:=
 if c=lit [60] then [⟨a,b,Uw (Uw (l - k) - 1)⟩] else if c=lit [60,61] then [⟨a,b,Uw (l - k)⟩]
 else if c=lit [61,61] then [⟨a,b,Uw (l - k)⟩,⟨b,a,Uw (k - l)⟩] else []
def V9(n:Nd):Nd:=zW ⟨0,lit [],0,0,⟨n.K_.xs.tail,B⟩⟩
def YJ(fs:List Nd)(a:Int×Int)(acc:List PL)(c:Nd):Except Er (List PL):=
 (yA fs a c (zW c)).bind λv=>(yA fs a c (V9 c)).bind λw =>.ok (acc++Vb c.T_ v w (zW c).n_ (V9 c).n_)
def xh(t:List PT)(n:Nd):Except Er PT:=
 let fs:=n.K_.xs.filter (isK 3);let cs:=n.K_.xs.filter (isK 4)
 if 0<=idT n.T_ t then .error (n.a_,30) else if 8 < fs.length then .error (n.a_,22) else
 (fs.foldlM (Y0 (zW n) fs) []).bind λfl=>(xY t (zW n) fs cs).bind λa=>(cs.foldlM (YJ fs a) []).bind λb =>.ok ⟨n.T_,a.1,a.2,mkS fl,mkS b⟩
def zbv(l:List Nd):Except Er (List PT):=l.foldlM (λt k=>if k.k_=1 then(xh t k).bind λx =>.ok (t++[x]) else .ok t) []
theorem xZ{b:Nat}(hb:b<=1000000){acc:List α}(h:acc.length+l.length<=100000):zo b (mkS acc) l=d (mkS (acc++l)):=by
 have:(acc.length+l.length) * b<=100000 * 1000000:=Nat.mul_le_mul h hb;rw[yy (by simp only[mkS];omega) (by simp only[mkS];omega)];cases acc<;>cases l<;>simp[mkS]
theorem zuf(n:Nd)(h:n.K_.xs.length<=50000):qan n=d (mkS (n.K_.xs.filter (isK 3)),mkS (n.K_.xs.filter (isK 4))):=by
 show((lpO q8q (n.K_,n.K_.len,0,C [] F,C [] F)).bind λo=>d o)=_
 have:=zlT (E:=Er) (f:=q8q) (xs:=n.K_.xs) (A:=List Nd×List Nd) (step:=λa k =>.ok (if isK 3 k then(a.1++[k],a.2) else if isK 4 k then(a.1,a.2++[k]) else a))
  (st:=λi a=>(n.K_,n.K_.len,(i:Int),mkS a.1,mkS a.2)) (fin:=λa=>(mkS a.1,mkS a.2)) (er:=λ_=>(mkS [],mkS [])) (I:=λi a=>a.1.length<=i/\a.2.length<=i)
  (λi hi a p=>by
   unfold q8q;simp only[jl];simp only[zh,ze hi,jj,zm,isK];rw[jv Zd];have q:=zu (k:=i) Zd;by_cases c:n.K_.xs[i].k_=3
   ·simp only[c,jq,js];rw[xZ Zd ji];grind
   ·by_cases g:n.K_.xs[i].k_=4
    ·simp (decide:=true) only [g,jq,jp,js,jr,jk];rw[xZ Zd ji];grind
    grind)
  (λi hi a a' p e=>by
   cases e
   grind)
  (λa _=>by unfold q8q;simp only[jl];rw[jx (by rw[zh];omega)])
  (a:=([],[])) je
 have e:∀(l a b:List Nd),l.foldlM (m:=Except Er) (λ(a:List Nd×List Nd) k =>.ok (if isK 3 k then(a.1++[k],a.2) else if isK 4 k then(a.1,a.2++[k]) else a)) (a,b) = .ok (a++l.filter (isK 3),b++l.filter (isK 4)):=by
  intro l
  induction l with
  |nil=>intro a b;simp;rfl
  |cons x l j=>
   intro a b;rw[H];by_cases c:isK 3 x=B
   ·have g:isK 4 x=false:=by simp only[isK,jl] at c |-;simp[c]
    simp only[c,g,jq,M,jk,jp];show K _ (a++[x],b) l=_;rw[j];simp
   ·by_cases g:isK 4 x=B
    ·simp only[c,g,jq,M,jk,jp];show K _ (a,b++[x]) l=_;rw[j];simp
    ·simp only[c,g,jp,M,jk];show K _ (a,b) l=_;rw[j]
 rw[e] at this;simp only[Dh] at this;rw[show(lpO q8q (n.K_,n.K_.len,0,C [] F,C [] F))=_ from this];rfl
theorem zrZ(s:Ut):q2y (C [lit [111,119,110],lit [99,101,108,108],lit [99,111,117,110,116,101,100],lit [108,111,99,107],lit [103,117,97,114,100]] B,s)=d (idx (λw=>decide (s=w)) Yk):=by
 have:=wh (f:=q1q) (xs:=Yk) (p:=λw=>decide (s=w)) (st:=λi=>(⟨Yk,B⟩,s,Sl.len (⟨Yk,B⟩:Sl Ut),(i:Int))) (yes:=λi =>.inl (i:Int)) (no :=.inr ())
  (λi hi=>by
   have a:i < 5:=hi;unfold q1q;simp only[jl];simp only[zh,ze (s:=⟨Yk,B⟩) hi,jj];rw[jv Zd,zu Zd]
   split<;>rfl)
  (by unfold q1q;simp only[jl];rw[jx (by show¬ ((5:Int) < 5);omega)])
 show((lpO q1q (⟨Yk,B⟩,s,Sl.len (⟨Yk,B⟩:Sl Ut),((0:Nat):Int))).bind _)=_;rw[this];unfold idx;cases Yk.findIdx? _<;>rfl
theorem zpo{s:Sl α}{t:Sl β}(a:s.xs.length<=100000)(hb:t.xs.length<=100000):(Uw (s.len+t.len)=0)=(s.xs.length+t.xs.length=0):=by
 rw[zh,zh,zF Zd Zd];grind
theorem zug {t:Sl PT}{s:Nd}{fs cs:Sl Nd}(hs:zje s) (r:t.xs.length<=100000) (c:fs.xs.length<=100000) (f:cs.xs.length<=100000) (nm:Ut) (fl:Sl PF) (l:Sl PL) :
    ∃w:Er->(Ut×Int×Int)×Sl PF×Sl PL,q52 (t,s,fs,cs,(nm,0,0),fl,l)=d (match xY t.xs s fs.xs cs.xs with | .ok g =>.inr ((nm,g.1,g.2),fl,l) | .error e =>.inl (e,w e)):=by
 unfold q52 qbj;rw[zrZ];obtain⟨u,q,v,a,ks⟩:=s;have i0:idx (λw=>decide (lit [111,119,110]=w)) Yk=0:=ja
 have o:idx (λw=>decide (lit [99,101,108,108]=w)) Yk=1:=ja
 have i2:idx (λw=>decide (lit [99,111,117,110,116,101,100]=w)) Yk=2:=ja
 have i3:idx (λw=>decide (lit [108,111,99,107]=w)) Yk=3:=ja
 have i4:idx (λw=>decide (lit [103,117,97,114,100]=w)) Yk=4:=ja
 obtain⟨_,hs⟩:=hs;simp only at hs;obtain⟨rfl | rfl,rfl⟩ | ⟨w,m,rfl,k,rfl,_⟩:=hs
 ·unfold xY;simp (decide:=true) only [i0,jj,jp,jm,jr,jk];exact⟨λ_=>default,jE⟩
 ·unfold xY;simp (decide:=true) only [o,jj,jp,jm,jr,jk];exact⟨λ_=>default,jE⟩
 have g0:∀(k:Nd),za (⟨[k],B⟩:Sl Nd) 0=d k:=λ_=>rfl
 simp only[zev,UU,Q,or_false] at m;rcases m with rfl | rfl | rfl
 · unfold xY;simp (decide:=true) only [i2,jj,jp,jq,jm,jr,js,jk,g0,Va _ _ fs Zd,vb,zW,Dj,jl];by_cases h:0<=Zg fs.xs k.T_
   ·simp only[h,jq,jm,jj];exact⟨λ_=>default,jE⟩
   ·simp only[h,jp,jo,jj];exact⟨λ_=>_,rfl⟩
 · unfold xY;simp (decide:=true) only [i3,jj,jp,jq,jm,jr,js,jk,g0,Va _ _ fs Zd,vb,zW,Dj,jl];by_cases h:0<=Zg fs.xs k.T_
   ·simp only[h,jq,jm,jj];exact⟨λ_=>default,jE⟩
   ·simp only[h,jp,jo,jj];exact⟨λ_=>_,rfl⟩
 · unfold xY;have p:idT k.T_ t.xs < t.xs.length:=yC.2.1;simp (decide:=true) only [i4,jj,jp,jq,jm,jr,js,jk,g0,zcD t _ Zd,vb,zW,Dj,zpo c f,jl];by_cases h:0<=idT k.T_ t.xs
   · obtain⟨j,i⟩:∃j:Nat,idT k.T_ t.xs=j:=⟨_,(D6 h).symm⟩
     rw[i] at p;have b:j < t.xs.length:=Zd
     simp only[i,(Zd:(0:Int)<=(j:Int)),jq,U9,ze b,jj,O,UC b,P];by_cases n:t.xs[j].S_=3
     · simp only[n,jq,jm,jj];by_cases h0:fs.xs.length+cs.xs.length=0
       ·simp only[zpo c f,h0,jq,jm,jj];exact⟨λ_=>default,jE⟩
       ·simp only[zpo c f,h0,jp,jo,jj];exact⟨λ_=>_,rfl⟩
     ·simp only[n,jp,jo,jj];exact⟨λ_=>_,rfl⟩
   ·simp only[h,jp,false_and,jo,jj];exact⟨λ_=>_,rfl⟩
theorem zr0{c:Ut}(e:c=lit [60]\/c=lit [60,61]\/c=lit [61,61])(a b k l:Int):qao (c,a,b,k,l)=d ⟨Vb c a b k l,B⟩:=by
 unfold qao qep Vb;rcases e with rfl | rfl | rfl<;>simp (decide:=true) only [jq,jp,jj,jo,js,jr,jk]
theorem zaz(c:Ut)(a b k l:Int):(Vb c a b k l).length<=2:=by
 unfold Vb;by_cases h1:c=lit [60]
 ·grind
 rw[jx h1];by_cases h2:c=lit [60,61]
 all_goals grind
abbrev Hd:=Ut×Int×Int
noncomputable abbrev zcE:=q9f q3f q72 qao
theorem zfh {fs ks:Sl Nd}(q:fs.xs.length<=100000) {k c:Nd}{L i:Int}(hi:i=0\/i=1) (n:i < L) (o:za ks i=d k) (h:Hd) (fl:Sl PF) (b:Sl PL) (v0 f:Int) :
    zcE (fs,ks,L,i,h,fl,b,c,v0,f)=d (match yA fs.xs h.2 c k with
     | .error e =>.done (.inl (e,h,fl,b))
     | .ok v =>.next (fs,ks,L,i+1,h,fl,b,c,if k.T_=lit [] then v0 else if i=0 then v else v0,if k.T_=lit [] then f else if i=0 then f else v)):=by
 unfold zcE q9f;have r:Zg fs.xs k.T_ < fs.xs.length:=yC.2.1;have p : -1<=Zg fs.xs k.T_:=yC.1;have j:Uw (i+1)=i+1:=zF Zd Zd;have a:Uw (Zg fs.xs k.T_+1)=Zg fs.xs k.T_+1:=zF Zd Zd;simp only[jl];rw[jv n];simp only[o,jj,zm,Va _ _ fs Zd,vb,yA];by_cases m:k.T_=lit []
 ·grind
 simp only[m,jp];by_cases h0:0<=Zg fs.xs k.T_
 case neg=>grind
 simp only[h0,jq,U9];have fin:((bif decide (i=1) then d (fs,ks,L,i,h,fl,b,c,v0,Zg fs.xs k.T_+1) else bif decide (i=0) then d (fs,ks,L,i,h,fl,b,c,Zg fs.xs k.T_+1,f) else none):Uv (Sl Nd×Sl Nd×Int×Int×Hd×Sl PF×Sl PL×Nd×Int×Int))=d (fs,ks,L,i,h,fl,b,c,if i=0 then Zg fs.xs k.T_+1 else v0,if i=0 then f else Zg fs.xs k.T_+1):=by
  grind
 by_cases h2:h.2.1=2
 · by_cases g:Zg fs.xs k.T_=h.2.2
   ·simp only[h2,g,jq,true_or,js,Dg,jk,jp,jt,and_self,jj,jo,jm]
   ·simp only[h2,g,jq,true_or,jr,Dy,jp,ju,and_false,jj,jo,jm,j,a,fin]
 · by_cases l:h.2.1=3
   · by_cases g:Zg fs.xs k.T_=h.2.2
     ·simp (decide:=true) only [l,g,jq,or_true,js,Dg,jk,jp,jt,and_self,jj,jo,jm]
     ·simp (decide:=true) only [l,g,jq,or_true,jr,Dy,jp,ju,and_false,jj,jo,jm,j,a,fin]
   ·simp only[h2,l,jq,or_self,false_and,Dy,jp,ju,jj,jo,jm,j,a,fin]
theorem zuh {fs:Sl Nd}(m:fs.xs.length<=100000) {c:Nd}(r:zcC c) (h:Hd) (fl:Sl PF) (acc:List PL) (u:acc.length<=50000) :
    q5r (c,fs,h,fl,mkS acc)=d (match YJ fs.xs h.2 acc c with | .error e =>.inl (e,h,fl,mkS acc) | .ok l =>.inr (h,fl,mkS l)):=by
 obtain⟨_,n,a,b,i,_,_⟩:=r;unfold q5r qc5;simp only[zm];simp only[i];have g:=zfh (ks:=⟨[a,b],B⟩) (k:=a) (c:=c) (L:=2) m (.inl rfl) Zd rfl h fl (mkS acc) 0 0;have q:zW c=a:=by unfold zW;rw[i];rfl
 have p:V9 c=b:=by unfold V9 zW;rw[i];rfl
 unfold YJ;rw[q,p,show Sl.len (⟨[a,b],B⟩:Sl Nd)=2 from rfl];cases e0:yA fs.xs h.2 c a with
 |error er=>rw[e0] at g;rw[zw g];rfl
 |ok v=>
  rw[e0] at g;have f:=zfh (ks:=⟨[a,b],B⟩) (k:=b) (c:=c) (L:=2) m (.inr rfl) Zd rfl h fl (mkS acc) v 0;have t:(if a.T_=lit [] then(0:Int) else v)=v:=by
   split
   ·rename_i h0;unfold yA at e0;grind
   ·rfl
  simp only[jq,t,ite_self] at g;rw[zB g];show((lpO zcE (fs,⟨[a,b],B⟩,2,1,h,fl,mkS acc,c,v,0)).bind _)=_;cases j:yA fs.xs h.2 c b with
  |error er=>rw[j] at f;rw[zw f];rfl
  |ok w=>
   rw[j] at f;have s:(if b.T_=lit [] then(0:Int) else w)=w:=by
    split
    ·rename_i h0;unfold yA at j;grind
    ·rfl
   simp (decide:=true) only [jp,s,ite_self] at f;rw[zB f,zw (y :=.inr (h,fl,mkS acc,c,v,w)) (by unfold zcE q9f;simp only[zm];rfl)];have o:(Vb c.T_ v w a.n_ b.n_).length<=2:=zaz _ _ _ _ _;simp only[jj,jm,i,show za (⟨[a,b],B⟩:Sl Nd) 0=d a from rfl,show za (⟨[a,b],B⟩:Sl Nd) 1=d b from rfl,zr0 n,D];rw[xZ Zd Zd];rfl
noncomputable abbrev zjf:=q9g qan q2l q72 qam q3f q52 q5r
noncomputable abbrev zjg:=q9h qan q2l q72 qam q3f q52 q5r
theorem zmS {t:Sl PT}{cs:Sl Nd}(w:fs.length<=20000) (u:n.K_.xs≠[]) (p:∀f∈fs,zbu f) (z h:Hd) :
    lpO zjf (t,mkS fs,mkS fs,Sl.len (mkS fs),0,n,z,cs,h,mkS [])=d (match fs.foldlM (Y0 (zW n) fs) [] with | .error e =>.inl e | .ok l =>.inr (t,mkS fs,n,z,cs,h,mkS l)):=by
 have g0:za n.K_ 0=d (zW n):=by
  unfold zW;cases q:n.K_ with | mk xs nn=>rw[q] at u;cases xs with | nil=>grind | cons a r=>rfl
 have:=zlT (f:=zjf) (xs:=fs) (step:=Y0 (zW n) fs) (st:=λi a=>(t,mkS fs,mkS fs,Sl.len (mkS fs),(i:Int),n,z,cs,h,mkS a)) (fin:=λa =>.inr (t,mkS fs,n,z,cs,h,mkS a)) (er :=.inl) (I:=λi a=>a.length=i)
  (λi hi a o=>by
    unfold zjf q9g;have j:=p fs[i] (gc hi);have v:=zu (k:=i) Zd;simp only[jl];rw[jv (show((i:Int) < Sl.len (mkS fs)) by show(i:Int) < (fs.length:Int);omega)];rw[ze (s:=mkS fs) hi,jj,Yr Zd Zd (by show(i:Int)<=(fs.length:Int);omega),jj];simp only[Int.toNat_zero,Dk,O,zm];rw[zrY _ _ ji,jj];simp only[vb,jj,Y0,o];show N (Sum.elim _ _ (if(!decide (0<=idN fs[i].T_ (fs.take i)))=B then _ else _)) _=_;by_cases h1:0<=idN fs[i].T_ (fs.take i)
    ·simp only[mkS,h1,js,Dg,jk,jp,jq,jo,jj]
    simp only[h1,jr,Dy,jq,jp,jm];obtain⟨_,b | ⟨k,c,_⟩⟩:=j
    · have g:fs[i].K_.xs=[]:=by rw[b]
      have e0:zW fs[i]=vn:=by unfold zW;rw[b];rfl
      simp only[show(mkS fs).xs[i]=fs[i] from rfl];simp (decide:=true) only [b,show(nilS:Sl Nd).len=0 from rfl,jp,jq,jm,jj];rw[xZ Zd ji];grind
    · have g:¬ fs[i].K_.xs=[]:=by rw[c];simp
      have e0:zW fs[i]=k:=by unfold zW;rw[c];rfl
      simp only[g,jp,e0];simp only[show(mkS fs).xs[i]=fs[i] from rfl];simp (decide:=true) only [c,show Sl.len (⟨[k],B⟩:Sl Nd)=1 from rfl,show za (⟨[k],B⟩:Sl Nd) 0=d k from rfl,jp,jq,jj,Va _ _ (mkS fs) (Zd:fs.length<=1000000),g0];by_cases h2:(zW n).T_=lit [111,119,110]
      · by_cases m:0<=Zg fs k.T_
        ·simp only[mkS,h2,m,and_self,js,jq,jm,jj];rw[show({xs:=a,nn:= !a.isEmpty}:Sl PF)=mkS a from rfl,xZ Zd ji];simp only[jj,jm,v,mkS]
        ·simp only[mkS,h2,m,and_false,jr,jk,jq,jp,jo,jj]
      ·simp only[h2,false_and,jk,jp,jo,jj])
  (λi hi a a' o e=>by
    unfold Y0 at e;split at e
    ·cases e
    split at e
    ·cases e;simp;omega
    split at e
    ·cases e;simp;omega
    ·cases e)
  (λa _=>by
    unfold zjf q9g;simp only[jl,zm]
    rw[jx (show¬ ((fs.length:Int) < Sl.len (mkS fs)) by show¬ ((fs.length:Int) < (fs.length:Int));omega)])
  (a:=[]) rfl
 grind
theorem zmT {fs:Sl Nd}(o:fs.xs.length<=20000) (p:cs.length<=20000) (j:∀c∈cs,zcC c) (z h:Hd) (fl:Sl PF) :
    lpO zjg (fs,mkS cs,Sl.len (mkS cs),0,z,h,fl,mkS [])=d (match cs.foldlM (YJ fs.xs h.2) [] with | .error e =>.inl e | .ok l =>.inr (z,h,fl,mkS l)):=by
 have:=zlT (f:=zjg) (xs:=cs) (step:=YJ fs.xs h.2) (st:=λi a=>(fs,mkS cs,Sl.len (mkS cs),(i:Int),z,h,fl,mkS a)) (fin:=λa =>.inr (z,h,fl,mkS a)) (er :=.inl) (I:=λi a=>a.length<=2 * i)
  (λi hi a n=>by
    unfold zjg q9h;have m:=zu (k:=i) Zd;simp only[jl];rw[jv (show((i:Int) < Sl.len (mkS cs)) by show(i:Int) < (cs.length:Int);omega),ze (s:=mkS cs) hi];simp only[jj,zm,show(mkS cs).xs[i]=cs[i] from rfl];rw[zuh Zd (j cs[i] (gc hi)) h fl a Zd];simp only[jj];cases YJ fs.xs h.2 a cs[i] with
    |error e=>rfl
    |ok l=>simp only[jm,m])
  (λi hi a a' n e=>by
    unfold YJ at e;cases b:yA fs.xs h.2 cs[i] (zW cs[i]) with
    |error er=>rw[b] at e;cases e
    |ok v=>
     cases g:yA fs.xs h.2 cs[i] (V9 cs[i]) with
     |error er=>rw[b,g] at e;cases e
     |ok w=>
      rw[b,g] at e;cases e;have:=zaz cs[i].T_ v w (zW cs[i]).n_ (V9 cs[i]).n_
      simp only[jy];omega)
  (λa _=>by
    unfold zjg q9h;simp only[jl]
    rw[jx (show¬ ((cs.length:Int) < Sl.len (mkS cs)) by show¬ ((cs.length:Int) < (cs.length:Int));omega)])
  (a:=[]) je
 rw[show(0:Int)=((0:Nat):Int) from rfl,this];cases cs.foldlM (YJ fs.xs h.2) []<;>rfl
theorem zd0(h:wE n):∃s fs cs,n.K_=⟨s::(fs++cs),B⟩/\n.K_.xs.filter (isK 3)=fs/\n.K_.xs.filter (isK 4)=cs/\zje s/\(∀f∈fs,zbu f)/\∀c∈cs,zcC c:=by
 obtain⟨_,s,fs,cs,e,hs,b,a⟩:=h;refine⟨s,fs,cs,e,?_,?_,hs,b,a⟩
 ·rw[e];have h1:fs.filter (isK 3)=fs:=U.2 λf h=>by simp[isK,(b f h).1]
  have h2:cs.filter (isK 3)=[]:=V.2 λc h=>by simp[isK,(a c h).1]
  simp only[M,W,h1,h2,isK,hs.1,List.append_nil];rfl
 ·rw[e];have h1:fs.filter (isK 4)=[]:=V.2 λf h=>by simp[isK,(b f h).1]
  have h2:cs.filter (isK 4)=cs:=U.2 λc h=>by simp[isK,(a c h).1]
  simp only[M,W,h1,h2,isK,hs.1];rfl
theorem zxd {t:Sl PT}(k:wE n) (q:t.xs.length<=20000) (p:n.K_.xs.length<=20000) :
    q6p (t,n)=d (match xh t.xs n with | .error e =>.inl e | .ok x =>.inr ((x.N_,x.S_,x.o_),x.E_,x.U_)):=by
 unfold q6p qc6;simp only[zm];rw[zuf n Zd];obtain⟨s,fs,cs,c,g,f,hs,j,o⟩:=zd0 k;have h:zW n=s:=by unfold zW;rw[c];rfl
 have a:(s::(fs++cs)).length<=20000:=by have:=p;rw[c] at this;exact this
 simp only[jz,jy] at a;unfold xh;rw[g,f];simp only[jj,zcD t _ Zd,vb,jl];by_cases h0:0<=idT n.T_ t.xs
 ·simp only[(Zd:¬ (idT n.T_ t.xs < 0)),h0,jq,jp,jo]
 simp only[(Zd:idT n.T_ t.xs < 0),h0,jq,jp,jm];by_cases i:8 < fs.length
 ·simp only[show¬ (Sl.len (mkS fs)<=8) by show¬ ((fs.length:Int)<=8);omega,i,jq,jp,jo]
 simp only[show Sl.len (mkS fs)<=8 by show(fs.length:Int)<=8;omega,i,jq,jp,jm];rw[show(C [] false:Sl PF)=mkS [] from rfl,zmS Zd (by rw[c];simp) j];simp only[jj];cases u:fs.foldlM (Y0 (zW n) fs) [] with
 |error e=>rfl
 |ok fl=>
  simp only[jm,D];rw[show za n.K_ 0=d s by rw[c];rfl,h];simp only[jj,zm];obtain⟨w,m⟩:=zug (t:=t) (s:=s) (fs:=mkS fs) (cs:=mkS cs) hs Zd (Zd:fs.length<=100000) (Zd:cs.length<=100000) n.T_ (mkS fl) (C [] F);rw[m];simp only[jj,show(mkS fs).xs=fs from rfl,show(mkS cs).xs=cs from rfl];cases r:xY t.xs s fs cs with
  |error e=>rfl
  |ok b=>
   simp only[jm];rw[show(C [] false:Sl PL)=mkS [] from rfl];rw[zmT (fs:=mkS fs) (Zd:fs.length<=20000) Zd o _ (n.T_,b.1,b.2)];simp only[jj,show(mkS fs).xs=fs from rfl];cases v:cs.foldlM (YJ fs (b.1,b.2)) [] with
   |error e=>rfl
   |ok l=>rfl
theorem zaA {st:Nat->A->S}{fin:A->R}{er:A->E->R}
    (h:∀i (hi:i < xs.length) a,I i a->f (st i a)=d (match step a xs[i] with | .ok a' =>.next (st (i+1) a') | .error e =>.done (er a e)))
    (g:∀i (hi:i < xs.length) a a',I i a->step a xs[i] = .ok a'->I (i+1) a') (h0:∀a,I xs.length a->f (st xs.length a)=d (.done (fin a))) {a:A} (c:I 0 a) :
    match xs.foldlM step a with | .ok a'=>lpO f (st 0 a)=d (fin a')/\I xs.length a' | .error e=>∃(i:Nat) (a':A),I i a'/\i < xs.length/\lpO f (st 0 a)=d (er a' e):=by
 have:∀(n i:Nat) (a:A),i+n=xs.length->I i a->match(xs.drop i).foldlM step a with | .ok a'=>lpO f (st i a)=d (fin a')/\I xs.length a' | .error e=>∃(j:Nat) (a':A),I j a'/\j < xs.length/\lpO f (st i a)=d (er a' e):=by
  intro n
  induction n with
  |zero=>
   intro i a hi c;obtain rfl:i=xs.length:=Zd
   rw[Uy (UD _)];exact⟨zw (h0 a c),c⟩
  |succ n k=>
   intro i a hi c;have b:i < xs.length:=Zd
   have h1:=h i b a c;rw[Di b,H];cases hs:step a xs[i] with
   |error e=>rw[hs] at h1;exact⟨i,a,c,b,zw h1⟩
   |ok a'=>
    rw[hs] at h1;rw[zB h1];exact k (i+1) a' Zd (g i b a a' c hs)
 have h2:=this xs.length 0 a Zd c
 rwa [Dk] at h2
noncomputable abbrev zgX:=qdb q6p q8m q7g
theorem zui (g:∀k∈n.K_.xs,k.k_=1->wE k/\k.K_.xs.length<=20000) (p:n.K_.xs.length<=20000) :
    q77 n=d (match zbv n.K_.xs with | .error e=>(e.1,e.2,nilS) | .ok t=>(0,0,mkS t)):=by
 have:=zaA (f:=zgX) (xs:=n.K_.xs) (step:=λt k=>if k.k_=1 then(xh t k).bind λx =>.ok (t++[x]) else .ok t) (st:=λi a=>(n.K_,n.K_.len,(i:Int),n,0,0,mkS a))
  (fin:=λa =>.inr (n,0,0,mkS a)) (er:=λa e =>.inl (e,n,0,0,mkS a)) (I:=λi a=>a.length<=i)
  (λi hi a o=>by
    unfold zgX qdb;have c:=zu (k:=i) Zd;simp only[jl,zm];rw[jv (show((i:Int) < Sl.len n.K_) by show(i:Int) < (n.K_.xs.length:Int);omega),ze hi];simp only[jj,zm];by_cases h1:n.K_.xs[i].k_=1
    · obtain⟨l,g2⟩:=g _ (gc hi) h1;simp only[h1,jq];rw[zxd l (Zd:a.length<=20000) g2];simp only[show(mkS a).xs=a from rfl];cases xh a n.K_.xs[i] with
      |error e=>simp only[jj,jo,ZJ];rfl
      |ok x=>
       simp only[jj,jm,D];rw[show qa.mk x.N_ x.S_ x.o_ x.E_ x.U_=x from rfl,xZ Zd ji];simp only[jj,jm,ZJ,c]
    ·simp only[h1,jp,jj,jm,c])
  (λi hi a a' o e=>by
    split at e
    · cases b:xh a n.K_.xs[i] with
      |error er=>rw[b] at e;cases e
      |ok x=>rw[b] at e;cases e;simp;omega
    ·cases e;omega)
  (λa _=>by
    unfold zgX qdb;simp only[jl,zm]
    rw[jx (show¬ ((n.K_.xs.length:Int) < Sl.len n.K_) by show¬ ((n.K_.xs.length:Int) < (n.K_.xs.length:Int));omega)])
  (a:=[]) je
 unfold q77 qeq;simp only[zm];show((lpO zgX (n.K_,n.K_.len,((0:Nat):Int),n,0,0,mkS [])).bind _)=_;unfold zbv;cases e:n.K_.xs.foldlM (m:=Except Er) (λt k=>if k.k_=1 then(xh t k).bind λx =>.ok (t++[x]) else .ok t) [] with
 |error er=>
  rw[e] at this;obtain⟨j,a,_,_,h⟩:=this;rw[h];rfl
 |ok t=>
  rw[e] at this;rw[this.1];rfl
abbrev RTy:=qd
def rF(x:PF):qn:=⟨x.N_,x.z_⟩
def rQ(x:PL):qu:=⟨x.X_,x.Y_,x.C_⟩
def slm(f:α->β)(s:Sl α):Sl β:=⟨s.xs.map f,s.nn⟩
def rT(x:PT):RTy:=⟨x.N_,x.S_,x.o_,slm rF x.E_,slm rQ x.U_⟩
theorem zr1(f:α->β)(l:List α):slm f (mkS l)=mkS (l.map f):=by cases l<;>rfl
theorem YQ(l:List α):(mkS l).len=(l.length:Int):=rfl
theorem Xd{f:α->β}(h:i < l.length):za (mkS (l.map f)) (i:Int)=d (f l[i]):=by
 rw[ze (s:=mkS (l.map f)) (by simpa[mkS] using h)];simp[mkS]
theorem z6(n:Nd):(rN n).T_=n.T_:=by rw[yo]
theorem ZU(n:Nd):(rN n).k_=n.k_:=by rw[yo]
theorem Y1(n:Nd):(rN n).a_=n.a_:=by rw[yo]
theorem zxe(n:Nd):(rN n).n_=n.n_:=by rw[yo]
theorem zJ(n:Nd):(rN n).K_=⟨n.K_.xs.map rN,n.K_.nn⟩:=by rw[yo,yt]
theorem zaB(t:List PT)(n:Ut)(a:t.length<=1000000):q1b (mkS (t.map rT),n)=d (idT n t):=by
 have:=wh (f:=q5z) (xs:=t) (p:=λx=>decide (x.N_=n)) (st:=λi=>(mkS (t.map rT),n,(i:Int))) (yes:=λi =>.inl (i:Int)) (no :=.inr ())
  (λi hi=>by
   unfold q5z;simp only[jl,YQ,Dt];rw[jv Zd,Xd hi,jj,zu Zd]
   by_cases h:t[i].N_=n<;>simp[h,rT])
  (by unfold q5z;simp only[jl,YQ,Dt];grind)
 show((lpO q5z (mkS (t.map rT),n,((0:Nat):Int))).bind _)=_;rw[this];unfold idT idx;cases t.findIdx? _<;>rfl
theorem Ve(fs:List Nd)(n:Ut)(c:fs.length<=1000000):q1f (mkS (fs.map rN),n)=d (Zg fs n):=by
 have:=wh (f:=q54) (xs:=fs) (p:=λx=>decide (x.T_=n) && decide (x.K_.len=0)) (st:=λi=>(mkS (fs.map rN),n,(i:Int))) (yes:=λi =>.inl (i:Int)) (no :=.inr ())
  (λi hi=>by
   unfold q54;simp only[jl,YQ,Dt];rw[jv Zd,Xd hi];simp only[jj,z6,zJ];have a:Sl.len (⟨fs[i].K_.xs.map rN,fs[i].K_.nn⟩:Sl RNd)=fs[i].K_.len:=by simp[Sl.len]
   have b:=zu (k:=i) Zd;rw[a];by_cases h:fs[i].T_=n
   ·by_cases h2:fs[i].K_.len=0<;>simp only[h,h2,jq,jp,js,jr,jj,Bool.and_self,Bool.and_false,jk,b]
   grind)
  (by unfold q54;simp only[jl,YQ,Dt];grind)
 show((lpO q54 (mkS (fs.map rN),n,((0:Nat):Int))).bind _)=_;rw[this];unfold Zg idx;cases fs.findIdx? _<;>rfl
theorem zyT{acc:List Nd}{x:Nd}(h:acc.length<=50000):zo 64 (mkS (acc.map rN)) [rN x]=d (mkS ((acc++[x]).map rN)):=by
 rw[xZ Zd ji];simp
theorem zlV(n:Nd)(k:Int)(h:n.K_.xs.length<=40000):q1h (rN n,k)=d (mkS ((n.K_.xs.filter (isK k)).map rN)):=by
 have:=zaA (E:=Er) (f:=q7h) (xs:=n.K_.xs) (A:=List Nd) (step:=λa x =>.ok (if isK k x then a++[x] else a)) (st:=λi a=>(k,(i:Int),rN n,mkS (a.map rN))) (fin:=λa=>mkS (a.map rN)) (er:=λ_ _=>mkS []) (I:=λi a=>a.length<=i)
  (λi hi a c=>by
   unfold q7h;simp only[jl,zj];have b:za (rN n).K_ (i:Int)=d (rN n.K_.xs[i]):=by rw[zJ,ze (by simpa using hi)];simp
   rw[jv (by rw[zJ];simp[Sl.len];omega),b];simp only[jj,ZU,isK,jl];have g:=zu (k:=i) Zd;by_cases h2:n.K_.xs[i].k_=k
   ·simp only[h2,jq];rw[zyT Zd];grind
   grind)
  (λi hi a a' c e=>jE)
  (λa _=>by unfold q7h;simp only[jl];rw[jx (by rw[zJ];simp[Sl.len])])
  (a:=[]) je
 have e:∀(l a:List Nd),l.foldlM (m:=Except Er) (λ(a:List Nd) x =>.ok (if isK k x then a++[x] else a)) a = .ok (a++l.filter (isK k)):=by
  intro l
  induction l with
  |nil=>intro a;simp;rfl
  |cons x l j=>
   intro a;rw[H];show K _ (if isK k x then a++[x] else a) l=_;grind
 rw[e] at this;unfold q1h q9y;simp only[zj];rw[show(0:Int)=((0:Nat):Int) from rfl,show(C [] false:Sl RNd)=mkS (([]:List Nd).map rN) from rfl,this.1];simp
theorem zjh{acc:List PL}{x:PL}(h:acc.length<=50000):zo 24 (mkS (acc.map rQ)) [rQ x]=d (mkS ((acc++[x]).map rQ)):=by
 rw[xZ Zd ji];simp
theorem zr2{c:Ut}(e:c=lit [60]\/c=lit [60,61]\/c=lit [61,61])(a b k l:Int):q1e (c,a,b,k,l)=d (mkS ((Vb c a b k l).map rQ)):=by
 unfold q1e q8v Vb;rcases e with rfl | rfl | rfl
 ·simp (decide:=true) only [jq,jp,jj,js,jr,jk];rfl
 ·simp (decide:=true) only [jq,jp,jj,js,jr,jk];rw[show(C [] false:Sl qu)=mkS (([]:List PL).map rQ) from rfl,show qu.mk a b (Uw (l - k))=rQ ⟨a,b,Uw (l - k)⟩ from rfl,zjh je];rfl
 ·simp (decide:=true) only [jq,jp,jj,js,jr,jk];rw[show(C [] false:Sl qu)=mkS (([]:List PL).map rQ) from rfl,show qu.mk a b (Uw (l - k))=rQ ⟨a,b,Uw (l - k)⟩ from rfl,zjh je];simp only[jj];rw[show qu.mk b a (Uw (k - l))=rQ ⟨b,a,Uw (k - l)⟩ from rfl,zjh je];rfl
noncomputable abbrev zpp:=q6f q1h q1b q1f q1e
noncomputable abbrev zlW:=q59 q1h q1b q1f q1e
noncomputable abbrev zpq:=qax q1h q1b q1f q1e
noncomputable abbrev zpr:=q6g q1h q1b q1f q1e
noncomputable abbrev zlX:=q4h q1h q1b q1f q1e
theorem zxf (hi:i<=fs.length) (c:fs.length<=20000) (f:Nd) (T:Sl RTy) (z:Hd) (cs:Sl RNd) (s:RNd) (h:Hd) (fl:Sl qn) :
    lpO zpp ((i:Int),0,T,z,mkS (fs.map rN),cs,s,h,rN f,fl)=d (if 0<=idN f.T_ (fs.take i) then .inl (f.a_,30,T,h,fl) else .inr ((i:Int),T,z,mkS (fs.map rN),cs,s,h,rN f,fl)):=by
 have a:(fs.take i).length=i:=ji
 have:=wh (f:=zpp) (xs:=fs.take i) (p:=λx=>decide (x.T_=f.T_)) (st:=λk=>((i:Int),(k:Int),T,z,mkS (fs.map rN),cs,s,h,rN f,fl)) (yes:=λ_ =>.inl (f.a_,30,T,h,fl)) (no :=.inr ((i:Int),T,z,mkS (fs.map rN),cs,s,h,rN f,fl))
  (λk b=>by
    rw[a] at b;unfold zpp q6f;simp only[jl,zj];rw[jv Zd,Xd Zd];simp only[jj,z6,Y1,List.getElem_take];rw[zu Zd]
    grind)
  (by unfold zpp q6f;simp only[jl,zj,a];grind)
 rw[show(0:Int)=((0:Nat):Int) from rfl,this];unfold idN idx;cases(fs.take i).findIdx? _ with
 |none=>simp
 |some j=>simp
theorem zvm{acc:List PF}{x:PF}(h:acc.length<=50000):zo 24 (mkS (acc.map rF)) [rF x]=d (mkS ((acc++[x]).map rF)):=by
 rw[xZ Zd ji];simp
theorem zxg (p:fs.length<=20000) (s:Nd) (q:∀f∈fs,zbu f) (T:Sl RTy) (z:Hd) (cs:Sl RNd) (h:Hd) :
    match fs.foldlM (Y0 s fs) [] with
    | .ok l=>lpO zlW (0,T,z,mkS (fs.map rN),cs,rN s,h,mkS [])=d (.inr (T,z,mkS (fs.map rN),cs,rN s,h,mkS (l.map rF)))
    | .error e=>∃w,lpO zlW (0,T,z,mkS (fs.map rN),cs,rN s,h,mkS [])=d (.inl (e.1,e.2,T,h,w)):=by
 have:=zaA (f:=zlW) (xs:=fs) (step:=Y0 s fs) (st:=λi a=>((i:Int),T,z,mkS (fs.map rN),cs,rN s,h,mkS (a.map rF))) (fin:=λa =>.inr (T,z,mkS (fs.map rN),cs,rN s,h,mkS (a.map rF))) (er:=λa e =>.inl (e.1,e.2,T,h,mkS (a.map rF))) (I:=λi a=>a.length=i)
  (λi hi a o=>by
    unfold zlW q59;have j:=q fs[i] (gc hi);have r:=zu (k:=i) Zd;simp only[jl,zj,YQ,Dt];rw[jv Zd,Xd hi];simp only[jj];have h0:=zxf (i:=i) (Nat.le_of_lt hi) p fs[i] T z cs (rN s) h (mkS (a.map rF));rw[show lpO (q6f q1h q1b q1f q1e) ((i:Int),0,T,z,mkS (fs.map rN),cs,rN s,h,rN fs[i],mkS (a.map rF))=_ from h0];simp only[jj,Y0,o];by_cases h1:0<=idN fs[i].T_ (fs.take i)
    ·grind
    simp only[h1,jp,jm];obtain⟨_,g | ⟨k,c,_⟩⟩:=j
    · have b:(rN fs[i]).K_.len=0:=by rw[zJ,g];rfl
      simp (decide:=true) only [b,jp,jm,jj,z6,show qn.mk fs[i].T_ (-1)=rF ⟨fs[i].T_, -1⟩ from rfl];rw[zvm Zd];grind
    · have m:¬ fs[i].K_.xs=[]:=by rw[c];simp
      have e0:zW fs[i]=k:=by unfold zW;rw[c];rfl
      have b:(rN fs[i]).K_=⟨[rN k],B⟩:=by rw[zJ,c];rfl
      simp only[m,jp,e0];simp (decide:=true) only [b,show Sl.len (⟨[rN k],B⟩:Sl RNd)=1 from rfl,show za (⟨[rN k],B⟩:Sl RNd) 0=d (rN k) from rfl,jq,jj,z6,Y1,Ve fs _ (Zd:fs.length<=1000000)];by_cases h2:s.T_=lit [111,119,110]
      · by_cases n:0<=Zg fs k.T_
        ·simp only[z6,h2,n,Dc,jt,jp,and_self,jq,(Zd:¬ (Zg fs k.T_ < 0)),jk,jm,jj,jr,show qn.mk fs[i].T_ (Zg fs k.T_)=rF ⟨fs[i].T_,Zg fs k.T_⟩ from rfl];rw[zvm Zd];grind
        ·simp only[Y1,h2,n,Dc,jt,jp,and_false,jq,(Zd:Zg fs k.T_ < 0),jo,jj,js]
      ·simp only[Y1,h2,Dc,ju,jq,false_and,jp,jo,jj])
  (λi hi a a' o e=>by
    unfold Y0 at e;split at e
    all_goals grind)
  (λa _=>by
    unfold zlW q59;simp only[jl,zj,YQ,Dt]
    grind)
  (a:=[]) rfl
 cases e:fs.foldlM (Y0 s fs) [] with
 |error er=>grind
 |ok l=>grind
def spc(a:Int×Int):Int:=if a.1=2\/a.1=3 then a.2 else -1
theorem znA (s:fs.length<=20000) (hi:i < cs.length) {k:Nd}{j:Int}(f:j=0\/j=1) (n:za (rN cs[i]).K_ j=d (rN k)) (T:Sl RTy) (z h:Hd) (v0 b:Int) (w:Sl qn) (q:Sl qu) :
    zpq (spc h.2,(i:Int),j,T,z,mkS (fs.map rN),mkS (cs.map rN),h,⟨[v0,b],B⟩,w,q)=d (match yA fs h.2 cs[i] k with
     | .error e =>.done (.inl (e.1,e.2,T,h,w,q))
     | .ok v =>.next (spc h.2,(i:Int),j+1,T,z,mkS (fs.map rN),mkS (cs.map rN),h,⟨[if k.T_=lit [] then v0 else if j=0 then v else v0,if k.T_=lit [] then b else if j=0 then b else v],B⟩,w,q)):=by
 unfold zpq qax;have t:Zg fs k.T_ < fs.length:=yC.2.1;have p : -1<=Zg fs k.T_:=yC.1;have o:Uw (j+1)=j+1:=zF Zd Zd;have c:Uw (Zg fs k.T_+1)=Zg fs k.T_+1:=zF Zd Zd;have r:∀x y:Int,∃u,za (⟨[x,y],B⟩:Sl Int) j=d u:=λx y=>by rcases f with rfl | rfl<;>exact⟨_,rfl⟩
 have hs:∀x y u:Int,Sl.set (⟨[x,y],B⟩:Sl Int) j u=⟨[if j=0 then u else x,if j=0 then y else u],B⟩:=λx y u=>by rcases f with rfl | rfl<;>rfl
 simp only[jl];rw[jv Zd,Xd hi];simp only[jj,n,z6,Y1,Ve fs _ (Zd:fs.length<=1000000),yA];by_cases l:k.T_=lit []
 ·grind
 simp only[l,jp];by_cases h0:0<=Zg fs k.T_
 case neg=>simp only[Xd hi,Y1,(Zd:Zg fs k.T_ < 0),h0,jq,jp,false_and,jj,jm]
 have a:(Zg fs k.T_=spc h.2)=((h.2.1=2\/h.2.1=3)/\Zg fs k.T_=h.2.2):=by
  unfold spc;grind
 obtain⟨u,m⟩:=r v0 b;by_cases g:(h.2.1=2\/h.2.1=3)/\Zg fs k.T_=h.2.2
 ·simp only[Xd hi,Y1,(Zd:¬ (Zg fs k.T_ < 0)),h0,jp,U9,a,eq_true g,jq,jt,and_self,js,jj,jm]
 ·simp only[(Zd:¬ (Zg fs k.T_ < 0)),h0,jp,U9,a,eq_false g,jq,ju,jr,jk,jj,jo,m,hs,o,c]
theorem zxh (b:Int) (i:Int) (T:Sl RTy) (z h:Hd) (fs cs:Sl RNd) (fl:Sl qn) (l acc:List PL) (g:acc.length+l.length<=50000) :
    lpO zpr (b,i,0,T,z,fs,cs,h,mkS (l.map rQ),fl,mkS (acc.map rQ))=d (b,i,T,z,fs,cs,h,fl,mkS ((acc++l).map rQ)):=by
 have:=zaA (E:=Er) (f:=zpr) (xs:=l) (step:=λa x =>.ok (a++[x])) (st:=λk a=>(b,i,(k:Int),T,z,fs,cs,h,mkS (l.map rQ),fl,mkS (a.map rQ))) (fin:=λa=>(b,i,T,z,fs,cs,h,fl,mkS (a.map rQ))) (er:=λa _=>(b,i,T,z,fs,cs,h,fl,mkS (a.map rQ))) (I:=λk a=>a.length=acc.length+k)
  (λk c a g=>by
    unfold zpr q6g;simp only[jl,YQ,Dt];rw[jv Zd,Xd c];simp only[jj]
    rw[zjh Zd,jj,zu Zd])
  (λk c a a' g e=>jE)
  (λa _=>by unfold zpr q6g;simp only[jl,YQ,Dt];grind)
  (a:=acc) rfl
 have e:∀(l a:List PL),l.foldlM (m:=Except Er) (λ(a:List PL) x =>.ok (a++[x])) a = .ok (a++l):=by
  intro l
  induction l with
  |nil=>intro a;simp;rfl
  |cons x l j=>intro a;rw[H];show K _ (a++[x]) l=_;rw[j];simp
 grind
theorem zxi (p:fs.length<=20000) (R:cs.length<=20000) (u:∀c∈cs,zcC c) (T:Sl RTy) (z h:Hd) (fl:Sl qn) :
    match cs.foldlM (YJ fs h.2) [] with
    | .ok l=>lpO zlX (spc h.2,0,T,z,mkS (fs.map rN),mkS (cs.map rN),h,fl,mkS [])=d (.inr (T,z,h,fl,mkS (l.map rQ)))
    | .error e=>∃w,lpO zlX (spc h.2,0,T,z,mkS (fs.map rN),mkS (cs.map rN),h,fl,mkS [])=d (.inl (e.1,e.2,T,h,fl,w)):=by
 have:=zaA (f:=zlX) (xs:=cs) (step:=YJ fs h.2) (st:=λi a=>(spc h.2,(i:Int),T,z,mkS (fs.map rN),mkS (cs.map rN),h,fl,mkS (a.map rQ))) (fin:=λa =>.inr (T,z,h,fl,mkS (a.map rQ))) (er:=λa e =>.inl (e.1,e.2,T,h,fl,mkS (a.map rQ))) (I:=λi a=>a.length<=2 * i)
  (λi hi a G=>by
    unfold zlX q4h;have S:=zu (k:=i) Zd;obtain⟨_,s,x,y,o,_,_⟩:=u cs[i] (gc hi);have E:zW cs[i]=x:=by unfold zW;rw[o];rfl
    have A:V9 cs[i]=y:=by unfold V9 zW;rw[o];rfl
    have m:(rN cs[i]).K_=⟨[rN x,rN y],B⟩:=by rw[zJ,o];rfl
    have g0:za (rN cs[i]).K_ 0=d (rN x):=by rw[m];rfl
    have r:za (rN cs[i]).K_ 1=d (rN y):=by rw[m];rfl
    have j:=znA p hi (.inl rfl) g0 T z h 0 0 fl (mkS (a.map rQ));simp only[jl,YQ,Dt];rw[jv Zd];unfold YJ;rw[E,A];show N (lpO zpq _) _=_;cases e0:yA fs h.2 cs[i] x with
    |error er=>rw[e0] at j;rw[zw j];rfl
    |ok v=>
     rw[e0] at j;have g:=znA p hi (.inr rfl) r T z h v 0 fl (mkS (a.map rQ));have L:(if x.T_=lit [] then(0:Int) else v)=v:=by
      split
      ·rename_i h0;unfold yA at e0;grind
      ·rfl
     simp only[jq,L,ite_self] at j;rw[zB j];show N (lpO zpq (spc h.2,(i:Int),1,T,z,mkS (fs.map rN),mkS (cs.map rN),h,⟨[v,0],B⟩,fl,mkS (a.map rQ))) _=_;cases b:yA fs h.2 cs[i] y with
     |error er=>rw[b] at g;rw[zw g];rfl
     |ok w=>
      rw[b] at g;have n:(if y.T_=lit [] then(0:Int) else w)=w:=by
       split
       ·rename_i h0;unfold yA at b;grind
       ·rfl
      simp (decide:=true) only [jp,n,ite_self] at g;rw[zB g,zw (y :=.inr (spc h.2,(i:Int),T,z,mkS (fs.map rN),mkS (cs.map rN),h,⟨[v,w],B⟩,fl,mkS (a.map rQ))) rfl];have t:=zaz cs[i].T_ v w x.n_ y.n_;simp only[jj,jm,Xd hi,g0,r,z6,zxe,show za (⟨[v,w],B⟩:Sl Int) 0=d v from rfl,show za (⟨[v,w],B⟩:Sl Int) 1=d w from rfl,zr2 s,D];rw[show lpO (q6g q1h q1b q1f q1e) _=_ from zxh _ _ _ _ _ _ _ _ (Vb cs[i].T_ v w x.n_ y.n_) a Zd]
      grind)
  (λi hi a a' G e=>by
    unfold YJ at e;cases b:yA fs h.2 cs[i] (zW cs[i]) with
    |error er=>rw[b] at e;cases e
    |ok v=>
     cases q:yA fs h.2 cs[i] (V9 cs[i]) with
     |error er=>rw[b,q] at e;cases e
     |ok w=>
      rw[b,q] at e;cases e;have:=zaz cs[i].T_ v w (zW cs[i]).n_ (V9 cs[i]).n_
      grind)
  (λa _=>by
    unfold zlX q4h;simp only[jl,YQ,Dt]
    grind)
  (a:=[]) je
 cases e:cs.foldlM (YJ fs h.2) [] with
 |error er=>grind
 |ok l=>grind
theorem zyU {t:List PT}(hg:wE n) (ht:t.length<=20000) (hn:n.K_.xs.length<=20000) :
    ∃w:Er->RTy,q4p (rN n,mkS (t.map rT))=d (match xh t n with | .error e=>(w e,e.1,e.2,mkS (t.map rT)) | .ok x=>(rT x,0,0,mkS (t.map rT))):=by
 obtain⟨s,fs,cs,hk,hf3,hc4,hs,hf,hc⟩:=zd0 hg;have hks:zW n=s:=by unfold zW;rw[hk];rfl
 have hlen:(s::(fs++cs)).length<=20000:=by grind
 simp only[jz,jy] at hlen;unfold q4p qay xh;simp only[zj];rw[zlV n 3 (by omega),zlV n 4 (by omega),hf3,hc4,hks,zaB t _ (by omega)];simp only[jj,z6,Y1,jl,YQ,Dt];rw[show za (rN n).K_ 0=d (rN s) by rw[zJ,hk];rfl];simp only[jj,zj];by_cases h0:0<=idT n.T_ t
 ·simp only[h0,jq];exact⟨λ_=>_,rfl⟩
 simp only[h0,jp];by_cases h8:8 < fs.length
 ·simp only[show(8:Int) < (fs.length:Int) by omega,h8,jq];exact⟨λ_=>_,rfl⟩
 simp only[show¬ ((8:Int) < (fs.length:Int)) by omega,h8,jp];have h1:=zxg (fs:=fs) (by omega) s hf (mkS (t.map rT)) (lit [],0,0) (mkS (cs.map rN)) (n.T_,0,0);rw[show(C [] false:Sl qn)=mkS [] from rfl];cases e1:fs.foldlM (Y0 s fs) [] with
 |error e=>
  rw[e1] at h1;obtain⟨w,h1⟩:=h1;rw[show lpO (q59 q1h q1b q1f q1e) _=_ from h1];exact⟨λ_=>_,rfl⟩
 |ok fl=>
  rw[e1] at h1;simp only at h1;rw[show lpO (q59 q1h q1b q1f q1e) _=_ from h1];simp only[jj,jm,D]
  have fin:∀so:Int×Int,∃w:Er->RTy,((lpO (q4h q1h q1b q1f q1e) (spc so,0,mkS (t.map rT),(lit [],0,0),mkS (fs.map rN),mkS (cs.map rN),(n.T_,so.1,so.2),mkS (fl.map rF),C [] F)).bind λy78=>
      Sum.elim (λy79=>d (qd.mk y79.2.2.2.1.1 y79.2.2.2.1.2.1 y79.2.2.2.1.2.2 y79.2.2.2.2.1 y79.2.2.2.2.2,y79.1,y79.2.1,y79.2.2.1)) (λy80=>d (qd.mk y80.2.2.1.1 y80.2.2.1.2.1 y80.2.2.1.2.2 y80.2.2.2.1 y80.2.2.2.2,0,0,y80.1)) y78) =
      d (match(cs.foldlM (YJ fs so) []).bind λfa=>(.ok ⟨n.T_,so.1,so.2,mkS fl,mkS fa⟩:Except Er PT) with | .error e=>(w e,e.1,e.2,mkS (t.map rT)) | .ok x=>(rT x,0,0,mkS (t.map rT))):=by
   intro so;have h4:=zxi (fs:=fs) (cs:=cs) (by omega) (by omega) hc (mkS (t.map rT)) (lit [],0,0) (n.T_,so.1,so.2) (mkS (fl.map rF));rw[show(C [] false:Sl qu)=mkS [] from rfl];cases e4:cs.foldlM (YJ fs so) [] with
   |error e=>
    rw[show((n.T_,so.1,so.2):Hd).2=so from rfl,e4] at h4;obtain⟨w,h4⟩:=h4;rw[show lpO (q4h q1h q1b q1f q1e) _=_ from h4];exact⟨λ_=>_,rfl⟩
   |ok l=>
    rw[show((n.T_,so.1,so.2):Hd).2=so from rfl,e4] at h4;simp only at h4;rw[show lpO (q4h q1h q1b q1f q1e) _=_ from h4];refine⟨λ_=>⟨lit [],0,0,mkS [],mkS []⟩,?_⟩;simp only[jj,jm,D,rT,zr1]
  have i0:idx (λw=>decide (lit [111,119,110]=w)) Yk=0:=by decide +kernel
  have i1:idx (λw=>decide (lit [99,101,108,108]=w)) Yk=1:=by decide +kernel
  have i2:idx (λw=>decide (lit [99,111,117,110,116,101,100]=w)) Yk=2:=by decide +kernel
  have i3:idx (λw=>decide (lit [108,111,99,107]=w)) Yk=3:=by decide +kernel
  have i4:idx (λw=>decide (lit [103,117,97,114,100]=w)) Yk=4:=by decide +kernel
  obtain⟨kd,tx,nu,a,ks⟩:=s;obtain⟨_,hs⟩:=hs;simp only at hs;have g0:∀(k:Nd),za (rN ⟨kd,tx,nu,a,⟨[k],B⟩⟩).K_ 0=d (rN k):=λk=>by rw[zJ];rfl
  obtain⟨rfl | rfl,rfl⟩ | ⟨w,hw,rfl,k,rfl,_⟩:=hs
  ·unfold xY;simp (decide:=true) only [i0,jj,jp,jq,jm,jo,jr,jk,Z9,z6];exact fin (0,0)
  ·unfold xY;simp (decide:=true) only [i1,jj,jp,jq,jm,jo,jr,jk,Z9,z6];exact fin (1,0)
  simp only[zev,UU,Q,or_false] at hw;rcases hw with rfl | rfl | rfl
  · unfold xY;simp (decide:=true) only [i2,jj,jp,jq,jm,jo,jr,js,jk,Z9,z6,Y1,g0,Ve fs _ (show fs.length<=1000000 by omega),zW,Dj];by_cases h:0<=Zg fs k.T_
    ·simp only[h,show¬ (Zg fs k.T_ < 0) by omega,jq,jp,jm,jo,jj];have:=fin (2,Zg fs k.T_);simp (decide:=true) only [spc,jq,or_false] at this;exact this
    ·simp only[h,show Zg fs k.T_ < 0 by omega,jq,jp,jm,jo,jj];exact⟨λ_=>_,rfl⟩
  · unfold xY;simp (decide:=true) only [i3,jj,jp,jq,jm,jo,jr,js,jk,Z9,z6,Y1,g0,Ve fs _ (show fs.length<=1000000 by omega),zW,Dj];by_cases h:0<=Zg fs k.T_
    ·simp only[h,show¬ (Zg fs k.T_ < 0) by omega,jq,jp,jm,jo,jj];have:=fin (3,Zg fs k.T_);simp (decide:=true) only [spc,jq,or_true] at this;exact this
    ·simp only[h,show Zg fs k.T_ < 0 by omega,jq,jp,jm,jo,jj];exact⟨λ_=>_,rfl⟩
  · unfold xY;have hl:idT k.T_ t < t.length:=yC.2.1;simp (decide:=true) only [i4,jj,jp,jq,jm,jo,jr,js,jk,Z9,z6,Y1,g0,zaB t _ (show t.length<=1000000 by omega),zW,Dj];by_cases h:0<=idT k.T_ t
    · obtain⟨j,hj⟩:∃j:Nat,idT k.T_ t=j:=⟨_,(D6 h).symm⟩
      rw[hj] at hl;have hlt:j < t.length:=by omega
      simp only[hj,show(0:Int)<=(j:Int) by omega,show¬ ((j:Int) < 0) by omega,jq,jp,U9,Xd hlt,jj,O,UC hlt,P,rT];by_cases h3:t[j].S_=3
      · simp only[h3,YQ,Dt,jq,jp,jm,jj,Dc,jt];by_cases h0:fs.length+cs.length=0
        ·simp only[h0,show¬ ((0:Int) < (fs.length:Int)) by omega,show¬ ((0:Int) < (cs.length:Int)) by omega,jq,jp,jr,jk,jm,jo,jj];exact fin (4,(j:Int))
        · simp only[h0,jp];by_cases hf0:(0:Int) < (fs.length:Int)
          ·simp only[hf0,jq,jo,jm,jj];exact⟨λ_=>_,rfl⟩
          ·simp only[hf0,show(0:Int) < (cs.length:Int) by omega,jq,jp,js,jo,jm,jj];exact⟨λ_=>_,rfl⟩
      ·simp only[h3,jq,jp,Dc,ju,jo,jm,jj];exact⟨λ_=>_,rfl⟩
    ·simp only[h,show idT k.T_ t < 0 by omega,jq,jp,false_and,jo,jm,jj];exact⟨λ_=>_,rfl⟩
theorem zr3 (R:∀k∈n.K_.xs,k.k_=1->wE k/\k.K_.xs.length<=20000) (hn:n.K_.xs.length<=20000) :
    q3d (rN n)=d (match zbv n.K_.xs with | .error e=>(e.1,e.2,C [] F) | .ok t=>(0,0,mkS (t.map rT))):=by
 have r:∀(t:List PT) (k:Nd) (e:Er),xh t k = .error e->e.2≠0:=by
  intro t k e h;have g:∀{α A:Type} (f:A->α->Except Er A),(∀a x e,f a x = .error e->e.2≠0)->∀(l:List α) (a:A) (e:Er),l.foldlM f a = .error e->e.2≠0:=by
   intro α A f Y l
   induction l with
   |nil=>intro a e h;cases h
   |cons x l S=>
    intro a e h;rw[H] at h;cases y:f a x with
    |error er=>rw[y] at h;cases h;grind
    |ok b=>rw[y] at h;exact S b e h
  unfold xh at h;simp only at h;split at h
  ·cases h;simp
  split at h
  ·cases h;simp
  generalize k.K_.xs.filter (isK 3)=fs at h;generalize k.K_.xs.filter (isK 4)=cs at h;cases o:fs.foldlM (Y0 (zW k) fs) [] with
  |error er=>
   rw[o] at h;cases h;refine g _ (λa x e h=>?_) _ _ _ o;unfold Y0 at h;grind
  |ok fl=>
   rw[o] at h;simp only[D] at h;cases j:xY t (zW k) fs cs with
   |error er=>
    rw[j] at h;cases h;unfold xY at j;simp only at j;split at j
    ·grind
    split at j
    ·grind
    ·cases j
   |ok p=>
    rw[j] at h;simp only at h;cases E:cs.foldlM (YJ fs p) [] with
    |ok Z=>grind
    |error er=>
     rw[E] at h;cases h;refine g _ (λa x e h=>?_) _ _ _ E;have X:∀c k e,yA fs p c k = .error e->e.2≠0:=by
      intro c k e h;unfold yA at h;grind
     unfold YJ at h;cases u:yA fs p x (zW x) with
     |error er=>rw[u] at h;cases h;grind
     |ok v=>
      cases z:yA fs p x (V9 x) with
      |error er=>rw[u,z] at h;cases h;grind
      |ok w=>rw[u,z] at h;cases h
 have:=zaA (f:=q5g q4p) (xs:=n.K_.xs) (step:=λt k=>if k.k_=1 then(xh t k).bind λx =>.ok (t++[x]) else .ok t) (st:=λi a=>((i:Int),rN n,mkS (a.map rT)))
  (fin:=λa =>.inr (mkS (a.map rT))) (er:=λ_ e =>.inl e) (I:=λi a=>a.length<=i)
  (λi hi a L=>by
    unfold q5g;have T:=zu (k:=i) Zd;simp only[jl,zj];have s:za (rN n).K_ (i:Int)=d (rN n.K_.xs[i]):=by rw[zJ,ze (by simpa using hi)];simp
    rw[jv (by rw[zJ];simp[Sl.len];omega),s];simp only[jj,ZU,zj];by_cases h1:n.K_.xs[i].k_=1
    · obtain⟨G,g2⟩:=R _ (gc hi) h1;obtain⟨w,q⟩:=zyU G (Zd:a.length<=20000) g2;simp only[h1,Dc,jt,jp,jq,q,jj];cases e:xh a n.K_.xs[i] with
      |error j=>have:=r _ _ _ e;simp only[this,ju,jq,jj,jm,D]
      |ok x=>
       simp only[jt,jp,D];rw[xZ Zd ji];grind
    grind)
  (λi hi a a' L e=>by
    split at e
    · cases o:xh a n.K_.xs[i] with
      |error er=>rw[o] at e;cases e
      |ok x=>rw[o] at e;cases e;simp;omega
    grind)
  (λa _=>by
    unfold q5g;simp only[jl]
    rw[jx (by rw[zJ];simp[Sl.len])])
  (a:=[]) je
 unfold q3d q8w;simp only[zj];show((lpO (q5g q4p) (((0:Nat):Int),rN n,mkS (([]:List PT).map rT))).bind _)=_;unfold zbv;cases e:n.K_.xs.foldlM (m:=Except Er) (λt k=>if k.k_=1 then(xh t k).bind λx =>.ok (t++[x]) else .ok t) [] with
 |error er=>
  grind
 |ok t=>
  grind
end Go.Px
