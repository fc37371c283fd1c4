/- Part La. -/
import Derived.Test.YtlhommikjhhmbaaGreatDoorA9
set_option linter.unusedVariables false
set_option linter.unusedSimpArgs false
set_option linter.unusedSectionVars false
namespace Go.Px
open Bool renaming true->w,false->D,or_false->L,and_false->W
open Go.Lib renaming indexByte->H,parseUintM->U,parseIntB->V
open Int renaming ofNat_lt->E
open List renaming length->F,drop_drop->G,takeWhile_cons->K,take_drop->Q,isEmpty_cons->R,head?_cons->S,contains_cons->T
open _root_.Option renaming some->d,some->P
open UInt8 renaming toNat_inj->I,toNat_ofNat_of_lt'->N,ofNat->O
variable{X:U3 Bool}{b:Bool}{c:UInt8}{i n:Nat}{l:List UInt8}{s:U0}
abbrev bs(s:U0):List UInt8:=s.data.toList
theorem yi(s:U0):(bs s).length=s.size:=by cases s;simp[bs,ByteArray.size]
theorem zrF{t:U0}(h:bs s=bs t):s=t:=by
 cases s;cases t;congr 1;exact Array.toList_inj.1 h
theorem wy(l:List UInt8):bs (lit l)=l:=rfl
theorem Zv{s β:Type}(f:s->U3 (Step s β))(x:s):lpO f x=(f x).bind fun | .next a=>lpO f a | .done y=>d y:=zsl f x
theorem XM(h:(bs s)[i]?=d c):Zg s (i:Int)=d (c.toNat:Int):=by
 unfold Zg;grind
theorem zap(h:i < l.length):∃c,l[i]?=d c/\l.drop i=c::l.drop (i+1):=
 ⟨l[i],UJ h,Dq h⟩
theorem zpr(s:U0)(i j:Nat):bs (s.extract i j)=((bs s).take j).drop i:=by
 show(s.extract i j).data.toList=_;rw[ByteArray.data_extract];simp[Array.toList_extract,List.extract,Q];by_cases h:i<=j
 ·grind
 ·have h1:j - i=0:=Zc
  rw[h1];simp;omega
theorem zm1{j:Nat}(h1:i<=j)(h2:j<=s.size):ZI s (i:Int) (j:Int)=d (s.extract i j):=by
 unfold ZI;grind
theorem zlE(h:n < 9223372036854775808):U4 (n:Int)=n:=zE Zc Zc
theorem VZ{k:Nat}(h:n+k < 9223372036854775808):U4 ((n:Int)+(k:Int))=((n+k:Nat):Int):=by
 rw[zE Zc Zc];simp
theorem xV(h:n+1 < 9223372036854775808):U4 ((n:Int)+1)=((n+1:Nat):Int):=by
 rw[zE Zc Zc];simp
def Zo(p:UInt8->Bool)(l:List UInt8):Nat:=(l.takeWhile p).length
theorem zcl(p:UInt8->Bool):Zo p []=0:=rfl
theorem yS(p:UInt8->Bool)(c:UInt8)(l:List UInt8):Zo p (c::l)=if p c then Zo p l+1 else 0:=by
 unfold Zo;rw[K];split<;>simp
theorem XY(p:UInt8->Bool):∀l:List UInt8,Zo p l<=l.length
 |[]=>UK _
 |c::l=>by rw[yS];split<;>simp;exact XY p l
def isL(b:UInt8):Bool:=(decide (97<=b.toNat) && decide (b.toNat<=122)) || decide (b.toNat=95)
def isD(b:UInt8):Bool:=decide (48<=b.toNat) && decide (b.toNat<=57)
def isW(b:UInt8):Bool:=isL b || isD b
def Wu(b:UInt8):Bool:=decide (b.toNat≠10)
theorem zcm(b:UInt8):qbb (b.toNat:Int)=d (isD b):=by
 simp only[qbb,qhx,isD,jl];split
 ·rename_i h;have:48<=b.toNat:=Zc
  simp[this];omega
 grind
theorem zaq(b:UInt8):q99 (b.toNat:Int)=d (isL b):=by
 simp only[q99,qhi,isL,jl];have e:(97<=(b.toNat:Int))↔97<=b.toNat:=Zc
 have f:((b.toNat:Int)<=122)↔b.toNat<=122:=Zc
 have a:((b.toNat:Int)=95)↔b.toNat=95:=Zc
 grind
theorem zrG(b:UInt8):qen (b.toNat:Int)=d (isW b):=by
 simp only[qen,qhj,zaq,zcm,isW,jj];grind
theorem zt1(b:UInt8):qd2 (b.toNat:Int)=d (Wu b):=by
 simp only[qd2,qgk,Wu];congr 1;grind
theorem zcn {f:Int->U3 Bool}{p:UInt8->Bool}(e:∀c:UInt8,f (c.toNat:Int)=d (p c)) (hs:s.size < 4611686018427387904) :
    ∀(n i:Nat),s.size - i=n->i<=s.size->lpO (q76 f) (s,(i:Int))=d ((i+Zo p ((bs s).drop i):Nat):Int)
 |0,i,hn,hi=>by
  have:i=s.size:=Zc
  subst this;rw[Zv];simp[q76,U6,yi,zcl]
 |n+1,i,hn,hi=>by
  have a:i < s.size:=Zc
  obtain⟨c,g,hd⟩:=zap (l:=bs s) (i:=i) (by rw[yi];exact a);rw[Zv];simp only[q76,jl];rw[jv (E.2 a),XM g];simp only[jj,e];rw[hd,yS];cases hp:p c with
  |true=>
   simp only[jq,jj];rw[xV Zc,zcn e hs n (i+1) Zc Zc];grind
  |false=>simp
theorem zrH(hs:s.size < 4611686018427387904)(hi:i<=s.size):qem (s,(i:Int))=d ((i+Zo isD ((bs s).drop i):Nat):Int):=by
 show(lpO (q76 qbb) (s,(i:Int))).bind d=_;rw[zcn zcm hs _ i rfl hi];rfl
theorem zps(hs:s.size < 4611686018427387904)(hi:i<=s.size):qdg (s,(i:Int))=d ((i+Zo isW ((bs s).drop i):Nat):Int):=by
 show(lpO (q76 qen) (s,(i:Int))).bind d=_;rw[zcn zrG hs _ i rfl hi];rfl
theorem zrI(hs:s.size < 4611686018427387904)(hi:i<=s.size):qcu (s,(i:Int))=d ((i+Zo Wu ((bs s).drop i):Nat):Int):=by
 show(lpO (q76 qd2) (s,(i:Int))).bind d=_;rw[zcn zt1 hs _ i rfl hi];rfl
def zco(l:List UInt8):Bool:=decide (l=[116,121,112,101]) || (decide (l=[102,110]) || (decide (l=[111,119,110]) || (decide (l=[99,101,108,108]) || (decide (l=[99,111,117,110,116,101,100]) || (decide (l=[108,111,99,107]) || (decide (l=[103,117,97,114,100]) || (decide (l=[119,104,101,114,101]) || (decide (l=[105,110,116]) || (decide (l=[109,117,116]) || (decide (l=[102,114,101,101]) || (decide (l=[117,110,108,111,99,107]) || (decide (l=[105,102]) || (decide (l=[101,108,115,101]) || (decide (l=[119,104,105,108,101]) || (decide (l=[114,101,116,117,114,110]) || (decide (l=[97,98,111,114,116]) || (decide (l=[102,111,114,107]) || (decide (l=[110,101,119]) || (decide (l=[97,114,114,97,121]))))))))))))))))))))
theorem zlF{p:Prop}[Decidable p](h:X=d b):(if decide p=w then d (decide p) else X)=d (decide p || b):=by
 grind
theorem zlG(h:X=d b):(X.bind λy=>d y)=d b:=by subst h;rfl
theorem zwY(h:X=d b):(X.bind λy=>if y=w then d w else d D)=d b:=jE
theorem znv(s:U0)(l:List UInt8):decide (s=lit l)=decide (bs s=l):=by
 refine decide_eq_decide.2 ⟨λh=>by rw[h];rfl,λh=>zrF h⟩
theorem zyJ(s:U0):qf9 s=d (zco (bs s)):=by
 simp only[qf9,qhy,zco,<- znv];refine zwY ?_
 repeat (first | exact rfl | apply zlF | apply zlG)
theorem znw(l:List UInt8):qf9 (lit l)=d (zco l):=zyJ (lit l)
def W6(a:Nat):List UInt8->Nat
 |[]=>a
 |c::r=>W6 (a * 10+(c.toNat - 48)) r
def Y0(l:List UInt8):Nat:=W6 0 l
theorem zh0:∀(l:List UInt8) (a:Nat),a<=W6 a l
 |[],a=>UK _
 |c::r,a=>UM Zc (zh0 r _)
def sgn(c:UInt8):Bool:=[123,125,40,41,91,93,44,58,59,61,43,45,38,60].contains c
def two(l:List UInt8):Bool:=decide (l.take 2=[45,62]) || (decide (l.take 2=[60,61]) || decide (l.take 2=[61,61]))
def YQ(l:List UInt8):Nat:=if two l then 2 else match l with
 |[]=>0
 |c::_=>if sgn c then 1 else 0
inductive Nx where
 |skip (n:Nat)
 |tok (k:Int) (n:Nat) (v:Int)
 |err (e:Int)
def zcp:U3 UInt8->Bool
 |some c=>isL c
 |none=>D
def vI(l:List UInt8):Bool:=decide (1099511627776 < Y0 (l.take (Zo isD l))) || ((decide (1 < Zo isD l) && decide (l.head?=d 48)) || zcp l[Zo isD l]?)
def XZ(l:List UInt8):Nx:=if vI l then .err 12 else .tok 3 (Zo isD l) (Y0 (l.take (Zo isD l)))
def xE(l:List UInt8):Nx:=if 16 < Zo isW l then .err 13 else .tok (if zco (l.take (Zo isW l)) then 2 else 1) (Zo isW l) 0
def xF(l:List UInt8):Nx:=if YQ l=0 then .err 11 else .tok 4 (YQ l) 0
def nxt(l:List UInt8):Nx:=match l with
 |[] =>.err 11
 |c::r=>if c.toNat=32\/c.toNat=10 then .skip 1 else if c.toNat=35 then .skip (Zo Wu (c::r)) else if isD c then XZ (c::r) else if isL c then xE (c::r) else xF (c::r)
def Wv:Nat->Nat->List UInt8->(Nat×Int)⊕List qr
 |0,_,_ =>.inr []
 |f+1,a,l=>if l.isEmpty then .inr [] else match nxt l with
  | .skip n=>Wv f (a+n) (l.drop n)
  | .err e =>.inl (a,e)
  | .tok k n v=>match Wv f (a+n) (l.drop n) with
   | .inl x =>.inl x
   | .inr ts =>.inr (⟨k,lit (l.take n),v,a⟩::ts)
def W7(a:Nat)(l:List UInt8):(Nat×Int)⊕List qr:=Wv l.length a l
theorem zgI(l:List UInt8):YQ l<=l.length:=by
 unfold YQ;split
 ·rename_i h;unfold two at h
  match l with
  |[]=>simp at h
  |[a]=>simp at h
  |a::b::r=>simp
 grind
def wg(m:Nat):Nx->Prop
 | .skip n=>1<=n/\n<=m
 | .tok _ n _=>1<=n/\n<=m
 | .err _=>True
theorem W8(h:l≠[]):wg l.length (nxt l):=by
 match l,h with
 |c::r,_=>
  show wg (c::r).length (if c.toNat=32\/c.toNat=10 then .skip 1 else if c.toNat=35 then .skip (Zo Wu (c::r)) else if isD c then XZ (c::r) else if isL c then xE (c::r) else xF (c::r));split
  ·exact⟨Zc,je⟩
  ·rename_i h1;split
   ·rename_i h2;refine⟨?_,XY _ _⟩;rw[yS];have:Wu c=true:=by unfold Wu;simp;omega
    simp[this]
   ·split
    ·rename_i hd;unfold XZ;cases vI (c::r) with
     |true=>trivial
     |false=>
      refine⟨?_,XY _ _⟩;rw[yS];simp[hd]
    ·split
     ·rename_i a;unfold xE;split
      ·trivial
      ·refine⟨?_,XY _ _⟩;rw[yS];simp[isW,a]
     ·unfold xF;split
      ·trivial
      ·exact⟨Zc,zgI _⟩
theorem zar:∀(f:Nat) (l:List UInt8) (a:Nat) (g:Nat),l.length<=f->l.length<=g->Wv f a l=Wv g a l
 |0,l,a,g,h,j=>by
  have:l=[]:=UQ Zc;subst this;cases g<;>rfl
 |f+1,l,a,g,h,j=>by
  match l with
  |[]=>cases g<;>rfl
  |c::r=>
   match g,j with
   |g+1,j=>
    have hp:=W8 (l:=c::r) je;unfold Wv;simp only[R,jk,jp];cases m:nxt (c::r) with
    |err e=>rfl
    |skip n=>
     rw[m] at hp;simp only[wg] at hp |-
     exact zar f _ _ g jE jE
    |tok k n v=>
     rw[m] at hp;simp only[wg] at hp |-
     rw[zar f ((c::r).drop n) _ g jE jE]
theorem zcq(a:Nat):W7 a [] = .inr []:=rfl
theorem zdJ (a:Nat) (h:l≠[]):W7 a l=match nxt l with
    | .skip n=>W7 (a+n) (l.drop n)
    | .err e =>.inl (a,e)
    | .tok k n v=>match W7 (a+n) (l.drop n) with
     | .inl x =>.inl x
     | .inr ts =>.inr (⟨k,lit (l.take n),v,a⟩::ts):=by
 match l,h with
 |c::r,_=>
  have hp:=W8 (l:=c::r) je;unfold W7;show Wv (r.length+1) a (c::r)=_;rw[Wv];simp only[R,jk,jp];cases f:nxt (c::r) with
  |err e=>rfl
  |skip n=>
   rw[f] at hp;simp only[wg] at hp |-
   exact zar _ _ _ _ jE (UK _)
  |tok k n v=>
   rw[f] at hp;simp only[wg] at hp |-
   rw[zar r.length ((c::r).drop n) _ ((c::r).drop n).length jE (UK _)]
theorem ziQ(p:UInt8->Bool):∀l:List UInt8,l.take (Zo p l)=l.takeWhile p
 |[]=>rfl
 |c::l=>by
  rw[yS,K];cases p c with
  |true=>simp[ziQ p l]
  |false=>simp
theorem zwZ(p:UInt8->Bool)(l:List UInt8):∀c∈l.take (Zo p l),p c=true:=by
 rw[ziQ]
 induction l with
 |nil=>simp
 |cons a l e=>
  rw[K];grind
theorem W9(h:(bs s).drop i=l)(a:l≠[]):i < s.size/\l.length=s.size - i:=by
 subst h;rw[UR,yi];refine⟨?_,rfl⟩;rcases Nat.lt_or_ge i s.size with h | h
 ·exact h
 ·exact absurd (U6 (by rw[yi];exact h)) a
theorem wz(h:(bs s).drop i=l)(a:l≠[])(e:n<=l.length):ZI s (i:Int) ((i+n:Nat):Int)=d (lit (l.take n)):=by
 obtain⟨h1,h2⟩:=W9 h a;rw[zm1 Zc Zc];congr 1;apply zrF;rw[zpr,wy,<- h,Q]
theorem Vr(h:(bs s).drop i=l)(a:l[n]?=d c):Zg s ((i+n:Nat):Int)=d (c.toNat:Int):=by
 apply XM;grind
theorem wL(l:List UInt8):(lit l).size=l.length:=by rw[<- yi,wy]
theorem zdK{M:Nat}(g:M=18446744073709551615):∀(l:List UInt8) (a:Nat),(∀c∈l,isD c=w)->a<=M->U M a l=if W6 a l<=M then .ok (W6 a l) else .range
 |[],a,_,ha=>by rw[jv (show W6 a []<=M from ha)];rfl
 |c::r,a,h,ha=>by
  have f:=h c je;simp only[isD,gf,jl] at f;have k:=zh0 r (a * 10+(c.toNat - 48));have e:W6 a (c::r)=W6 (a * 10+(c.toNat - 48)) r:=rfl;rw[e];unfold U;rw[jv f];split
  ·grind
  ·split
   ·grind
   ·exact zdK g r _ (λx j=>h x (by simp[j])) Zc
theorem zrJ(hl:l≠[])(h:∀c∈l,isD c=w):V 64 l=if Y0 l < 9223372036854775808 then .ok (Y0 l:Int) else .range:=by
 match l,hl with
 |c::r,_=>
  have hc:=h c (by simp);simp only[isD,gf,jl] at hc;have e43:¬ (c.toNat=43\/c.toNat=45):=by omega
  have e45:¬ c.toNat=45:=by omega
  unfold V Lib.parseUintB;simp only;rw[jx e43,jx (by simp)];generalize hM:(2 ^ 64 - 1:Nat)=M;generalize hB:(2 ^ (64 - 1):Nat)=B;have hM:M=18446744073709551615:=by rw[<- hM]
  have hB:B=9223372036854775808:=by rw[<- hB]
  rw[zdK hM _ _ h (by omega)];simp only[e45,false_and,ju,UG,jp]
  show(match(if Y0 (c::r)<=M then Lib.NumEnd.ok (Y0 (c::r)) else .range) with
   | .syntax=>Lib.NumEnd.syntax
   | .range =>.range
   | .ok u=>if B<=u then .range else .ok (u:Int))=_
  by_cases h1:Y0 (c::r)<=M
  ·rw[jv h1];simp only;by_cases h2:Y0 (c::r) < 9223372036854775808
   all_goals grind
  grind
abbrev tk0:qr:=⟨0,lit [],0,0⟩
theorem zrK {r:List UInt8}(hs:s.size<=16384) (m:(bs s).drop i=c::r) (hd:isD c=w) :
    qeo (s,(i:Int),((i+Zo isD (c::r):Nat):Int))=d (if vI (c::r) then(tk0,12) else(⟨3,lit ((c::r).take (Zo isD (c::r))),(Y0 ((c::r).take (Zo isD (c::r))):Nat),i⟩,0)):=by
 obtain⟨h1,h2⟩:=W9 m je;have A:=XY isD (c::r);have q:1<=Zo isD (c::r):=by rw[yS];simp[hd]
 generalize v:Zo isD (c::r)=n at *
 have a:=zwZ isD (c::r);rw[v] at a;have t:(c::r).take n≠[]:=by
  match n,q with
  |n+1,_=>simp
 have e:((c::r).take n).length=n:=jE
 have j:((c::r).take n)[0]?=d c:=by
  grind
 have f:∀(X Y:U3 (qr×Int)),(if decide (((i+n:Nat):Int) < (s.size:Int))=w then(Zg s ((i+n:Nat):Int)).bind λy=>(q99 y).bind λz=>if z=w then X else Y else Y)=if zcp (c::r)[n]?=w then X else Y:=by
  intro X Y;by_cases hb:i+n < s.size
  · have:n < (c::r).length:=Zc
    have o:=UJ this;generalize (c::r)[n]=b at o;rw[Vr m o,o];simp only[jl,jj,zaq];rw[jv (E.2 hb)];rfl
  ·have:(c::r)[n]?=none:=UP Zc;rw[this];simp only[jl];rw[jx (λh=>hb (E.1 h))];rfl
 unfold qeo qhk;rw[show((s,(i:Int),((i+n:Nat):Int)):U0×Int×Int).1=s from rfl];simp only;rw[wz m je Zc];simp only[jj,qep,wx,UG];rw[jv (by rw[wL,e];omega),show(lit ((c::r).take n)).data.toList=(c::r).take n from rfl,zrJ t a];by_cases x:Y0 ((c::r).take n) < 9223372036854775808
 · rw[jv x];simp only[jj,jo];unfold vI;rw[v];by_cases p:1099511627776 < Y0 ((c::r).take n)
   ·grind
   · simp only[jl];rw[jx Zc,wL,e];have g:=f (d (qr.mk 0 (lit []) 0 0,12)) (d (qr.mk 3 (lit ((c::r).take n)) (Y0 ((c::r).take n):Nat) i,0));simp only[jl] at g;have e0:Zg (lit ((c::r).take n)) 0=d (c.toNat:Int):=XM (i:=0) j;by_cases u:1 < n
     · rw[jv Zc,e0];simp only[jj];by_cases k:c.toNat=48
       ·rw[jv Zc];have:c=48:=I.1 jE;grind
       · rw[jx Zc,g];have:¬ c=48:=λh=>k (by rw[h];rfl)
         simp only[p,u,this,js,jr,S,P.injEq,W,DC];grind
     ·rw[jx Zc,g];grind
 ·rw[jx x];simp only[jj,jm];unfold vI;grind
theorem zw0 (hs:s.size<=16384) (f:(bs s).drop i=l) (e:l≠[]) (g:n<=l.length) :
    qgl (s,(i:Int),((i+n:Nat):Int))=d (if 16 < n then(tk0,13) else(⟨if zco (l.take n) then 2 else 1,lit (l.take n),0,i⟩,0)):=by
 unfold qgl qi9;simp only;rw[wz f e g];have a:(l.take n).length=n:=jE
 simp only[jj,wL,a,jl,znw];by_cases h:16 < n
 ·grind
 ·rw[jx Zc,jx h];grind
theorem zdL(l:List UInt8)(a b:UInt8):q8f (lit l,lit [a,b])=d (decide (l.take 2=[a,b])):=by
 show((q4w (lit l,lit [a,b])).bind λy=>d y)=_;unfold q4w;simp only[wL,jz,List.length_nil,jl];by_cases h:2<=l.length
 ·rw[jv Zc];have:ZI (lit l) 0 ((2:Nat):Int)=d (lit (l.take 2)):=by
   have:=wz (s:=lit l) (i:=0) (n:=2) (l:=l) rfl jE h;grind
  rw[show((0+1+1:Nat):Int)=((2:Nat):Int) from rfl,this];simp only[jj];congr 1;refine decide_eq_decide.2 ⟨λh=>?_,λh=>by rw[h]⟩;have:=congrArg bs h;simpa[wy] using this
 ·rw[jx Zc];have:l.take 2≠[a,b]:=by
   intro e;have:=congrArg F e;grind
  simp[this]
theorem V0:∀(l:List UInt8) (c:UInt8),(0<=H l c)↔l.contains c=w
 |[],c=>by simp[H]
 |b::l,c=>by
  have e:=V0 l c;have f:=Lib.indexByte_ge l c;unfold H;by_cases h:b=c
  ·subst h;simp
  ·have a:(b == c)=false:=by simpa using h
   have h2:(c == b)=false:=jE
   simp only[a,jk,jp,T,h2,DC];rw[<- e];grind
theorem zw1(e:l≠[]):qht (lit l)=d (lit (l.take (YQ l))):=by
 show(lpO (qcj q8f q8g) (lit l,(lit [45,62],lit [60,61],lit [61,61]),0)).bind _=_;have w1:U4 (0+1)=1:=jI
 have o:U4 (1+1)=2:=jI
 have m:U4 (2+1)=3:=jI
 have g0:∀A B C:U0,vN [A,B,C] 0=d A:=λ_ _ _=>rfl
 have j:∀A B C:U0,vN [A,B,C] 1=d B:=λ_ _ _=>rfl
 have g2:∀A B C:U0,vN [A,B,C] 2=d C:=λ_ _ _=>rfl
 have a:two l=w->l.take 2=[45,62]\/l.take 2=[60,61]\/l.take 2=[61,61]:=by
  intro h;simpa[two] using h
 have loop:lpO (qcj q8f q8g) (lit l,(lit [45,62],lit [60,61],lit [61,61]),0)=d (if two l then .inl (lit (l.take 2)) else .inr (lit l)):=by
  rw[Zv];simp only[qcj,zdL,jj,g0,w1];by_cases h1:l.take 2=[45,62]
  ·simp[h1,two]
  ·simp only[h1,jr,jk,jp,jj];rw[show decide ((0:Int) < 3)=w from rfl];simp only[jq,jj];rw[Zv];simp only[qcj,zdL,jj,j,o];rw[show decide ((1:Int) < 3)=w from rfl];by_cases h2:l.take 2=[60,61]
   ·simp[h2,two]
   ·simp only[h2,jr,jk,jp,jj,jq];rw[Zv];simp only[qcj,zdL,jj,g2,m];rw[show decide ((2:Int) < 3)=w from rfl];by_cases g:l.take 2=[61,61]
    ·simp[g,two]
    ·simp only[g,jr,jk,jp,jj,jq];rw[Zv];simp only[qcj];grind
 rw[loop];unfold YQ;by_cases f:two l=w
 ·grind
 ·rw[jx f,jx f]
  match l,e with
  |c::r,_=>
   have e0:Zg (lit (c::r)) 0=d (c.toNat:Int):=XM (i:=0) rfl;have k:ZI (lit (c::r)) 0 1=d (lit [c]):=by
    have:=wz (s:=lit (c::r)) (i:=0) (n:=1) (l:=c::r) rfl je je;grind
   simp only[jj,jm];rw[e0,k];simp only[jj,q8g,Wl,Int.toNat_natCast];have hb:(0<=H (lit [123,125,40,41,91,93,44,58,59,61,43,45,38,60]).data.toList c.toNat.toUInt8)↔sgn c=true:=by
    have:c.toNat.toUInt8=c:=by simp[Nat.toUInt8]
    rw[this];exact V0 _ c
   by_cases hs:sgn c=w
   ·grind
   grind
noncomputable abbrev zcr:=qfp qcu qbb qem qeo q99 qdg qgl qht
theorem zpt (hs:s.size<=16384) (j:(bs s).drop i=l) (y:l≠[]) (out:Sl qr) :
    zcr (s,(i:Int),out)=match nxt l with
     | .skip n=>d (.next (s,((i+n:Nat):Int),out))
     | .err e=>d (.done (.inl ((i:Int),e)))
     | .tok k n v=>(zo 40 out [⟨k,lit (l.take n),v,i⟩]).bind λo=>d (.next (s,((i+n:Nat):Int),o)):=by
 obtain⟨h1,h2⟩:=W9 j y
 match l,y with
 |c::r,_=>
  have Y:Zg s (i:Int)=d (c.toNat:Int):=Vr (n:=0) j rfl;have a:=W8 (l:=c::r) je;simp only[zcr,qfp];rw[jv (gm (E.2 h1)),Y];simp only[jj];have m:((c.toNat:Int)=32)↔c.toNat=32:=Zc
  have t:((c.toNat:Int)=10)↔c.toNat=10:=Zc
  have u:((c.toNat:Int)=35)↔c.toNat=35:=Zc
  have C:∀(k:Int) (n:Nat) (v:Int),n<=(c::r).length->(zo 40 out [⟨k,lit ((c::r).take n),v,i⟩]).bind (λo=>d (Step.next (β:=Int×Int⊕U0×Sl qr) (s,U4 ((i:Int)+((lit ((c::r).take n)).size:Int)),o)))=(zo 40 out [⟨k,lit ((c::r).take n),v,i⟩]).bind λo=>d (.next (s,((i+n:Nat):Int),o)):=by
   intro k n v hn;have Z:(lit ((c::r).take n)).size=n:=by rw[wL,Dl];omega
   rw[Z,VZ Zc]
  unfold nxt at a |-
  simp only at a |-
  by_cases hb:c.toNat=32\/c.toNat=10
  · rw[jv hb];simp only;rcases hb with hb | hb
    ·rw[jv (gm (m.2 hb))];simp[xV (n:=i) Zc]
    · have:¬ c.toNat=32:=Zc
      rw[jx (λh=>this (m.1 (Dv h)))];simp only[jj,jl];rw[jv (t.2 hb)];simp[xV (n:=i) Zc]
  · rw[jx hb] at a |-
    have A:¬ c.toNat=32:=λh=>hb (.inl h)
    have B:¬ c.toNat=10:=λh=>hb (.inr h)
    rw[jx (λh=>A (m.1 (Dv h)))];simp only[jj,jl];rw[jx (λh=>B (t.1 h))];by_cases g:c.toNat=35
    ·rw[jv (u.2 g),jv g,zrI Zc Zc,j];simp
    · rw[jx (λh=>g (u.1 h))];rw[jx g] at a |-
      simp only[zcm,zaq,jj];by_cases hd:isD c=w
      · rw[jv hd] at a;rw[jv hd,jv hd,zrH Zc Zc,j];simp only[jj];rw[zrK hs j hd];unfold XZ at a |-
        by_cases f:vI (c::r)=w
        ·grind
        ·rw[jx f] at a;rw[jx f,jx f];simp only[wg] at a;simp only[jj,jm,Dj,jt,jp,gh,jo];grind
      · rw[jx hd] at a;rw[jx hd,jx hd];by_cases q:isL c=w
        · rw[jv q] at a;rw[jv q,jv q,zps Zc Zc,j];simp only[jj];rw[zw0 hs j je (XY _ _)];unfold xE at a |-
          by_cases p:16 < Zo isW (c::r)
          ·grind
          ·rw[jx p] at a;rw[jx p,jx p];simp only[wg] at a;simp only[jj,jm,Dj,jt,jp,gh,jo];grind
        · rw [jx q] at a;rw[jx q,jx q];have z:ZI s (i:Int) (s.size:Int)=d (lit (c::r)):=by
            have:=wz (n:=(c::r).length) j je (UK _);grind
          rw[z];simp only[jj];rw[zw1 je];simp only[jj,jl];unfold xF at a |-
          by_cases h0:YQ (c::r)=0
          ·grind
          · rw [jx h0] at a;have M:¬ lit ((c::r).take (YQ (c::r)))=lit []:=by
              intro e;have:=congrArg (λx=>(bs x).length) e;simp only[wy] at this;grind
            rw[jx h0,jx M];simp only[wg] at a;simp only[jj,jm,Dj,jt,jp,gh,jo];grind
theorem zt2 (hs:s.size<=16384):∀(n i:Nat) (acc:List qr) (nn:Bool),s.size - i<=n->i<=s.size->acc.length<=i->
    lpO zcr (s,(i:Int),⟨acc,nn⟩)=d (match W7 i ((bs s).drop i) with
     | .inl x =>.inl ((x.1:Int),x.2)
     | .inr ts =>.inr (s,⟨acc++ts,nn || !ts.isEmpty⟩)):=by
 intro n
 induction n with
 |zero=>
  intro i acc nn p hi q;have:i=s.size:=Zc
  subst this;rw[Zv];have hd:(bs s).drop s.size=[]:=U6 (by rw[yi];grind);rw[hd,zcq];simp[zcr,qfp]
 |succ n g=>
  intro i acc nn p hi q;rcases Nat.lt_or_ge i s.size with j | o
  · have a:(bs s).drop i≠[]:=by
      intro e;have:=congrArg F e;rw[UR,yi] at this;grind
    have hp:=W8 a;have h:((bs s).drop i).length=s.size - i:=by rw[UR,yi]
    rw[Zv,zpt hs rfl a,zdJ _ a];cases f:nxt ((bs s).drop i) with
    |err e=>rfl
    |skip k=>
     rw[f] at hp;simp only[wg] at hp;simp only[jj,G];rw[g (i+k) acc nn Zc Zc Zc]
    |tok k m v=>
     rw[f] at hp;simp only[wg] at hp;simp only[G];rw[yy jE jE];simp only[jj];rw[g (i+m) _ _ Zc Zc jE];grind
  grind
def Z1(s:U0):Int×Int×Sl qr:=if 16384 < s.size then(0,10,⟨[],D⟩) else match W7 0 (bs s) with
 | .inl x=>((x.1:Int),x.2,⟨[],D⟩)
 | .inr ts=>(0,0,⟨ts++[⟨0,lit [],0,s.size⟩],w⟩)
theorem V1:∀(m:Nat) (l:List UInt8) (i:Nat) (ts:List qr),l.length<=m->W7 i l = .inr ts->ts.length<=l.length
 |0,l,i,ts,hm,h=>by
  have:l=[]:=UQ Zc;subst this;rw[zcq] at h;cases h;simp
 |m+1,l,i,ts,hm,h=>by
  by_cases a:l=[]
  ·subst a;rw[zcq] at h;cases h;simp
  ·have hp:=W8 a;rw[zdJ _ a] at h;cases g:nxt l with
   |err e=>grind
   |skip k=>
    rw[g] at h hp;simp only[wg] at hp;have:=V1 m _ _ _ jE h;grind
   |tok k n v=>
    rw[g] at h hp;simp only[wg] at hp;simp only at h;cases f:W7 (i+n) (l.drop n) with
    |inl x=>grind
    |inr us=>
     rw[f] at h;cases h;have:=V1 m _ _ _ jE f;grind
theorem zrL(s:U0):qd3 s=d (Z1 s):=by
 unfold qd3 qhl Z1;simp only[jl];by_cases h:16384 < s.size
 ·grind
 ·rw[jx Zc,jx h];have:=zt2 (s:=s) Zc s.size 0 [] D Zc Zc je;rw[Ds] at this;rw[show((s,0,Sl.mk [] D):U0×Int×Sl qr)=(s,((0:Nat):Int),⟨[],D⟩) from rfl,this];cases e:W7 0 (bs s) with
  |inl x=>rfl
  |inr ts=>
   have a:=V1 _ _ _ _ (UK _) e;rw[yi] at a;simp only[jj,jm,Dp,DC];rw[yy jE jE];simp
theorem zcs(b:UInt8):q2x (b.toNat:Int)=d (isL b):=zaq b
theorem zdM(b:UInt8):q4o (b.toNat:Int)=d (isD b):=zcm b
theorem zt3(l:List UInt8):q40 (lit l)=d (zco l):=znw l
theorem zw2(c:UInt8)(k:Nat)(a:k < 256):decide ((c.toNat:Int)=(k:Int))=decide (c=O k):=by
 refine decide_eq_decide.2 ⟨λh=>I.1 ?_,λh=>?_⟩
 ·rw[N jE];omega
 ·rw[h,N jE]
theorem zyK(c:UInt8):sgn c=(decide ((c.toNat:Int)=123) || (decide ((c.toNat:Int)=125) || (decide ((c.toNat:Int)=40) || (decide ((c.toNat:Int)=41) || (decide ((c.toNat:Int)=91) || (decide ((c.toNat:Int)=93) || (decide ((c.toNat:Int)=44) || (decide ((c.toNat:Int)=58) || (decide ((c.toNat:Int)=59) || (decide ((c.toNat:Int)=61) || (decide ((c.toNat:Int)=43) || (decide ((c.toNat:Int)=45) || (decide ((c.toNat:Int)=38) || decide ((c.toNat:Int)=60)))))))))))))):=by
 have h:∀k:Nat,k < 256->decide ((c.toNat:Int)=(k:Int))=(c == O k):=λk e=>by rw[zw2 c k e];rfl
 have:=h 123 Zc;have h2:=h 125 Zc;have u:=h 40 Zc;have r:=h 41 Zc;have q:=h 91 Zc;have o:=h 93 Zc;have t:=h 44 Zc;have v:=h 58 Zc;have p:=h 59 Zc;have f:=h 61 Zc;have a:=h 43 Zc;have j:=h 45 Zc;have m:=h 38 Zc;have g:=h 60 Zc;simp only[Int.cast_ofNat_Int] at *
 simp only[sgn,T,List.contains_nil,L];grind
theorem zrM(h:l.length < 2):two l=false:=by
 have:∀a b:UInt8,¬ l.take 2=[a,b]:=by
  intro a b e;have:=congrArg F e;grind
 simp[two,this]
theorem zt4(hs:s.size<=16384)(j:(bs s).drop i=l)(g:l≠[]):q4b (s,(i:Int))=d (YQ l:Int):=by
 obtain⟨h1,h2⟩:=W9 j g;unfold q4b qd4;simp only;rw[xV Zc];have q:U4 ((i:Int)+2)=((i+2:Nat):Int):=VZ (k:=2) Zc;rw[q]
 have first:((if decide (((i+1:Nat):Int) < (s.size:Int))=w then
       (ZI s (i:Int) ((i+2:Nat):Int)).bind λp=>d (s,(i:Int),p) else d (s,(i:Int),lit [])).bind λ(f:U0×Int×U0)=>(if decide (f.2.2=lit [45,62])=w then d (f.1,f.2.1,w) else if decide (f.2.2=lit [60,61])=w then d (f.1,f.2.1,w) else d (f.1,f.2.1,decide (f.2.2=lit [61,61]))))=d (s,(i:Int),two l):=by
  by_cases h:i+1 < s.size
  · rw[jv (gm (E.2 h)),wz j g Zc];simp only[jj,znv,wy,two];by_cases a:l.take 2=[45,62]
    ·simp[a]
    · by_cases b:l.take 2=[60,61]
      ·simp[b]
      ·simp only[a,b,jr,jk,jp,jj,DC];rfl
  · rw[jx (λx=>h (E.1 (Dv x)))];rw[zrM Zc];have:∀a b:UInt8,lit []≠lit [a,b]:=λa b e=>by have:=congrArg bs e;simp[wy] at this
    simp[this]
 rw[<- gh,first];simp only[jj];unfold YQ;by_cases m:two l=w
 ·grind
 · rw[jx m,jx m]
   match l,g with
   |c::r,_=>
    have o:Zg s (i:Int)=d (c.toNat:Int):=Vr (n:=0) j rfl;rw[o];simp only[jj];have key:∀{X:U3 Bool} {b:Bool},X=d b->(X.bind λy=>if y=w then d (1:Int) else d 0)=d ((if b then 1 else 0:Nat):Int):=by
     grind
    rw[zyK];refine key ?_
    repeat (first | exact rfl | apply zlF | apply zlG)
theorem zAs(h:n<=255):IntKind.u8.wrap (n:Int)=n:=by
 simp only[U4,IntKind.wrap,IntKind.bits,IntKind.signed];simp;omega
def Ww(n:Nat)(g:Bool):List UInt8->Nat×Bool
 |[]=>(n,g)
 |c::r=>let a:=if n<=1099511627776 then n * 10+(c.toNat - 48) else n
  Ww a (if 1099511627776 < a then w else g) r
theorem zgJ:∀(l:List UInt8) (n:Nat),(Ww n w l).2=w
 |[],n=>rfl
 |c::r,n=>by
  unfold Ww;simp only[ite_self];exact zgJ r _
theorem znx:∀(l:List UInt8) (n:Nat),n<=1099511627776->if 1099511627776 < W6 n l then(Ww n D l).2=w else Ww n D l=(W6 n l,D)
 |[],n,h=>by
  rw[jx (by show¬ 1099511627776 < n;omega)];rfl
 |c::r,n,h=>by
  have e:W6 n (c::r)=W6 (n * 10+(c.toNat - 48)) r:=rfl;rw[e];unfold Ww;simp only[jv h];by_cases h2:1099511627776 < n * 10+(c.toNat - 48)
  ·have:=zh0 r (n * 10+(c.toNat - 48));rw[jv Zc,jv h2];exact zgJ r _
  ·rw[jx h2];exact znx r _ Zc
abbrev RT:=q9×q9
noncomputable abbrev zh1:=q7r q2x q4o q40 q4b
noncomputable abbrev zgK:=q7s q2x q4o q40 q4b
theorem ziR(hs:s.size<=16384)(a:Int)(t:RT):∀(n i:Nat),s.size - i=n->i<=s.size->lpO zh1 (s,a,(i:Int),t)=d (s,a,((i+Zo isW ((bs s).drop i):Nat):Int),t)
 |0,i,hn,hi=>by
  have:i=s.size:=Zc
  subst this;rw[Zv];simp[zh1,q7r,U6,yi,zcl]
 |n+1,i,hn,hi=>by
  have e:i < s.size:=Zc
  obtain⟨c,j,hd⟩:=zap (l:=bs s) (i:=i) (by rw[yi];exact e);rw[Zv];simp only[zh1,q7r,jl];rw[jv (E.2 e),XM j];simp only[jj,zcs,zdM];rw[hd,yS];have k:=ziR hs a t n (i+1) Zc Zc;have h:=xV (n:=i) Zc;cases f:isL c with
  |true=>
   simp only[isW,f,Bool.true_or,Do,jk,jp,jq,jj,h];grind
  |false=>
   cases g:isD c with
   |true=>
    simp only[isW,f,g,Bool.or_true,Do,D6,jk,jp,jq,jj,h];grind
   |false=>simp[isW,f,g]
theorem zlH (hs:s.size<=16384) (a:Int) (t:RT):∀(n i m:Nat) (g:Bool),m<=10995116277769->s.size - i=n->i<=s.size->
    lpO zgK (s,a,(i:Int),(m:Int),g,t)=d (s,a,((i+Zo isD ((bs s).drop i):Nat):Int),((Ww m g (((bs s).drop i).take (Zo isD ((bs s).drop i)))).1:Int),(Ww m g (((bs s).drop i).take (Zo isD ((bs s).drop i)))).2,t)
 |0,i,m,g,hm,hn,hi=>by
  have:i=s.size:=Zc
  subst this;rw[Zv];simp[zgK,q7s,U6,yi,zcl,Ww]
 |n+1,i,m,g,hm,hn,hi=>by
  have f:i < s.size:=Zc
  obtain⟨c,q,hd⟩:=zap (l:=bs s) (i:=i) (by rw[yi];exact f);rw[Zv];simp only[zgK,q7s,jl];rw[jv (E.2 f),XM q];simp only[jj,zdM];rw[hd,yS];cases u:isD c with
  |false=>simp[Ww]
  |true=>
   have j:=u;simp only[isD,gf,jl] at j;simp only[Do,jk,jp,jq];have r:U4 (IntKind.u8.wrap ((c.toNat:Int) - 48))=((c.toNat - 48:Nat):Int):=by
    have:((c.toNat:Int) - 48)=((c.toNat - 48:Nat):Int):=Zc
    rw[this,zAs Zc,zlE Zc]
   have v:U4 (U4 ((m:Int) * 10)+((c.toNat - 48:Nat):Int))=((m * 10+(c.toNat - 48):Nat):Int):=by
    have:((m:Int) * 10)=((m * 10:Nat):Int):=Zc
    rw[this,zlE Zc,VZ Zc]
   rw[r,v];have x:=xV (n:=i) Zc;have p:(if m<=1099511627776 then m * 10+(c.toNat - 48) else m)<=10995116277769:=jE
   have step:∀(e:Nat),e<=10995116277769->lpO zgK (s,a,((i+1:Nat):Int),(e:Int),(if 1099511627776 < e then w else g),t)=d (s,a,((i+(Zo isD ((bs s).drop (i+1))+1):Nat):Int),((Ww e (if 1099511627776 < e then w else g) (((bs s).drop (i+1)).take (Zo isD ((bs s).drop (i+1))))).1:Int),(Ww e (if 1099511627776 < e then w else g) (((bs s).drop (i+1)).take (Zo isD ((bs s).drop (i+1))))).2,t):=by
    intro e o;refine(zlH hs a t n (i+1) e _ o Zc Zc).trans ?_;congr 4;omega
   simp only[List.take_succ_cons,Ww];by_cases h:m<=1099511627776
   · rw[jv (Zc:(m:Int)<=1099511627776)];simp only[jv h,jj];rw[<- step _ Zc];by_cases k:1099511627776 < m * 10+(c.toNat - 48)
     ·rw[jv (Zc:(1099511627776:Int) < ((m * 10+(c.toNat - 48):Nat):Int)),jv k];grind
     ·rw[jx (Zc:¬ (1099511627776:Int) < ((m * 10+(c.toNat - 48):Nat):Int)),jx k];grind
   · rw[jx (Zc:¬ (m:Int)<=1099511627776)];simp only[jx h,jj];rw[<- step _ hm];have k:1099511627776 < m:=Zc
     grind
abbrev zyL:q9:=⟨0,lit [],0,0⟩
def rNx(i:Nat)(l:List UInt8):Nx->q9×Int
 | .tok k n v=>(⟨k,lit (l.take n),v,i⟩,0)
 | .err e=>(zyL,e)
 | .skip _=>(zyL,0)
theorem zw3 {r:List UInt8}(hs:s.size<=16384) (g:(bs s).drop i=c::r) :
    q6q (s,(i:Int))=d (rNx i (c::r) (if isD c then XZ (c::r) else if isL c then xE (c::r) else xF (c::r))):=by
 obtain⟨h1,h2⟩:=W9 g je;have M:Zg s (i:Int)=d (c.toNat:Int):=Vr (n:=0) g rfl;unfold q6q qdh;simp only;rw[M];simp only[jj,zcs,zdM];by_cases t:isL c=w
 · have k:isD c=false:=by
     simp only[isL,UO,gf,jl] at t;simp only[isD,Bool.and_eq_false_imp,jl,decide_eq_false_iff_not];omega
   rw[jv t];have e:=ziR hs (i:Int) ((⟨0,lit [],0,0⟩,⟨0,lit [],0,(i:Int)⟩):RT) _ i rfl Zc;rw[g] at e;rw[show lpO (q7r q2x q4o q40 q4b) (s,(i:Int),(i:Int),(⟨0,lit [],0,0⟩:q9),(⟨0,lit [],0,(i:Int)⟩:q9))=_ from e];simp only[jj];rw[wz g je (XY _ _)];have u:((c::r).take (Zo isW (c::r))).length=Zo isW (c::r):=by rw[Dl];have:=XY isW (c::r);omega
   simp only[jj,wL,u,jl,zt3];rw[k];simp only[jk,jp,t,jq];unfold xE;by_cases h:16 < Zo isW (c::r)
   ·rw[jv Zc,jv h];rfl
   · rw[jx Zc,jx h];by_cases x:zco ((c::r).take (Zo isW (c::r)))=w
     ·rw[jv x,jv x];rfl
     ·rw[jx x,jx x];rfl
 · rw[jx t];simp only[jj,jm];by_cases k:isD c=w
   · rw[jv k,jv k];have C:=XY isD (c::r);have hn1:1<=Zo isD (c::r):=by rw[yS];simp[k]
     have e:=zlH hs (i:Int) ((⟨0,lit [],0,0⟩,⟨0,lit [],0,(i:Int)⟩):RT) _ i 0 D Zc rfl Zc;rw[g] at e;rw[show lpO (q7s q2x q4o q40 q4b) (s,(i:Int),(i:Int),0,D,(⟨0,lit [],0,0⟩:q9),(⟨0,lit [],0,(i:Int)⟩:q9))=_ from e];have a:=znx ((c::r).take (Zo isD (c::r))) 0 Zc;have hN:W6 0 ((c::r).take (Zo isD (c::r)))=Y0 ((c::r).take (Zo isD (c::r))):=rfl;rw[hN] at a;unfold XZ vI;generalize hnr:Zo isD (c::r)=n at *
     generalize hpq:Ww 0 D ((c::r).take n)=pq at *
     obtain⟨p,q⟩:=pq;simp only[jj,jl];have m:(if(((i+n:Nat):Int) < (s.size:Int)) then(Zg s ((i+n:Nat):Int)).bind λy=>(q2x y).bind λz=>d (s,(i:Int),((i+n:Nat):Int),(p:Int),q,z,((⟨0,lit [],0,0⟩,⟨0,lit [],0,(i:Int)⟩):RT)) else d (s,(i:Int),((i+n:Nat):Int),(p:Int),q,D,(((⟨0,lit [],0,0⟩,⟨0,lit [],0,(i:Int)⟩):RT):RT)))=d (s,(i:Int),((i+n:Nat):Int),(p:Int),q,zcp (c::r)[n]?,(((⟨0,lit [],0,0⟩,⟨0,lit [],0,(i:Int)⟩):RT):RT)):=by
      by_cases hb:i+n < s.size
      · have:n < (c::r).length:=Zc
        have B:=UJ this;generalize (c::r)[n]=b at B;rw[Vr g B,B];simp only[jj,zcs];rw[jv (E.2 hb)];rfl
      ·have:(c::r)[n]?=none:=UP Zc;rw[this,jx (λh=>hb (E.1 h))];rfl
     rw[show(if(((i+n:Nat):Int) < (s.size:Int)) then(Zg s ((i+n:Nat):Int)).bind λy=>(q2x y).bind λz=>d (s,(i:Int),((i+n:Nat):Int),(p:Int),q,z,((⟨0,lit [],0,0⟩,⟨0,lit [],0,(i:Int)⟩):RT)) else d (s,(i:Int),((i+n:Nat):Int),(p:Int),q,D,(((⟨0,lit [],0,0⟩,⟨0,lit [],0,(i:Int)⟩):RT):RT)))=_ from m];simp only[jj,M];have e1:((i:Int)+1)=((i+1:Nat):Int):=Zc
     have hw:=xV (n:=i) Zc;by_cases f:1099511627776 < Y0 ((c::r).take n)
     ·rw[jv f] at a;simp only at a;subst a;simp[f,rNx]
     · rw[jx f] at a;simp only[Prod.mk.injEq] at a;obtain⟨hp,Z⟩:=a;subst hp Z;simp only[jk,jp];cases Y:zcp (c::r)[n]? with
       |true=>simp[f,rNx]
       |false=>
        simp only[jk,jp,hw];have v:((c.toNat:Int)=48)↔c=48:=by
         constructor
         ·intro h;exact I.1 jE
         ·intro h;rw[h];rfl
        by_cases j:c=48
        · rw[jv (v.2 j)];simp only[jj];by_cases o:1 < n
          · have:((i+1:Nat):Int) < ((i+n:Nat):Int):=Zc
            simp[f,o,j,this,rNx];grind
          · have:¬ ((i+1:Nat):Int) < ((i+n:Nat):Int):=Zc
            simp only[this,jr,jk,jp,f,o,Bool.false_and,L];rw[wz g je C];rfl
        ·rw[jx (λh=>j (v.1 h))];simp only[jj,jk,jp];rw[wz g je C];simp only[f,j,jr,S,P.injEq,W,L,jk,jp];rfl
   · rw[jx k,jx k,jx t];simp only[jj,jm];rw[zt4 hs g je];simp only[jj,jl];unfold xF;have A:=zgI (c::r);by_cases h0:YQ (c::r)=0
     ·rw[jv Zc,jv h0];rfl
     ·rw[jx Zc,jx h0,VZ Zc,wz g je A];rfl
theorem ziS(hs:s.size<=16384){f:U0×Int->U3 (q9×Int)}(out:Sl q9):∀(n i:Nat),s.size - i=n->i<=s.size->lpO (q87 f) (s,(i:Int),out)=d (s,((i+Zo Wu ((bs s).drop i):Nat):Int),out)
 |0,i,hn,hi=>by
  have:i=s.size:=Zc
  subst this;rw[Zv];simp[q87,U6,yi,zcl]
 |n+1,i,hn,hi=>by
  have a:i < s.size:=Zc
  obtain⟨c,g,hd⟩:=zap (l:=bs s) (i:=i) (by rw[yi];exact a);rw[Zv];simp only[q87,jl];rw[jv (E.2 a),XM g];have j:=xV (n:=i) Zc;simp only[jj,j];rw[hd,yS];have e:((c.toNat:Int)≠10)↔Wu c=true:=by simp only[Wu,jl];omega
  by_cases h:Wu c=w
  ·rw[jv (gm (e.2 h)),jv h];simp only[jj];refine(ziS hs out n (i+1) Zc Zc).trans ?_;congr 3;omega
  grind
abbrev toR(t:qr):q9:=⟨t.k_,t.T_,t.n_,t.a_⟩
noncomputable abbrev zen:=q88 q6q
theorem zyM(a:l≠[]){e:Int}(h:nxt l = .err e):e≠0:=by
 match l,a with
 |c::r,_=>
  unfold nxt at h;simp only at h;split at h
  ·cases h
  ·split at h
   ·cases h
   ·split at h
    ·unfold XZ at h;grind
    ·split at h
     ·unfold xE at h;grind
     ·unfold xF at h;grind
theorem zt5 (hs:s.size<=16384) (q:(bs s).drop i=l) (j:l≠[]) (out:Sl q9) :
    zen (s,(i:Int),out)=match nxt l with
     | .skip n=>d (.next (s,((i+n:Nat):Int),out))
     | .err e=>d (.done (.inl ((i:Int),e)))
     | .tok k n v=>(zo 40 out [⟨k,lit (l.take n),v,i⟩]).bind λo=>d (.next (s,((i+n:Nat):Int),o)):=by
 obtain⟨h1,h2⟩:=W9 q j
 match l,j with
 |c::r,j=>
  have B:Zg s (i:Int)=d (c.toNat:Int):=Vr (n:=0) q rfl;have a:=W8 (l:=c::r) je;have g:=λe=>zyM (l:=c::r) je (e:=e)
  simp only[zen,q88];rw[jv (gm (E.2 h1)),B];have Y:=xV (n:=i) Zc;simp only[jj];have m:((c.toNat:Int)=32)↔c.toNat=32:=Zc
  have u:((c.toNat:Int)=10)↔c.toNat=10:=Zc
  have y:((c.toNat:Int)=35)↔c.toNat=35:=Zc
  unfold nxt at a g |-
  simp only at a g |-
  by_cases hb:c.toNat=32\/c.toNat=10
  · rw[jv hb];simp only;rcases hb with hb | hb
    ·grind
    · have:¬ c.toNat=32:=Zc
      rw[jx (λh=>this (m.1 (Dv h)))];grind
  · rw[jx hb] at a g |-
    have t:¬ c.toNat=32:=λh=>hb (.inl h)
    have A:¬ c.toNat=10:=λh=>hb (.inr h)
    rw[jx (λh=>t (m.1 (Dv h)))];simp only[jj,jl];rw[jx (λh=>A (u.1 h)),B];simp only[jj];by_cases p:c.toNat=35
    ·have C:=ziS hs (f:=q6q) out _ i rfl Zc;grind
    · rw[jx (λh=>p (y.1 h))];rw[jx p] at a g |-
      rw[zw3 hs q];have z:∀n,(if isD c=w then XZ (c::r) else if isL c=w then xE (c::r) else xF (c::r)) ≠.skip n:=by
       intro n h;split at h
       ·unfold XZ at h;grind
       · split at h
         ·unfold xE at h;grind
         ·unfold xF at h;grind
      generalize (if isD c=w then XZ (c::r) else if isL c=w then xE (c::r) else xF (c::r))=x at a g z;cases x with
      |skip n=>
       grind
      |err e=>
       have:=g e rfl;simp only[rNx,jj];grind
      |tok k n v=>
       simp only[wg] at a;simp only[rNx,jj,Dj,jt,jp,gh,jo];have M:(lit ((c::r).take n)).size=n:=by rw[wL,Dl];omega
       rw[M,VZ Zc]
theorem zrN (hs:s.size<=16384):∀(n i:Nat) (acc:List q9) (nn:Bool),s.size - i<=n->i<=s.size->acc.length<=i->
    lpO zen (s,(i:Int),⟨acc,nn⟩)=d (match W7 i ((bs s).drop i) with
     | .inl x =>.inl ((x.1:Int),x.2)
     | .inr ts =>.inr (s,⟨acc++ts.map toR,nn || !ts.isEmpty⟩)):=by
 intro n
 induction n with
 |zero=>
  intro i acc nn p hi q;have:i=s.size:=Zc
  subst this;rw[Zv];have hd:(bs s).drop s.size=[]:=U6 (by rw[yi];grind);rw[hd,zcq];simp[zen,q88]
 |succ n g=>
  intro i acc nn p hi q;rcases Nat.lt_or_ge i s.size with j | o
  · have a:(bs s).drop i≠[]:=by
      intro e;have:=congrArg F e;rw[UR,yi] at this;grind
    have hp:=W8 a;have h:((bs s).drop i).length=s.size - i:=by rw[UR,yi]
    rw[Zv,zt5 hs rfl a,zdJ _ a];cases f:nxt ((bs s).drop i) with
    |err e=>rfl
    |skip k=>
     rw[f] at hp;simp only[wg] at hp;simp only[jj,G];rw[g (i+k) acc nn Zc Zc Zc]
    |tok k m v=>
     rw[f] at hp;simp only[wg] at hp;simp only[G];rw[yy jE jE];simp only[jj];rw[g (i+m) _ _ Zc Zc jE];grind
  grind
theorem zpu(s:U0):q6z s=d ((Z1 s).1,(Z1 s).2.1,⟨(Z1 s).2.2.xs.map toR,(Z1 s).2.2.nn⟩):=by
 unfold q6z qbs Z1;simp only[jl];by_cases h:16384 < s.size
 ·grind
 ·rw[jx Zc,jx h];have:=zrN (s:=s) Zc s.size 0 [] D Zc Zc je;rw[Ds] at this;rw[show((s,0,Sl.mk [] D):U0×Int×Sl q9)=(s,((0:Nat):Int),⟨[],D⟩) from rfl,this];cases e:W7 0 (bs s) with
  |inl x=>rfl
  |inr ts=>
   have a:=V1 _ _ _ _ (UK _) e;rw[yi] at a;simp only[jj,jm,Dp,DC];rw[yy jE jE];simp
end Go.Px
