/- Part La. -/
import Derived.Test.YthnflpoohleiaaaGreatDoorA9
set_option linter.unusedVariables false
set_option linter.unusedSimpArgs false
namespace Go.Px
open Bool renaming true->w,false->D,or_false->L,and_false->W
open Go.Lib renaming indexByte->H,parseUintM->U,parseIntB->V
open Int renaming ofNat_lt->E
open List renaming length->F,drop_drop->G,takeWhile_cons->K,take_drop->Q,isEmpty_cons->R,head?_cons->S,contains_cons->T
open _root_.Option renaming some->d,some->P
open UInt8 renaming toNat_inj->I,toNat_ofNat_of_lt'->N,ofNat->O
variable{X:Uv Bool}{b:Bool}{c:UInt8}{i n:Nat}{l:List UInt8}{s:Ut}
abbrev bs(s:Ut):List UInt8:=s.data.toList
theorem yh(s:Ut):(bs s).length=s.size:=by cases s;simp[bs,ByteArray.size]
theorem zrB{t:Ut}(h:bs s=bs t):s=t:=by
 cases s;cases t;congr 1;exact Array.toList_inj.1 h
theorem wy(l:List UInt8):bs (lit l)=l:=rfl
theorem Zu{s β:Type}(f:s->Uv (Step s β))(x:s):lpO f x=(f x).bind fun | .next a=>lpO f a | .done y=>d y:=zsi f x
theorem XL(h:(bs s)[i]?=d c):Zh s (i:Int)=d (c.toNat:Int):=by
 unfold Zh;grind
theorem zas(h:i < l.length):∃c,l[i]?=d c/\l.drop i=c::l.drop (i+1):=
 ⟨l[i],UC h,Di h⟩
theorem zph(s:Ut)(i j:Nat):bs (s.extract i j)=((bs s).take j).drop i:=by
 show(s.extract i j).data.toList=_;rw[ByteArray.data_extract];simp[Array.toList_extract,List.extract,Q];by_cases h:i<=j
 ·grind
 ·have h1:j - i=0:=Zd
  rw[h1];simp;omega
theorem zmR{j:Nat}(h1:i<=j)(h2:j<=s.size):ZI s (i:Int) (j:Int)=d (s.extract i j):=by
 unfold ZI;grind
theorem zlt(h:n < 9223372036854775808):Uw (n:Int)=n:=zF Zd Zd
theorem V1{k:Nat}(h:n+k < 9223372036854775808):Uw ((n:Int)+(k:Int))=((n+k:Nat):Int):=by
 rw[zF Zd Zd];simp
theorem xU(h:n+1 < 9223372036854775808):Uw ((n:Int)+1)=((n+1:Nat):Int):=by
 rw[zF Zd Zd];simp
def Zp(p:UInt8->Bool)(l:List UInt8):Nat:=(l.takeWhile p).length
theorem zcn(p:UInt8->Bool):Zp p []=0:=rfl
theorem yR(p:UInt8->Bool)(c:UInt8)(l:List UInt8):Zp p (c::l)=if p c then Zp p l+1 else 0:=by
 unfold Zp;rw[K];split<;>simp
theorem XX(p:UInt8->Bool):∀l:List UInt8,Zp p l<=l.length
 |[]=>UD _
 |c::l=>by rw[yR];split<;>simp;exact XX p l
def isL(b:UInt8):Bool:=(decide (97<=b.toNat) && decide (b.toNat<=122)) || decide (b.toNat=95)
def isD(b:UInt8):Bool:=decide (48<=b.toNat) && decide (b.toNat<=57)
def isW(b:UInt8):Bool:=isL b || isD b
def Wr(b:UInt8):Bool:=decide (b.toNat≠10)
theorem zco(b:UInt8):qb9 (b.toNat:Int)=d (isD b):=by
 simp only[qb9,qhm,isD,jl];split
 ·rename_i h;have:48<=b.toNat:=Zd
  simp[this];omega
 grind
theorem zat(b:UInt8):q9c (b.toNat:Int)=d (isL b):=by
 simp only[q9c,qh7,isL,jl];have a:(97<=(b.toNat:Int))↔97<=b.toNat:=Zd
 have c:((b.toNat:Int)<=122)↔b.toNat<=122:=Zd
 have e:((b.toNat:Int)=95)↔b.toNat=95:=Zd
 grind
theorem zrC(b:UInt8):qeg (b.toNat:Int)=d (isW b):=by
 simp only[qeg,qh8,zat,zco,isW,jj];grind
theorem ztX(b:UInt8):qd6 (b.toNat:Int)=d (Wr b):=by
 simp only[qd6,qgc,Wr];congr 1;grind
theorem zcp {f:Int->Uv Bool}{p:UInt8->Bool}(b:∀c:UInt8,f (c.toNat:Int)=d (p c)) (hs:s.size < 4611686018427387904) :
    ∀(n i:Nat),s.size - i=n->i<=s.size->lpO (q78 f) (s,(i:Int))=d ((i+Zp p ((bs s).drop i):Nat):Int)
 |0,i,hn,hi=>by
  have:i=s.size:=Zd
  subst this;rw[Zu];simp[q78,Uy,yh,zcn]
 |n+1,i,hn,hi=>by
  have a:i < s.size:=Zd
  obtain⟨c,e,hd⟩:=zas (l:=bs s) (i:=i) (by rw[yh];exact a);rw[Zu];simp only[q78,jl];rw[jv (E.2 a),XL e];simp only[jj,b];rw[hd,yR];cases hp:p c with
  |true=>
   simp only[jq,jj];rw[xU Zd,zcp b hs n (i+1) Zd Zd];grind
  |false=>simp
theorem zrD(hs:s.size < 4611686018427387904)(hi:i<=s.size):qef (s,(i:Int))=d ((i+Zp isD ((bs s).drop i):Nat):Int):=by
 show(lpO (q78 qb9) (s,(i:Int))).bind d=_;rw[zcp zco hs _ i rfl hi];rfl
theorem zpi(hs:s.size < 4611686018427387904)(hi:i<=s.size):qdk (s,(i:Int))=d ((i+Zp isW ((bs s).drop i):Nat):Int):=by
 show(lpO (q78 qeg) (s,(i:Int))).bind d=_;rw[zcp zrC hs _ i rfl hi];rfl
theorem zrE(hs:s.size < 4611686018427387904)(hi:i<=s.size):qcy (s,(i:Int))=d ((i+Zp Wr ((bs s).drop i):Nat):Int):=by
 show(lpO (q78 qd6) (s,(i:Int))).bind d=_;rw[zcp ztX hs _ i rfl hi];rfl
def zcq(l:List UInt8):Bool:=decide (l=[116,121,112,101]) || (decide (l=[102,110]) || (decide (l=[111,119,110]) || (decide (l=[99,101,108,108]) || (decide (l=[99,111,117,110,116,101,100]) || (decide (l=[108,111,99,107]) || (decide (l=[103,117,97,114,100]) || (decide (l=[119,104,101,114,101]) || (decide (l=[105,110,116]) || (decide (l=[109,117,116]) || (decide (l=[102,114,101,101]) || (decide (l=[117,110,108,111,99,107]) || (decide (l=[105,102]) || (decide (l=[101,108,115,101]) || (decide (l=[119,104,105,108,101]) || (decide (l=[114,101,116,117,114,110]) || (decide (l=[97,98,111,114,116]) || (decide (l=[102,111,114,107]) || (decide (l=[110,101,119]) || (decide (l=[97,114,114,97,121]))))))))))))))))))))
theorem zlu{p:Prop}[Decidable p](h:X=d b):(if decide p=w then d (decide p) else X)=d (decide p || b):=by
 grind
theorem zlv(h:X=d b):(X.bind λy=>d y)=d b:=by subst h;rfl
theorem zwU(h:X=d b):(X.bind λy=>if y=w then d w else d D)=d b:=jE
theorem znl(s:Ut)(l:List UInt8):decide (s=lit l)=decide (bs s=l):=by
 refine decide_eq_decide.2 ⟨λh=>by rw[h];rfl,λh=>zrB h⟩
theorem zyE(s:Ut):qf2 s=d (zcq (bs s)):=by
 simp only[qf2,qhn,zcq,<- znl];refine zwU ?_
 repeat (first | exact rfl | apply zlu | apply zlv)
theorem znm(l:List UInt8):qf2 (lit l)=d (zcq l):=zyE (lit l)
def W4(a:Nat):List UInt8->Nat
 |[]=>a
 |c::r=>W4 (a * 10+(c.toNat - 48)) r
def YY(l:List UInt8):Nat:=W4 0 l
theorem zhT:∀(l:List UInt8) (a:Nat),a<=W4 a l
 |[],a=>UD _
 |c::r,a=>UF Zd (zhT r _)
def sgn(c:UInt8):Bool:=[123,125,40,41,91,93,44,58,59,61,43,45,38,60].contains c
def two(l:List UInt8):Bool:=decide (l.take 2=[45,62]) || (decide (l.take 2=[60,61]) || decide (l.take 2=[61,61]))
def YP(l:List UInt8):Nat:=if two l then 2 else match l with
 |[]=>0
 |c::_=>if sgn c then 1 else 0
inductive Nx where
 |skip (n:Nat)
 |tok (k:Int) (n:Nat) (v:Int)
 |err (e:Int)
def zcr:Uv UInt8->Bool
 |some c=>isL c
 |none=>D
def vF(l:List UInt8):Bool:=decide (1099511627776 < YY (l.take (Zp isD l))) || ((decide (1 < Zp isD l) && decide (l.head?=d 48)) || zcr l[Zp isD l]?)
def XY(l:List UInt8):Nx:=if vF l then .err 12 else .tok 3 (Zp isD l) (YY (l.take (Zp isD l)))
def xC(l:List UInt8):Nx:=if 16 < Zp isW l then .err 13 else .tok (if zcq (l.take (Zp isW l)) then 2 else 1) (Zp isW l) 0
def xD(l:List UInt8):Nx:=if YP l=0 then .err 11 else .tok 4 (YP l) 0
def nxt(l:List UInt8):Nx:=match l with
 |[] =>.err 11
 |c::r=>if c.toNat=32\/c.toNat=10 then .skip 1 else if c.toNat=35 then .skip (Zp Wr (c::r)) else if isD c then XY (c::r) else if isL c then xC (c::r) else xD (c::r)
def Ws:Nat->Nat->List UInt8->(Nat×Int)⊕List qr
 |0,_,_ =>.inr []
 |f+1,a,l=>if l.isEmpty then .inr [] else match nxt l with
  | .skip n=>Ws f (a+n) (l.drop n)
  | .err e =>.inl (a,e)
  | .tok k n v=>match Ws f (a+n) (l.drop n) with
   | .inl x =>.inl x
   | .inr ts =>.inr (⟨k,lit (l.take n),v,a⟩::ts)
def W5(a:Nat)(l:List UInt8):(Nat×Int)⊕List qr:=Ws l.length a l
theorem zgG(l:List UInt8):YP l<=l.length:=by
 unfold YP;split
 ·rename_i h;unfold two at h
  match l with
  |[]=>simp at h
  |[a]=>simp at h
  |a::b::r=>simp
 grind
def wg(m:Nat):Nx->Prop
 | .skip n=>1<=n/\n<=m
 | .tok _ n _=>1<=n/\n<=m
 | .err _=>True
theorem W6(h:l≠[]):wg l.length (nxt l):=by
 match l,h with
 |c::r,_=>
  show wg (c::r).length (if c.toNat=32\/c.toNat=10 then .skip 1 else if c.toNat=35 then .skip (Zp Wr (c::r)) else if isD c then XY (c::r) else if isL c then xC (c::r) else xD (c::r));split
  ·exact⟨Zd,je⟩
  ·rename_i h1;split
   ·rename_i h2;refine⟨?_,XX _ _⟩;rw[yR];have:Wr c=true:=by unfold Wr;simp;omega
    simp[this]
   ·split
    ·rename_i hd;unfold XY;cases vF (c::r) with
     |true=>trivial
     |false=>
      refine⟨?_,XX _ _⟩;rw[yR];simp[hd]
    ·split
     ·rename_i a;unfold xC;split
      ·trivial
      ·refine⟨?_,XX _ _⟩;rw[yR];simp[isW,a]
     ·unfold xD;split
      ·trivial
      ·exact⟨Zd,zgG _⟩
theorem zau:∀(f:Nat) (l:List UInt8) (a:Nat) (g:Nat),l.length<=f->l.length<=g->Ws f a l=Ws g a l
 |0,l,a,g,h,b=>by
  have:l=[]:=UJ Zd;subst this;cases g<;>rfl
 |f+1,l,a,g,h,b=>by
  match l with
  |[]=>cases g<;>rfl
  |c::r=>
   match g,b with
   |g+1,b=>
    have hp:=W6 (l:=c::r) je;unfold Ws;simp only[R,jk,jp];cases i:nxt (c::r) with
    |err e=>rfl
    |skip n=>
     rw[i] at hp;simp only[wg] at hp |-
     exact zau f _ _ g jE jE
    |tok k n v=>
     rw[i] at hp;simp only[wg] at hp |-
     rw[zau f ((c::r).drop n) _ g jE jE]
theorem zcs(a:Nat):W5 a [] = .inr []:=rfl
theorem zdM (a:Nat) (h:l≠[]):W5 a l=match nxt l with
    | .skip n=>W5 (a+n) (l.drop n)
    | .err e =>.inl (a,e)
    | .tok k n v=>match W5 (a+n) (l.drop n) with
     | .inl x =>.inl x
     | .inr ts =>.inr (⟨k,lit (l.take n),v,a⟩::ts):=by
 match l,h with
 |c::r,_=>
  have hp:=W6 (l:=c::r) je;unfold W5;show Ws (r.length+1) a (c::r)=_;rw[Ws];simp only[R,jk,jp];cases b:nxt (c::r) with
  |err e=>rfl
  |skip n=>
   rw[b] at hp;simp only[wg] at hp |-
   exact zau _ _ _ _ jE (UD _)
  |tok k n v=>
   rw[b] at hp;simp only[wg] at hp |-
   rw[zau r.length ((c::r).drop n) _ ((c::r).drop n).length jE (UD _)]
theorem ziH(p:UInt8->Bool):∀l:List UInt8,l.take (Zp p l)=l.takeWhile p
 |[]=>rfl
 |c::l=>by
  rw[yR,K];cases p c with
  |true=>simp[ziH p l]
  |false=>simp
theorem zwV(p:UInt8->Bool)(l:List UInt8):∀c∈l.take (Zp p l),p c=true:=by
 rw[ziH]
 induction l with
 |nil=>simp
 |cons a l b=>
  rw[K];grind
theorem W7(h:(bs s).drop i=l)(a:l≠[]):i < s.size/\l.length=s.size - i:=by
 subst h;rw[UK,yh];refine⟨?_,rfl⟩;rcases Nat.lt_or_ge i s.size with h | h
 ·exact h
 ·exact absurd (Uy (by rw[yh];exact h)) a
theorem wz(h:(bs s).drop i=l)(a:l≠[])(b:n<=l.length):ZI s (i:Int) ((i+n:Nat):Int)=d (lit (l.take n)):=by
 obtain⟨h1,h2⟩:=W7 h a;rw[zmR Zd Zd];congr 1;apply zrB;rw[zph,wy,<- h,Q]
theorem Vt(h:(bs s).drop i=l)(a:l[n]?=d c):Zh s ((i+n:Nat):Int)=d (c.toNat:Int):=by
 apply XL;grind
theorem wL(l:List UInt8):(lit l).size=l.length:=by rw[<- yh,wy]
theorem zdN{M:Nat}(i:M=18446744073709551615):∀(l:List UInt8) (a:Nat),(∀c∈l,isD c=w)->a<=M->U M a l=if W4 a l<=M then .ok (W4 a l) else .range
 |[],a,_,ha=>by rw[jv (show W4 a []<=M from ha)];rfl
 |c::r,a,h,ha=>by
  have b:=h c je;simp only[isD,gf,jl] at b;have g:=zhT r (a * 10+(c.toNat - 48));have e:W4 a (c::r)=W4 (a * 10+(c.toNat - 48)) r:=rfl;rw[e];unfold U;rw[jv b];split
  ·grind
  ·split
   ·grind
   ·exact zdN i r _ (λx f=>h x (by simp[f])) Zd
theorem zrF(hl:l≠[])(h:∀c∈l,isD c=w):V 64 l=if YY l < 9223372036854775808 then .ok (YY l:Int) else .range:=by
 match l,hl with
 |c::r,_=>
  have hc:=h c (by simp);simp only[isD,gf,jl] at hc;have e43:¬ (c.toNat=43\/c.toNat=45):=by omega
  have e45:¬ c.toNat=45:=by omega
  unfold V Lib.parseUintB;simp only;rw[jx e43,jx (by simp)];generalize hM:(2 ^ 64 - 1:Nat)=M;generalize hB:(2 ^ (64 - 1):Nat)=B;have hM:M=18446744073709551615:=by rw[<- hM]
  have hB:B=9223372036854775808:=by rw[<- hB]
  rw[zdN hM _ _ h (by omega)];simp only[e45,false_and,ju,U9,jp]
  show(match(if YY (c::r)<=M then Lib.NumEnd.ok (YY (c::r)) else .range) with
   | .syntax=>Lib.NumEnd.syntax
   | .range =>.range
   | .ok u=>if B<=u then .range else .ok (u:Int))=_
  by_cases h1:YY (c::r)<=M
  ·rw[jv h1];simp only;by_cases h2:YY (c::r) < 9223372036854775808
   all_goals grind
  grind
abbrev tk0:qr:=⟨0,lit [],0,0⟩
theorem zrG {r:List UInt8}(hs:s.size<=16384) (p:(bs s).drop i=c::r) (hd:isD c=w) :
    qeh (s,(i:Int),((i+Zp isD (c::r):Nat):Int))=d (if vF (c::r) then(tk0,12) else(⟨3,lit ((c::r).take (Zp isD (c::r))),(YY ((c::r).take (Zp isD (c::r))):Nat),i⟩,0)):=by
 obtain⟨h1,h2⟩:=W7 p je;have x:=XX isD (c::r);have q:1<=Zp isD (c::r):=by rw[yR];simp[hd]
 generalize u:Zp isD (c::r)=n at *
 have a:=zwV isD (c::r);rw[u] at a;have m:(c::r).take n≠[]:=by
  match n,q with
  |n+1,_=>simp
 have e:((c::r).take n).length=n:=jE
 have g:((c::r).take n)[0]?=d c:=by
  grind
 have j:∀(X Y:Uv (qr×Int)),(if decide (((i+n:Nat):Int) < (s.size:Int))=w then(Zh s ((i+n:Nat):Int)).bind λy=>(q9c y).bind λz=>if z=w then X else Y else Y)=if zcr (c::r)[n]?=w then X else Y:=by
  intro X Y;by_cases hb:i+n < s.size
  · have:n < (c::r).length:=Zd
    have k:=UC this;generalize (c::r)[n]=b at k;rw[Vt p k,k];simp only[jl,jj,zat];rw[jv (E.2 hb)];rfl
  ·have:(c::r)[n]?=none:=UI Zd;rw[this];simp only[jl];rw[jx (λh=>hb (E.1 h))];rfl
 unfold qeh qh9;rw[show((s,(i:Int),((i+n:Nat):Int)):Ut×Int×Int).1=s from rfl];simp only;rw[wz p je Zd];simp only[jj,qei,wx,U9];rw[jv (by rw[wL,e];omega),show(lit ((c::r).take n)).data.toList=(c::r).take n from rfl,zrF m a];by_cases v:YY ((c::r).take n) < 9223372036854775808
 · rw[jv v];simp only[jj,jo];unfold vF;rw[u];by_cases o:1099511627776 < YY ((c::r).take n)
   ·grind
   · simp only[jl];rw[jx Zd,wL,e];have f:=j (d (qr.mk 0 (lit []) 0 0,12)) (d (qr.mk 3 (lit ((c::r).take n)) (YY ((c::r).take n):Nat) i,0));simp only[jl] at f;have e0:Zh (lit ((c::r).take n)) 0=d (c.toNat:Int):=XL (i:=0) g;by_cases t:1 < n
     · rw[jv Zd,e0];simp only[jj];by_cases l:c.toNat=48
       ·rw[jv Zd];have:c=48:=I.1 jE;grind
       · rw[jx Zd,f];have:¬ c=48:=λh=>l (by rw[h];rfl)
         simp only[o,t,this,js,jr,S,P.injEq,W,D4];grind
     ·rw[jx Zd,f];grind
 ·rw[jx v];simp only[jj,jm];unfold vF;grind
theorem zwW (hs:s.size<=16384) (c:(bs s).drop i=l) (b:l≠[]) (e:n<=l.length) :
    qgd (s,(i:Int),((i+n:Nat):Int))=d (if 16 < n then(tk0,13) else(⟨if zcq (l.take n) then 2 else 1,lit (l.take n),0,i⟩,0)):=by
 unfold qgd qhz;simp only;rw[wz c b e];have a:(l.take n).length=n:=jE
 simp only[jj,wL,a,jl,znm];by_cases h:16 < n
 ·grind
 ·rw[jx Zd,jx h];grind
theorem zdO(l:List UInt8)(a b:UInt8):q8k (lit l,lit [a,b])=d (decide (l.take 2=[a,b])):=by
 show((q51 (lit l,lit [a,b])).bind λy=>d y)=_;unfold q51;simp only[wL,jz,List.length_nil,jl];by_cases h:2<=l.length
 ·rw[jv Zd];have:ZI (lit l) 0 ((2:Nat):Int)=d (lit (l.take 2)):=by
   have:=wz (s:=lit l) (i:=0) (n:=2) (l:=l) rfl jE h;grind
  rw[show((0+1+1:Nat):Int)=((2:Nat):Int) from rfl,this];simp only[jj];congr 1;refine decide_eq_decide.2 ⟨λh=>?_,λh=>by rw[h]⟩;have:=congrArg bs h;simpa[wy] using this
 ·rw[jx Zd];have:l.take 2≠[a,b]:=by
   intro e;have:=congrArg F e;grind
  simp[this]
theorem V2:∀(l:List UInt8) (c:UInt8),(0<=H l c)↔l.contains c=w
 |[],c=>by simp[H]
 |b::l,c=>by
  have e:=V2 l c;have f:=Lib.indexByte_ge l c;unfold H;by_cases h:b=c
  ·subst h;simp
  ·have a:(b == c)=false:=by simpa using h
   have h2:(c == b)=false:=jE
   simp only[a,jk,jp,T,h2,D4];rw[<- e];grind
theorem zwX(b:l≠[]):qhi (lit l)=d (lit (l.take (YP l))):=by
 show(lpO (qcl q8k q8l) (lit l,(lit [45,62],lit [60,61],lit [61,61]),0)).bind _=_;have w1:Uw (0+1)=1:=jI
 have g:Uw (1+1)=2:=jI
 have m:Uw (2+1)=3:=jI
 have g0:∀A B C:Ut,vL [A,B,C] 0=d A:=λ_ _ _=>rfl
 have j:∀A B C:Ut,vL [A,B,C] 1=d B:=λ_ _ _=>rfl
 have g2:∀A B C:Ut,vL [A,B,C] 2=d C:=λ_ _ _=>rfl
 have a:two l=w->l.take 2=[45,62]\/l.take 2=[60,61]\/l.take 2=[61,61]:=by
  intro h;simpa[two] using h
 have loop:lpO (qcl q8k q8l) (lit l,(lit [45,62],lit [60,61],lit [61,61]),0)=d (if two l then .inl (lit (l.take 2)) else .inr (lit l)):=by
  rw[Zu];simp only[qcl,zdO,jj,g0,w1];by_cases h1:l.take 2=[45,62]
  ·simp[h1,two]
  ·simp only[h1,jr,jk,jp,jj];rw[show decide ((0:Int) < 3)=w from rfl];simp only[jq,jj];rw[Zu];simp only[qcl,zdO,jj,j,g];rw[show decide ((1:Int) < 3)=w from rfl];by_cases h2:l.take 2=[60,61]
   ·simp[h2,two]
   ·simp only[h2,jr,jk,jp,jj,jq];rw[Zu];simp only[qcl,zdO,jj,g2,m];rw[show decide ((2:Int) < 3)=w from rfl];by_cases f:l.take 2=[61,61]
    ·simp[f,two]
    ·simp only[f,jr,jk,jp,jj,jq];rw[Zu];simp only[qcl];grind
 rw[loop];unfold YP;by_cases e:two l=w
 ·grind
 ·rw[jx e,jx e]
  match l,b with
  |c::r,_=>
   have e0:Zh (lit (c::r)) 0=d (c.toNat:Int):=XL (i:=0) rfl;have k:ZI (lit (c::r)) 0 1=d (lit [c]):=by
    have:=wz (s:=lit (c::r)) (i:=0) (n:=1) (l:=c::r) rfl je je;grind
   simp only[jj,jm];rw[e0,k];simp only[jj,q8l,Wj,Int.toNat_natCast];have hb:(0<=H (lit [123,125,40,41,91,93,44,58,59,61,43,45,38,60]).data.toList c.toNat.toUInt8)↔sgn c=true:=by
    have:c.toNat.toUInt8=c:=by simp[Nat.toUInt8]
    rw[this];exact V2 _ c
   by_cases hs:sgn c=w
   ·grind
   grind
noncomputable abbrev zct:=qfg qcy qb9 qef qeh q9c qdk qgd qhi
theorem zpj (hs:s.size<=16384) (g:(bs s).drop i=l) (u:l≠[]) (out:Sl qr) :
    zct (s,(i:Int),out)=match nxt l with
     | .skip n=>d (.next (s,((i+n:Nat):Int),out))
     | .err e=>d (.done (.inl ((i:Int),e)))
     | .tok k n v=>(zo 40 out [⟨k,lit (l.take n),v,i⟩]).bind λo=>d (.next (s,((i+n:Nat):Int),o)):=by
 obtain⟨h1,h2⟩:=W7 g u
 match l,u with
 |c::r,_=>
  have X:Zh s (i:Int)=d (c.toNat:Int):=Vt (n:=0) g rfl;have a:=W6 (l:=c::r) je;simp only[zct,qfg];rw[jv (gm (E.2 h1)),X];simp only[jj];have m:((c.toNat:Int)=32)↔c.toNat=32:=Zd
  have t:((c.toNat:Int)=10)↔c.toNat=10:=Zd
  have q:((c.toNat:Int)=35)↔c.toNat=35:=Zd
  have B:∀(k:Int) (n:Nat) (v:Int),n<=(c::r).length->(zo 40 out [⟨k,lit ((c::r).take n),v,i⟩]).bind (λo=>d (Step.next (β:=Int×Int⊕Ut×Sl qr) (s,Uw ((i:Int)+((lit ((c::r).take n)).size:Int)),o)))=(zo 40 out [⟨k,lit ((c::r).take n),v,i⟩]).bind λo=>d (.next (s,((i+n:Nat):Int),o)):=by
   intro k n v Y;have C:(lit ((c::r).take n)).size=n:=by rw[wL,De];omega
   rw[C,V1 Zd]
  unfold nxt at a |-
  simp only at a |-
  by_cases hb:c.toNat=32\/c.toNat=10
  · rw[jv hb];simp only;rcases hb with hb | hb
    ·rw[jv (gm (m.2 hb))];simp[xU (n:=i) Zd]
    · have:¬ c.toNat=32:=Zd
      rw[jx (λh=>this (m.1 (Dn h)))];simp only[jj,jl];rw[jv (t.2 hb)];simp[xU (n:=i) Zd]
  · rw[jx hb] at a |-
    have A:¬ c.toNat=32:=λh=>hb (.inl h)
    have z:¬ c.toNat=10:=λh=>hb (.inr h)
    rw[jx (λh=>A (m.1 (Dn h)))];simp only[jj,jl];rw[jx (λh=>z (t.1 h))];by_cases f:c.toNat=35
    ·rw[jv (q.2 f),jv f,zrE Zd Zd,g];simp
    · rw[jx (λh=>f (q.1 h))];rw[jx f] at a |-
      simp only[zco,zat,jj];by_cases hd:isD c=w
      · rw[jv hd] at a;rw[jv hd,jv hd,zrD Zd Zd,g];simp only[jj];rw[zrG hs g hd];unfold XY at a |-
        by_cases b:vF (c::r)=w
        ·grind
        ·rw[jx b] at a;rw[jx b,jx b];simp only[wg] at a;simp only[jj,jm,Dc,jt,jp,gh,jo];grind
      · rw[jx hd] at a;rw[jx hd,jx hd];by_cases p:isL c=w
        · rw[jv p] at a;rw[jv p,jv p,zpi Zd Zd,g];simp only[jj];rw[zwW hs g je (XX _ _)];unfold xC at a |-
          by_cases j:16 < Zp isW (c::r)
          ·grind
          ·rw[jx j] at a;rw[jx j,jx j];simp only[wg] at a;simp only[jj,jm,Dc,jt,jp,gh,jo];grind
        · rw [jx p] at a;rw[jx p,jx p];have y:ZI s (i:Int) (s.size:Int)=d (lit (c::r)):=by
            have:=wz (n:=(c::r).length) g je (UD _);grind
          rw[y];simp only[jj];rw[zwX je];simp only[jj,jl];unfold xD at a |-
          by_cases h0:YP (c::r)=0
          ·grind
          · rw [jx h0] at a;have M:¬ lit ((c::r).take (YP (c::r)))=lit []:=by
              intro e;have:=congrArg (λx=>(bs x).length) e;simp only[wy] at this;grind
            rw[jx h0,jx M];simp only[wg] at a;simp only[jj,jm,Dc,jt,jp,gh,jo];grind
theorem ztY (hs:s.size<=16384):∀(n i:Nat) (acc:List qr) (nn:Bool),s.size - i<=n->i<=s.size->acc.length<=i->
    lpO zct (s,(i:Int),⟨acc,nn⟩)=d (match W5 i ((bs s).drop i) with
     | .inl x =>.inl ((x.1:Int),x.2)
     | .inr ts =>.inr (s,⟨acc++ts,nn || !ts.isEmpty⟩)):=by
 intro n
 induction n with
 |zero=>
  intro i acc nn h hi l;have:i=s.size:=Zd
  subst this;rw[Zu];have hd:(bs s).drop s.size=[]:=Uy (by rw[yh];grind);rw[hd,zcs];simp[zct,qfg]
 |succ n f=>
  intro i acc nn h hi l;rcases Nat.lt_or_ge i s.size with g | j
  · have a:(bs s).drop i≠[]:=by
      intro e;have:=congrArg F e;rw[UK,yh] at this;grind
    have hp:=W6 a;have c:((bs s).drop i).length=s.size - i:=by rw[UK,yh]
    rw[Zu,zpj hs rfl a,zdM _ a];cases b:nxt ((bs s).drop i) with
    |err e=>rfl
    |skip k=>
     rw[b] at hp;simp only[wg] at hp;simp only[jj,G];rw[f (i+k) acc nn Zd Zd Zd]
    |tok k m v=>
     rw[b] at hp;simp only[wg] at hp;simp only[G];rw[yy jE jE];simp only[jj];rw[f (i+m) _ _ Zd Zd jE];grind
  grind
def Z2(s:Ut):Int×Int×Sl qr:=if 16384 < s.size then(0,10,⟨[],D⟩) else match W5 0 (bs s) with
 | .inl x=>((x.1:Int),x.2,⟨[],D⟩)
 | .inr ts=>(0,0,⟨ts++[⟨0,lit [],0,s.size⟩],w⟩)
theorem V3:∀(m:Nat) (l:List UInt8) (i:Nat) (ts:List qr),l.length<=m->W5 i l = .inr ts->ts.length<=l.length
 |0,l,i,ts,hm,h=>by
  have:l=[]:=UJ Zd;subst this;rw[zcs] at h;cases h;simp
 |m+1,l,i,ts,hm,h=>by
  by_cases a:l=[]
  ·subst a;rw[zcs] at h;cases h;simp
  ·have hp:=W6 a;rw[zdM _ a] at h;cases b:nxt l with
   |err e=>grind
   |skip k=>
    rw[b] at h hp;simp only[wg] at hp;have:=V3 m _ _ _ jE h;grind
   |tok k n v=>
    rw[b] at h hp;simp only[wg] at hp;simp only at h;cases c:W5 (i+n) (l.drop n) with
    |inl x=>grind
    |inr us=>
     rw[c] at h;cases h;have:=V3 m _ _ _ jE c;grind
theorem zrH(s:Ut):qd7 s=d (Z2 s):=by
 unfold qd7 qha Z2;simp only[jl];by_cases h:16384 < s.size
 ·grind
 ·rw[jx Zd,jx h];have:=ztY (s:=s) Zd s.size 0 [] D Zd Zd je;rw[Dk] at this;rw[show((s,0,Sl.mk [] D):Ut×Int×Sl qr)=(s,((0:Nat):Int),⟨[],D⟩) from rfl,this];cases a:W5 0 (bs s) with
  |inl x=>rfl
  |inr ts=>
   have b:=V3 _ _ _ _ (UD _) a;rw[yh] at b;simp only[jj,jm,Dh,D4];rw[yy jE jE];simp
theorem zcu(b:UInt8):q30 (b.toNat:Int)=d (isL b):=zat b
theorem zdP(b:UInt8):q4u (b.toNat:Int)=d (isD b):=zco b
theorem ztZ(l:List UInt8):q43 (lit l)=d (zcq l):=znm l
theorem zwY(c:UInt8)(k:Nat)(a:k < 256):decide ((c.toNat:Int)=(k:Int))=decide (c=O k):=by
 refine decide_eq_decide.2 ⟨λh=>I.1 ?_,λh=>?_⟩
 ·rw[N jE];omega
 ·rw[h,N jE]
theorem zyF(c:UInt8):sgn c=(decide ((c.toNat:Int)=123) || (decide ((c.toNat:Int)=125) || (decide ((c.toNat:Int)=40) || (decide ((c.toNat:Int)=41) || (decide ((c.toNat:Int)=91) || (decide ((c.toNat:Int)=93) || (decide ((c.toNat:Int)=44) || (decide ((c.toNat:Int)=58) || (decide ((c.toNat:Int)=59) || (decide ((c.toNat:Int)=61) || (decide ((c.toNat:Int)=43) || (decide ((c.toNat:Int)=45) || (decide ((c.toNat:Int)=38) || decide ((c.toNat:Int)=60)))))))))))))):=by
 have h:∀k:Nat,k < 256->decide ((c.toNat:Int)=(k:Int))=(c == O k):=λk g=>by rw[zwY c k g];rfl
 have:=h 123 Zd;have h2:=h 125 Zd;have m:=h 40 Zd;have j:=h 41 Zd;have o:=h 91 Zd;have n:=h 93 Zd;have p:=h 44 Zd;have q:=h 58 Zd;have l:=h 59 Zd;have f:=h 61 Zd;have e:=h 43 Zd;have b:=h 45 Zd;have a:=h 38 Zd;have i:=h 60 Zd;simp only[Int.cast_ofNat_Int] at *
 simp only[sgn,T,List.contains_nil,L];grind
theorem zrI(h:l.length < 2):two l=false:=by
 have:∀a b:UInt8,¬ l.take 2=[a,b]:=by
  intro a b e;have:=congrArg F e;grind
 simp[two,this]
theorem zt0(hs:s.size<=16384)(j:(bs s).drop i=l)(g:l≠[]):q4f (s,(i:Int))=d (YP l:Int):=by
 obtain⟨h1,h2⟩:=W7 j g;unfold q4f qd8;simp only;rw[xU Zd];have p:Uw ((i:Int)+2)=((i+2:Nat):Int):=V1 (k:=2) Zd;rw[p]
 have first:((if decide (((i+1:Nat):Int) < (s.size:Int))=w then
       (ZI s (i:Int) ((i+2:Nat):Int)).bind λo=>d (s,(i:Int),o) else d (s,(i:Int),lit [])).bind λ(f:Ut×Int×Ut)=>(if decide (f.2.2=lit [45,62])=w then d (f.1,f.2.1,w) else if decide (f.2.2=lit [60,61])=w then d (f.1,f.2.1,w) else d (f.1,f.2.1,decide (f.2.2=lit [61,61]))))=d (s,(i:Int),two l):=by
  by_cases h:i+1 < s.size
  · rw[jv (gm (E.2 h)),wz j g Zd];simp only[jj,znl,wy,two];by_cases a:l.take 2=[45,62]
    ·simp[a]
    · by_cases b:l.take 2=[60,61]
      ·simp[b]
      ·simp only[a,b,jr,jk,jp,jj,D4];rfl
  · rw[jx (λx=>h (E.1 (Dn x)))];rw[zrI Zd];have:∀a b:UInt8,lit []≠lit [a,b]:=λa b e=>by have:=congrArg bs e;simp[wy] at this
    simp[this]
 rw[<- gh,first];simp only[jj];unfold YP;by_cases m:two l=w
 ·grind
 · rw[jx m,jx m]
   match l,g with
   |c::r,_=>
    have q:Zh s (i:Int)=d (c.toNat:Int):=Vt (n:=0) j rfl;rw[q];simp only[jj];have key:∀{X:Uv Bool} {b:Bool},X=d b->(X.bind λy=>if y=w then d (1:Int) else d 0)=d ((if b then 1 else 0:Nat):Int):=by
     grind
    rw[zyF];refine key ?_
    repeat (first | exact rfl | apply zlu | apply zlv)
theorem zAk(h:n<=255):IntKind.u8.wrap (n:Int)=n:=by
 simp only[Uw,IntKind.wrap,IntKind.bits,IntKind.signed];simp;omega
def Wt(n:Nat)(g:Bool):List UInt8->Nat×Bool
 |[]=>(n,g)
 |c::r=>let a:=if n<=1099511627776 then n * 10+(c.toNat - 48) else n
  Wt a (if 1099511627776 < a then w else g) r
theorem zgH:∀(l:List UInt8) (n:Nat),(Wt n w l).2=w
 |[],n=>rfl
 |c::r,n=>by
  unfold Wt;simp only[ite_self];exact zgH r _
theorem znn:∀(l:List UInt8) (n:Nat),n<=1099511627776->if 1099511627776 < W4 n l then(Wt n D l).2=w else Wt n D l=(W4 n l,D)
 |[],n,h=>by
  rw[jx (by show¬ 1099511627776 < n;omega)];rfl
 |c::r,n,h=>by
  have e:W4 n (c::r)=W4 (n * 10+(c.toNat - 48)) r:=rfl;rw[e];unfold Wt;simp only[jv h];by_cases h2:1099511627776 < n * 10+(c.toNat - 48)
  ·have:=zhT r (n * 10+(c.toNat - 48));rw[jv Zd,jv h2];exact zgH r _
  ·rw[jx h2];exact znn r _ Zd
abbrev RT:=q9×q9
noncomputable abbrev zhU:=q7w q30 q4u q43 q4f
noncomputable abbrev zgI:=q7x q30 q4u q43 q4f
theorem ziI(hs:s.size<=16384)(a:Int)(t:RT):∀(n i:Nat),s.size - i=n->i<=s.size->lpO zhU (s,a,(i:Int),t)=d (s,a,((i+Zp isW ((bs s).drop i):Nat):Int),t)
 |0,i,hn,hi=>by
  have:i=s.size:=Zd
  subst this;rw[Zu];simp[zhU,q7w,Uy,yh,zcn]
 |n+1,i,hn,hi=>by
  have b:i < s.size:=Zd
  obtain⟨c,h,hd⟩:=zas (l:=bs s) (i:=i) (by rw[yh];exact b);rw[Zu];simp only[zhU,q7w,jl];rw[jv (E.2 b),XL h];simp only[jj,zcu,zdP];rw[hd,yR];have j:=ziI hs a t n (i+1) Zd Zd;have f:=xU (n:=i) Zd;cases e:isL c with
  |true=>
   simp only[isW,e,Bool.true_or,Dg,jk,jp,jq,jj,f];grind
  |false=>
   cases g:isD c with
   |true=>
    simp only[isW,e,g,Bool.or_true,Dg,Dy,jk,jp,jq,jj,f];grind
   |false=>simp[isW,e,g]
theorem zlw (hs:s.size<=16384) (a:Int) (t:RT):∀(n i m:Nat) (g:Bool),m<=10995116277769->s.size - i=n->i<=s.size->
    lpO zgI (s,a,(i:Int),(m:Int),g,t)=d (s,a,((i+Zp isD ((bs s).drop i):Nat):Int),((Wt m g (((bs s).drop i).take (Zp isD ((bs s).drop i)))).1:Int),(Wt m g (((bs s).drop i).take (Zp isD ((bs s).drop i)))).2,t)
 |0,i,m,g,hm,hn,hi=>by
  have:i=s.size:=Zd
  subst this;rw[Zu];simp[zgI,q7x,Uy,yh,zcn,Wt]
 |n+1,i,m,g,hm,hn,hi=>by
  have e:i < s.size:=Zd
  obtain⟨c,q,hd⟩:=zas (l:=bs s) (i:=i) (by rw[yh];exact e);rw[Zu];simp only[zgI,q7x,jl];rw[jv (E.2 e),XL q];simp only[jj,zdP];rw[hd,yR];cases u:isD c with
  |false=>simp[Wt]
  |true=>
   have j:=u;simp only[isD,gf,jl] at j;simp only[Dg,jk,jp,jq];have r:Uw (IntKind.u8.wrap ((c.toNat:Int) - 48))=((c.toNat - 48:Nat):Int):=by
    have:((c.toNat:Int) - 48)=((c.toNat - 48:Nat):Int):=Zd
    rw[this,zAk Zd,zlt Zd]
   have o:Uw (Uw ((m:Int) * 10)+((c.toNat - 48:Nat):Int))=((m * 10+(c.toNat - 48):Nat):Int):=by
    have:((m:Int) * 10)=((m * 10:Nat):Int):=Zd
    rw[this,zlt Zd,V1 Zd]
   rw[r,o];have v:=xU (n:=i) Zd;have p:(if m<=1099511627776 then m * 10+(c.toNat - 48) else m)<=10995116277769:=jE
   have step:∀(b:Nat),b<=10995116277769->lpO zgI (s,a,((i+1:Nat):Int),(b:Int),(if 1099511627776 < b then w else g),t)=d (s,a,((i+(Zp isD ((bs s).drop (i+1))+1):Nat):Int),((Wt b (if 1099511627776 < b then w else g) (((bs s).drop (i+1)).take (Zp isD ((bs s).drop (i+1))))).1:Int),(Wt b (if 1099511627776 < b then w else g) (((bs s).drop (i+1)).take (Zp isD ((bs s).drop (i+1))))).2,t):=by
    intro b k;refine(zlw hs a t n (i+1) b _ k Zd Zd).trans ?_;congr 4;omega
   simp only[List.take_succ_cons,Wt];by_cases f:m<=1099511627776
   · rw[jv (Zd:(m:Int)<=1099511627776)];simp only[jv f,jj];rw[<- step _ Zd];by_cases h:1099511627776 < m * 10+(c.toNat - 48)
     ·rw[jv (Zd:(1099511627776:Int) < ((m * 10+(c.toNat - 48):Nat):Int)),jv h];grind
     ·rw[jx (Zd:¬ (1099511627776:Int) < ((m * 10+(c.toNat - 48):Nat):Int)),jx h];grind
   · rw[jx (Zd:¬ (m:Int)<=1099511627776)];simp only[jx f,jj];rw[<- step _ hm];have h:1099511627776 < m:=Zd
     grind
abbrev zyG:q9:=⟨0,lit [],0,0⟩
def rNx(i:Nat)(l:List UInt8):Nx->q9×Int
 | .tok k n v=>(⟨k,lit (l.take n),v,i⟩,0)
 | .err e=>(zyG,e)
 | .skip _=>(zyG,0)
theorem zwZ {r:List UInt8}(hs:s.size<=16384) (g:(bs s).drop i=c::r) :
    q6r (s,(i:Int))=d (rNx i (c::r) (if isD c then XY (c::r) else if isL c then xC (c::r) else xD (c::r))):=by
 obtain⟨h1,h2⟩:=W7 g je;have B:Zh s (i:Int)=d (c.toNat:Int):=Vt (n:=0) g rfl;unfold q6r qdl;simp only;rw[B];simp only[jj,zcu,zdP];by_cases m:isL c=w
 · have k:isD c=false:=by
     simp only[isL,UH,gf,jl] at m;simp only[isD,Bool.and_eq_false_imp,jl,decide_eq_false_iff_not];omega
   rw[jv m];have e:=ziI hs (i:Int) ((⟨0,lit [],0,0⟩,⟨0,lit [],0,(i:Int)⟩):RT) _ i rfl Zd;rw[g] at e;rw[show lpO (q7w q30 q4u q43 q4f) (s,(i:Int),(i:Int),(⟨0,lit [],0,0⟩:q9),(⟨0,lit [],0,(i:Int)⟩:q9))=_ from e];simp only[jj];rw[wz g je (XX _ _)];have t:((c::r).take (Zp isW (c::r))).length=Zp isW (c::r):=by rw[De];have:=XX isW (c::r);omega
   simp only[jj,wL,t,jl,ztZ];rw[k];simp only[jk,jp,m,jq];unfold xC;by_cases h:16 < Zp isW (c::r)
   ·rw[jv Zd,jv h];rfl
   · rw[jx Zd,jx h];by_cases v:zcq ((c::r).take (Zp isW (c::r)))=w
     ·rw[jv v,jv v];rfl
     ·rw[jx v,jx v];rfl
 · rw[jx m];simp only[jj,jm];by_cases k:isD c=w
   · rw[jv k,jv k];have C:=XX isD (c::r);have Z:1<=Zp isD (c::r):=by rw[yR];simp[k]
     have e:=zlw hs (i:Int) ((⟨0,lit [],0,0⟩,⟨0,lit [],0,(i:Int)⟩):RT) _ i 0 D Zd rfl Zd;rw[g] at e;rw[show lpO (q7x q30 q4u q43 q4f) (s,(i:Int),(i:Int),0,D,(⟨0,lit [],0,0⟩:q9),(⟨0,lit [],0,(i:Int)⟩:q9))=_ from e];have a:=znn ((c::r).take (Zp isD (c::r))) 0 Zd;have Y:W4 0 ((c::r).take (Zp isD (c::r)))=YY ((c::r).take (Zp isD (c::r))):=rfl;rw[Y] at a;unfold XY vF;generalize hnr:Zp isD (c::r)=n at *
     generalize hpq:Wt 0 D ((c::r).take n)=pq at *
     obtain⟨p,q⟩:=pq;simp only[jj,jl];have l:(if(((i+n:Nat):Int) < (s.size:Int)) then(Zh s ((i+n:Nat):Int)).bind λy=>(q30 y).bind λz=>d (s,(i:Int),((i+n:Nat):Int),(p:Int),q,z,((⟨0,lit [],0,0⟩,⟨0,lit [],0,(i:Int)⟩):RT)) else d (s,(i:Int),((i+n:Nat):Int),(p:Int),q,D,(((⟨0,lit [],0,0⟩,⟨0,lit [],0,(i:Int)⟩):RT):RT)))=d (s,(i:Int),((i+n:Nat):Int),(p:Int),q,zcr (c::r)[n]?,(((⟨0,lit [],0,0⟩,⟨0,lit [],0,(i:Int)⟩):RT):RT)):=by
      by_cases hb:i+n < s.size
      · have:n < (c::r).length:=Zd
        have A:=UC this;generalize (c::r)[n]=b at A;rw[Vt g A,A];simp only[jj,zcu];rw[jv (E.2 hb)];rfl
      ·have:(c::r)[n]?=none:=UI Zd;rw[this,jx (λh=>hb (E.1 h))];rfl
     rw[show(if(((i+n:Nat):Int) < (s.size:Int)) then(Zh s ((i+n:Nat):Int)).bind λy=>(q30 y).bind λz=>d (s,(i:Int),((i+n:Nat):Int),(p:Int),q,z,((⟨0,lit [],0,0⟩,⟨0,lit [],0,(i:Int)⟩):RT)) else d (s,(i:Int),((i+n:Nat):Int),(p:Int),q,D,(((⟨0,lit [],0,0⟩,⟨0,lit [],0,(i:Int)⟩):RT):RT)))=_ from l];simp only[jj,B];have e1:((i:Int)+1)=((i+1:Nat):Int):=Zd
     have X:=xU (n:=i) Zd;by_cases f:1099511627776 < YY ((c::r).take n)
     ·rw[jv f] at a;simp only at a;subst a;simp[f,rNx]
     · rw[jx f] at a;simp only[Prod.mk.injEq] at a;obtain⟨hp,hq⟩:=a;subst hp hq;simp only[jk,jp];cases M:zcr (c::r)[n]? with
       |true=>simp[f,rNx]
       |false=>
        simp only[jk,jp,X];have u:((c.toNat:Int)=48)↔c=48:=by
         constructor
         ·intro h;exact I.1 jE
         ·intro h;rw[h];rfl
        by_cases j:c=48
        · rw[jv (u.2 j)];simp only[jj];by_cases o:1 < n
          · have:((i+1:Nat):Int) < ((i+n:Nat):Int):=Zd
            simp[f,o,j,this,rNx];grind
          · have:¬ ((i+1:Nat):Int) < ((i+n:Nat):Int):=Zd
            simp only[this,jr,jk,jp,f,o,Bool.false_and,L];rw[wz g je C];rfl
        ·rw[jx (λh=>j (u.1 h))];simp only[jj,jk,jp];rw[wz g je C];simp only[f,j,jr,S,P.injEq,W,L,jk,jp];rfl
   · rw[jx k,jx k,jx m];simp only[jj,jm];rw[zt0 hs g je];simp only[jj,jl];unfold xD;have x:=zgG (c::r);by_cases h0:YP (c::r)=0
     ·rw[jv Zd,jv h0];rfl
     ·rw[jx Zd,jx h0,V1 Zd,wz g je x];rfl
theorem ziJ(hs:s.size<=16384){f:Ut×Int->Uv (q9×Int)}(out:Sl q9):∀(n i:Nat),s.size - i=n->i<=s.size->lpO (q8c f) (s,(i:Int),out)=d (s,((i+Zp Wr ((bs s).drop i):Nat):Int),out)
 |0,i,hn,hi=>by
  have:i=s.size:=Zd
  subst this;rw[Zu];simp[q8c,Uy,yh,zcn]
 |n+1,i,hn,hi=>by
  have a:i < s.size:=Zd
  obtain⟨c,g,hd⟩:=zas (l:=bs s) (i:=i) (by rw[yh];exact a);rw[Zu];simp only[q8c,jl];rw[jv (E.2 a),XL g];have e:=xU (n:=i) Zd;simp only[jj,e];rw[hd,yR];have b:((c.toNat:Int)≠10)↔Wr c=true:=by simp only[Wr,jl];omega
  by_cases h:Wr c=w
  ·rw[jv (gm (b.2 h)),jv h];simp only[jj];refine(ziJ hs out n (i+1) Zd Zd).trans ?_;congr 3;omega
  grind
abbrev toR(t:qr):q9:=⟨t.k_,t.T_,t.n_,t.a_⟩
noncomputable abbrev zeq:=q8d q6r
theorem zyH(a:l≠[]){e:Int}(h:nxt l = .err e):e≠0:=by
 match l,a with
 |c::r,_=>
  unfold nxt at h;simp only at h;split at h
  ·cases h
  ·split at h
   ·cases h
   ·split at h
    ·unfold XY at h;grind
    ·split at h
     ·unfold xC at h;grind
     ·unfold xD at h;grind
theorem zt1 (hs:s.size<=16384) (u:(bs s).drop i=l) (g:l≠[]) (out:Sl q9) :
    zeq (s,(i:Int),out)=match nxt l with
     | .skip n=>d (.next (s,((i+n:Nat):Int),out))
     | .err e=>d (.done (.inl ((i:Int),e)))
     | .tok k n v=>(zo 40 out [⟨k,lit (l.take n),v,i⟩]).bind λo=>d (.next (s,((i+n:Nat):Int),o)):=by
 obtain⟨h1,h2⟩:=W7 u g
 match l,g with
 |c::r,g=>
  have A:Zh s (i:Int)=d (c.toNat:Int):=Vt (n:=0) u rfl;have b:=W6 (l:=c::r) je;have a:=λe=>zyH (l:=c::r) je (e:=e)
  simp only[zeq,q8d];rw[jv (gm (E.2 h1)),A];have M:=xU (n:=i) Zd;simp only[jj];have m:((c.toNat:Int)=32)↔c.toNat=32:=Zd
  have t:((c.toNat:Int)=10)↔c.toNat=10:=Zd
  have q:((c.toNat:Int)=35)↔c.toNat=35:=Zd
  unfold nxt at b a |-
  simp only at b a |-
  by_cases hb:c.toNat=32\/c.toNat=10
  · rw[jv hb];simp only;rcases hb with hb | hb
    ·grind
    · have:¬ c.toNat=32:=Zd
      rw[jx (λh=>this (m.1 (Dn h)))];grind
  · rw[jx hb] at b a |-
    have z:¬ c.toNat=32:=λh=>hb (.inl h)
    have p:¬ c.toNat=10:=λh=>hb (.inr h)
    rw[jx (λh=>z (m.1 (Dn h)))];simp only[jj,jl];rw[jx (λh=>p (t.1 h)),A];simp only[jj];by_cases j:c.toNat=35
    ·have C:=ziJ hs (f:=q6r) out _ i rfl Zd;grind
    · rw[jx (λh=>j (q.1 h))];rw[jx j] at b a |-
      rw[zwZ hs u];have y:∀n,(if isD c=w then XY (c::r) else if isL c=w then xC (c::r) else xD (c::r)) ≠.skip n:=by
       intro n h;split at h
       ·unfold XY at h;grind
       · split at h
         ·unfold xC at h;grind
         ·unfold xD at h;grind
      generalize (if isD c=w then XY (c::r) else if isL c=w then xC (c::r) else xD (c::r))=x at b a y;cases x with
      |skip n=>
       grind
      |err e=>
       have:=a e rfl;simp only[rNx,jj];grind
      |tok k n v=>
       simp only[wg] at b;simp only[rNx,jj,Dc,jt,jp,gh,jo];have B:(lit ((c::r).take n)).size=n:=by rw[wL,De];omega
       rw[B,V1 Zd]
theorem zrJ (hs:s.size<=16384):∀(n i:Nat) (acc:List q9) (nn:Bool),s.size - i<=n->i<=s.size->acc.length<=i->
    lpO zeq (s,(i:Int),⟨acc,nn⟩)=d (match W5 i ((bs s).drop i) with
     | .inl x =>.inl ((x.1:Int),x.2)
     | .inr ts =>.inr (s,⟨acc++ts.map toR,nn || !ts.isEmpty⟩)):=by
 intro n
 induction n with
 |zero=>
  intro i acc nn h hi l;have:i=s.size:=Zd
  subst this;rw[Zu];have hd:(bs s).drop s.size=[]:=Uy (by rw[yh];grind);rw[hd,zcs];simp[zeq,q8d]
 |succ n f=>
  intro i acc nn h hi l;rcases Nat.lt_or_ge i s.size with g | j
  · have a:(bs s).drop i≠[]:=by
      intro e;have:=congrArg F e;rw[UK,yh] at this;grind
    have hp:=W6 a;have c:((bs s).drop i).length=s.size - i:=by rw[UK,yh]
    rw[Zu,zt1 hs rfl a,zdM _ a];cases b:nxt ((bs s).drop i) with
    |err e=>rfl
    |skip k=>
     rw[b] at hp;simp only[wg] at hp;simp only[jj,G];rw[f (i+k) acc nn Zd Zd Zd]
    |tok k m v=>
     rw[b] at hp;simp only[wg] at hp;simp only[G];rw[yy jE jE];simp only[jj];rw[f (i+m) _ _ Zd Zd jE];grind
  grind
theorem zpk(s:Ut):q71 s=d ((Z2 s).1,(Z2 s).2.1,⟨(Z2 s).2.2.xs.map toR,(Z2 s).2.2.nn⟩):=by
 unfold q71 qbv Z2;simp only[jl];by_cases h:16384 < s.size
 ·grind
 ·rw[jx Zd,jx h];have:=zrJ (s:=s) Zd s.size 0 [] D Zd Zd je;rw[Dk] at this;rw[show((s,0,Sl.mk [] D):Ut×Int×Sl q9)=(s,((0:Nat):Int),⟨[],D⟩) from rfl,this];cases a:W5 0 (bs s) with
  |inl x=>rfl
  |inr ts=>
   have b:=V3 _ _ _ _ (UD _) a;rw[yh] at b;simp only[jj,jm,Dh,D4];rw[yy jE jE];simp
end Go.Px
