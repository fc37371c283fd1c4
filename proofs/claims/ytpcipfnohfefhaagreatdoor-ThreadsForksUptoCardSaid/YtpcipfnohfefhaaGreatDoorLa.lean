/- Part La: Px01A Px01B Px01C Px01D Px22TE Px22TF. -/
import Derived.Test.YtpcipfnohfefhaaGreatDoorA9
set_option linter.unusedVariables false
set_option linter.unusedSimpArgs false
namespace Go.Px
open Bool renaming true->w,false->D,or_false->L,and_false->W
open Go.Lib renaming indexByte->H,parseUintM->U,parseIntB->V
open Int renaming ofNat_lt->E
open List renaming length->F,drop_drop->G,takeWhile_cons->K,take_drop->Q,isEmpty_cons->R,head?_cons->S,contains_cons->T
open _root_.Option renaming some->d,some->P
open UInt8 renaming toNat_inj->I,toNat_ofNat_of_lt'->N,ofNat->O
variable{X:Us Bool}{b:Bool}{c:UInt8}{i n:Nat}{l:List UInt8}{s:Uq}
abbrev bs(s:Uq):List UInt8:=s.data.toList
theorem yd(s:Uq):(bs s).length=s.size:=by cases s;simp[bs,ByteArray.size]
theorem zrj{t:Uq}(h:bs s=bs t):s=t:=by
 cases s;cases t;congr 1;exact Array.toList_inj.1 h
theorem X4(l:List UInt8):bs (lit l)=l:=rfl
theorem Zs{s β:Type}(f:s->Us (Step s β))(x:s):lpO f x=(f x).bind fun | .next x'=>lpO f x' | .done y=>d y:=zrX f x
theorem Xz(h:(bs s)[i]?=d c):Zf s (i:Int)=d (c.toNat:Int):=by
 unfold Zf;grind
theorem V3(h:i < l.length):∃c,l[i]?=d c/\l.drop i=c::l.drop (i+1):=
 ⟨l[i],U6 h,Dc h⟩
theorem zoK(s:Uq)(i j:Nat):bs (s.extract i j)=((bs s).take j).drop i:=by
 show(s.extract i j).data.toList=_;rw[ByteArray.data_extract];simp[Array.toList_extract,List.extract,Q];by_cases h:i<=j
 ·grind
 ·have h1:j - i=0:=by omega
  rw[h1];simp;omega
theorem zmj{j:Nat}(h1:i<=j)(h2:j<=s.size):ZJ s (i:Int) (j:Int)=d (s.extract i j):=by
 unfold ZJ;grind
theorem zkZ(h:n < 9223372036854775808):Ut (n:Int)=n:=zK (by omega) (by omega)
theorem Vz{k:Nat}(h:n+k < 9223372036854775808):Ut ((n:Int)+(k:Int))=((n+k:Nat):Int):=by
 rw[zK (by omega) (by omega)];simp
theorem xL(h:n+1 < 9223372036854775808):Ut ((n:Int)+1)=((n+1:Nat):Int):=by
 rw[zK (by omega) (by omega)];simp
def Zn(p:UInt8->Bool)(l:List UInt8):Nat:=(l.takeWhile p).length
theorem zbT(p:UInt8->Bool):Zn p []=0:=rfl
theorem yM(p:UInt8->Bool)(c:UInt8)(l:List UInt8):Zn p (c::l)=if p c then Zn p l+1 else 0:=by
 unfold Zn;rw[K];split<;>simp
theorem XL(p:UInt8->Bool):∀l:List UInt8,Zn p l<=l.length
 |[]=>U7 _
 |c::l=>by rw[yM];split<;>simp;exact XL p l
def isL(b:UInt8):Bool:=(decide (97<=b.toNat) && decide (b.toNat<=122)) || decide (b.toNat=95)
def isD(b:UInt8):Bool:=decide (48<=b.toNat) && decide (b.toNat<=57)
def isW(b:UInt8):Bool:=isL b || isD b
def w5(b:UInt8):Bool:=decide (b.toNat≠10)
theorem zbU(b:UInt8):qac (b.toNat:Int)=d (isD b):=by
 simp only[qac,qh3,isD,jk];split
 ·rename_i h;have:48<=b.toNat:=by omega
  simp[this];omega
 grind
theorem V4(b:UInt8):q8k (b.toNat:Int)=d (isL b):=by
 simp only[q8k,qgm,isL,jk];have e1:(97<=(b.toNat:Int))↔97<=b.toNat:=by omega
 have e2:((b.toNat:Int)<=122)↔b.toNat<=122:=by omega
 have e3:((b.toNat:Int)=95)↔b.toNat=95:=by omega
 grind
theorem zrk(b:UInt8):qdj (b.toNat:Int)=d (isW b):=by
 simp only[qdj,qgn,V4,zbU,isW,ji];grind
theorem ztD(b:UInt8):qbt (b.toNat:Int)=d (w5 b):=by
 simp only[qbt,qfl,w5];congr 1;grind
theorem zbV {f:Int->Us Bool}{p:UInt8->Bool}(hf:∀c:UInt8,f (c.toNat:Int)=d (p c)) (hs:s.size < 4611686018427387904) :
    ∀(n i:Nat),s.size - i=n->i<=s.size->lpO (q6g f) (s,(i:Int))=d ((i+Zn p ((bs s).drop i):Nat):Int)
  |0,i,hn,hi=>by
    have:i=s.size:=by omega
    subst this;rw[Zs];simp[q6g,Uv,yd,zbT]
  |n+1,i,hn,hi=>by
    have hlt:i < s.size:=by omega
    obtain⟨c,hc,hd⟩:=V3 (l:=bs s) (i:=i) (by rw[yd];exact hlt);rw[Zs];simp only[q6g,jk];rw[ju (E.2 hlt),Xz hc];simp only[ji,hf];rw[hd,yM];cases hp:p c with
    |true=>
      simp only[jp,ji];rw[xL (by omega),zbV hf hs n (i+1) (by omega) (by omega)];grind
    |false=>simp
theorem zrl(hs:s.size < 4611686018427387904)(hi:i<=s.size):qdi (s,(i:Int))=d ((i+Zn isD ((bs s).drop i):Nat):Int):=by
 show(lpO (q6g qac) (s,(i:Int))).bind d=_;rw[zbV zbU hs _ i rfl hi];rfl
theorem zoL(hs:s.size < 4611686018427387904)(hi:i<=s.size):qcc (s,(i:Int))=d ((i+Zn isW ((bs s).drop i):Nat):Int):=by
 show(lpO (q6g qdj) (s,(i:Int))).bind d=_;rw[zbV zrk hs _ i rfl hi];rfl
theorem zrm(hs:s.size < 4611686018427387904)(hi:i<=s.size):qbn (s,(i:Int))=d ((i+Zn w5 ((bs s).drop i):Nat):Int):=by
 show(lpO (q6g qbt) (s,(i:Int))).bind d=_;rw[zbV ztD hs _ i rfl hi];rfl
def zbW(l:List UInt8):Bool:=decide (l=[116,121,112,101]) || (decide (l=[102,110]) || (decide (l=[111,119,110]) || (decide (l=[99,101,108,108]) || (decide (l=[99,111,117,110,116,101,100]) || (decide (l=[108,111,99,107]) || (decide (l=[103,117,97,114,100]) || (decide (l=[119,104,101,114,101]) || (decide (l=[105,110,116]) || (decide (l=[109,117,116]) || (decide (l=[102,114,101,101]) || (decide (l=[117,110,108,111,99,107]) || (decide (l=[105,102]) || (decide (l=[101,108,115,101]) || (decide (l=[119,104,105,108,101]) || (decide (l=[114,101,116,117,114,110]) || (decide (l=[97,98,111,114,116]) || (decide (l=[102,111,114,107]) || (decide (l=[110,101,119]) || (decide (l=[97,114,114,97,121]))))))))))))))))))))
theorem zk0{p:Prop}[Decidable p](h:X=d b):(if decide p=w then d (decide p) else X)=d (decide p || b):=by
 grind
theorem zk1(h:X=d b):(X.bind λy=>d y)=d b:=by subst h;rfl
theorem zwL(h:X=d b):(X.bind λy=>if y=w then d w else d D)=d b:=by grind
theorem zmO(s:Uq)(l:List UInt8):decide (s=lit l)=decide (bs s=l):=by
 refine decide_eq_decide.2 ⟨λh=>by rw[h];rfl,λh=>zrj h⟩
theorem zyN(s:Uq):qe6 s=d (zbW (bs s)):=by
 simp only[qe6,qh4,zbW,<- zmO];refine zwL ?_
 repeat (first | exact rfl | apply zk0 | apply zk1)
theorem zmP(l:List UInt8):qe6 (lit l)=d (zbW l):=zyN (lit l)
def WA(a:Nat):List UInt8->Nat
 |[]=>a
 |c::r=>WA (a * 10+(c.toNat - 48)) r
def YP(l:List UInt8):Nat:=WA 0 l
theorem zhn:∀(l:List UInt8) (a:Nat),a<=WA a l
 |[],a=>U7 _
 |c::r,a=>U9 (by omega) (zhn r _)
def sgn(c:UInt8):Bool:=[123,125,40,41,91,93,44,58,59,61,43,45,38,60].contains c
def two(l:List UInt8):Bool:=decide (l.take 2=[45,62]) || (decide (l.take 2=[60,61]) || decide (l.take 2=[61,61]))
def YF(l:List UInt8):Nat:=if two l then 2 else match l with
 |[]=>0
 |c::_=>if sgn c then 1 else 0
inductive Nx where
 |skip (n:Nat)
 |tok (k:Int) (n:Nat) (v:Int)
 |err (e:Int)
def zbX:Us UInt8->Bool
 |some c=>isL c
 |none=>D
def W7(l:List UInt8):Bool:=decide (1099511627776 < YP (l.take (Zn isD l))) || ((decide (1 < Zn isD l) && decide (l.head?=d 48)) || zbX l[Zn isD l]?)
def XM(l:List UInt8):Nx:=if W7 l then .err 12 else .tok 3 (Zn isD l) (YP (l.take (Zn isD l)))
def xv(l:List UInt8):Nx:=if 16 < Zn isW l then .err 13 else .tok (if zbW (l.take (Zn isW l)) then 2 else 1) (Zn isW l) 0
def xw(l:List UInt8):Nx:=if YF l=0 then .err 11 else .tok 4 (YF l) 0
def nxt(l:List UInt8):Nx:=match l with
 |[] =>.err 11
 |c::r=>if c.toNat=32\/c.toNat=10 then .skip 1 else if c.toNat=35 then .skip (Zn w5 (c::r)) else if isD c then XM (c::r) else if isL c then xv (c::r) else xw (c::r)
def w6:Nat->Nat->List UInt8->(Nat×Int)⊕List qn
 |0,_,_ =>.inr []
 |f+1,at_,l=>if l.isEmpty then .inr [] else match nxt l with
  | .skip n=>w6 f (at_+n) (l.drop n)
  | .err e =>.inl (at_,e)
  | .tok k n v=>match w6 f (at_+n) (l.drop n) with
   | .inl x =>.inl x
   | .inr ts =>.inr (⟨k,lit (l.take n),v,at_⟩::ts)
def WB(at_:Nat)(l:List UInt8):(Nat×Int)⊕List qn:=w6 l.length at_ l
theorem zf8(l:List UInt8):YF l<=l.length:=by
 unfold YF;split
 ·rename_i h;unfold two at h
  match l with
  |[]=>simp at h
  |[a]=>simp at h
  |a::b::r=>simp
 grind
def XZ(m:Nat):Nx->Prop
 | .skip n=>1<=n/\n<=m
 | .tok _ n _=>1<=n/\n<=m
 | .err _=>True
theorem WC(h:l≠[]):XZ l.length (nxt l):=by
 match l,h with
 |c::r,_=>
  show XZ (c::r).length (if c.toNat=32\/c.toNat=10 then .skip 1 else if c.toNat=35 then .skip (Zn w5 (c::r)) else if isD c then XM (c::r) else if isL c then xv (c::r) else xw (c::r));split
  ·exact⟨by omega,by simp⟩
  ·rename_i h1;split
   ·rename_i h2;refine⟨?_,XL _ _⟩;rw[yM];have:w5 c=true:=by unfold w5;simp;omega
    simp[this]
   ·split
    ·rename_i hd;unfold XM;cases W7 (c::r) with
     |true=>trivial
     |false=>
      refine⟨?_,XL _ _⟩;rw[yM];simp[hd]
    ·split
     ·rename_i hl;unfold xv;split
      ·trivial
      ·refine⟨?_,XL _ _⟩;rw[yM];simp[isW,hl]
     ·unfold xw;split
      ·trivial
      ·exact⟨by omega,zf8 _⟩
theorem V5:∀(f:Nat) (l:List UInt8) (at_:Nat) (g:Nat),l.length<=f->l.length<=g->w6 f at_ l=w6 g at_ l
 |0,l,at_,g,h,hg=>by
  have:l=[]:=UD (by omega);subst this;cases g<;>rfl
 |f+1,l,at_,g,h,hg=>by
  match l with
  |[]=>cases g<;>rfl
  |c::r=>
   match g,hg with
   |g+1,hg=>
    have hp:=WC (l:=c::r) (by simp);unfold w6;simp only[R,jj,jo];cases hn:nxt (c::r) with
    |err e=>rfl
    |skip n=>
     rw[hn] at hp;simp only[XZ] at hp |-
     exact V5 f _ _ g (by grind) (by grind)
    |tok k n v=>
     rw[hn] at hp;simp only[XZ] at hp |-
     rw[V5 f ((c::r).drop n) _ g (by grind) (by grind)]
theorem zbY(at_:Nat):WB at_ [] = .inr []:=rfl
theorem zde (at_:Nat) (h:l≠[]):WB at_ l=match nxt l with
    | .skip n=>WB (at_+n) (l.drop n)
    | .err e =>.inl (at_,e)
    | .tok k n v=>match WB (at_+n) (l.drop n) with
      | .inl x =>.inl x
      | .inr ts =>.inr (⟨k,lit (l.take n),v,at_⟩::ts):=by
  match l,h with
  |c::r,_=>
    have hp:=WC (l:=c::r) (by simp);unfold WB;show w6 (r.length+1) at_ (c::r)=_;rw[w6];simp only[R,jj,jo];cases hn:nxt (c::r) with
    |err e=>rfl
    |skip n=>
      rw[hn] at hp;simp only[XZ] at hp |-
      exact V5 _ _ _ _ (by grind) (U7 _)
    |tok k n v=>
      rw[hn] at hp;simp only[XZ] at hp |-
      rw[V5 r.length ((c::r).drop n) _ ((c::r).drop n).length (by grind) (U7 _)]
theorem zic(p:UInt8->Bool):∀l:List UInt8,l.take (Zn p l)=l.takeWhile p
 |[]=>rfl
 |c::l=>by
  rw[yM,K];cases p c with
  |true=>simp[zic p l]
  |false=>simp
theorem zwM(p:UInt8->Bool)(l:List UInt8):∀c∈l.take (Zn p l),p c=true:=by
 rw[zic]
 induction l with
 |nil=>simp
 |cons a l ih=>
  rw[K];grind
theorem WD(h:(bs s).drop i=l)(hl:l≠[]):i < s.size/\l.length=s.size - i:=by
 subst h;rw[UE,yd];refine⟨?_,rfl⟩;rcases Nat.lt_or_ge i s.size with h | h
 ·exact h
 ·exact absurd (Uv (by rw[yd];exact h)) hl
theorem X5(h:(bs s).drop i=l)(hl:l≠[])(hn:n<=l.length):ZJ s (i:Int) ((i+n:Nat):Int)=d (lit (l.take n)):=by
 obtain⟨h1,h2⟩:=WD h hl;rw[zmj (by omega) (by omega)];congr 1;apply zrj;rw[zoK,X4,<- h,Q]
theorem vS(h:(bs s).drop i=l)(hc:l[n]?=d c):Zf s ((i+n:Nat):Int)=d (c.toNat:Int):=by
 apply Xz;grind
theorem wr(l:List UInt8):(lit l).size=l.length:=by rw[<- yd,X4]
theorem zdf{M:Nat}(hM:M=18446744073709551615):∀(l:List UInt8) (a:Nat),(∀c∈l,isD c=w)->a<=M->U M a l=if WA a l<=M then .ok (WA a l) else .range
 |[],a,_,ha=>by rw[ju (show WA a []<=M from ha)];rfl
 |c::r,a,h,ha=>by
  have hc:=h c (by simp);simp only[isD,gf,jk] at hc;have hge:=zhn r (a * 10+(c.toNat - 48));have e:WA a (c::r)=WA (a * 10+(c.toNat - 48)) r:=rfl;rw[e];unfold U;rw[ju hc];split
  ·grind
  ·split
   ·grind
   ·exact zdf hM r _ (λx hx=>h x (by simp[hx])) (by omega)
theorem zrn(hl:l≠[])(h:∀c∈l,isD c=w):V 64 l=if YP l < 9223372036854775808 then .ok (YP l:Int) else .range:=by
 match l,hl with
 |c::r,_=>
  have hc:=h c (by simp);simp only[isD,gf,jk] at hc;have e43:¬ (c.toNat=43\/c.toNat=45):=by omega
  have e45:¬ c.toNat=45:=by omega
  unfold V Lib.parseUintB;simp only;rw[jv e43,jv (by simp)];generalize hM:(2 ^ 64 - 1:Nat)=M;generalize hB:(2 ^ (64 - 1):Nat)=B;have hM:M=18446744073709551615:=by rw[<- hM]
  have hB:B=9223372036854775808:=by rw[<- hB]
  rw[zdf hM _ _ h (by omega)];simp only[e45,false_and,jt,U4,jo]
  show(match(if YP (c::r)<=M then Lib.NumEnd.ok (YP (c::r)) else .range) with
   | .syntax=>Lib.NumEnd.syntax
   | .range =>.range
   | .ok u=>if B<=u then .range else .ok (u:Int))=_
  by_cases h1:YP (c::r)<=M
  ·rw[ju h1];simp only;by_cases h2:YP (c::r) < 9223372036854775808
   all_goals grind
  grind
abbrev tk0:qn:=⟨0,lit [],0,0⟩
theorem zro {r:List UInt8}(hs:s.size<=16384) (hl:(bs s).drop i=c::r) (hd:isD c=w) :
    qdk (s,(i:Int),((i+Zn isD (c::r):Nat):Int))=d (if W7 (c::r) then(tk0,12) else(⟨3,lit ((c::r).take (Zn isD (c::r))),(YP ((c::r).take (Zn isD (c::r))):Nat),i⟩,0)):=by
  obtain⟨h1,h2⟩:=WD hl (by simp);have hn:=XL isD (c::r);have hn1:1<=Zn isD (c::r):=by rw[yM];simp[hd]
  generalize hN:Zn isD (c::r)=n at *
  have hall:=zwM isD (c::r);rw[hN] at hall;have hne:(c::r).take n≠[]:=by
    match n,hn1 with
    |n+1,_=>simp
  have hlen:((c::r).take n).length=n:=by grind
  have hhead:((c::r).take n)[0]?=d c:=by
    grind
  have hlast:∀(X Y:Us (qn×Int)),(if decide (((i+n:Nat):Int) < (s.size:Int))=w then(Zf s ((i+n:Nat):Int)).bind λy=>(q8k y).bind λz=>if z=w then X else Y else Y)=if zbX (c::r)[n]?=w then X else Y:=by
    intro X Y;by_cases hb:i+n < s.size
    · have:n < (c::r).length:=by omega
      have hg:=U6 this;generalize (c::r)[n]=b at hg;rw[vS hl hg,hg];simp only[jk,ji,V4];rw[ju (E.2 hb)];rfl
    ·have:(c::r)[n]?=none:=UC (by omega);rw[this];simp only[jk];rw[jv (λh=>hb (E.1 h))];rfl
  unfold qdk qgo;rw[show((s,(i:Int),((i+n:Nat):Int)):Uq×Int×Int).1=s from rfl];simp only;rw[X5 hl (by simp) (by omega)];simp only[ji,qdl,X3,U4];rw[ju (by rw[wr,hlen];omega),show(lit ((c::r).take n)).data.toList=(c::r).take n from rfl,zrn hne hall];by_cases hv:YP ((c::r).take n) < 9223372036854775808
  · rw[ju hv];simp only[ji,jm];unfold W7;rw[hN];by_cases h40:1099511627776 < YP ((c::r).take n)
    ·grind
    · simp only[jk];rw[jv (by omega),wr,hlen];have hl2:=hlast (d (qn.mk 0 (lit []) 0 0,12)) (d (qn.mk 3 (lit ((c::r).take n)) (YP ((c::r).take n):Nat) i,0));simp only[jk] at hl2;have e0:Zf (lit ((c::r).take n)) 0=d (c.toNat:Int):=Xz (i:=0) hhead;by_cases h1n:1 < n
      · rw[ju (by omega),e0];simp only[ji];by_cases h48:c.toNat=48
        ·rw[ju (by omega)];have:c=48:=I.1 (by grind);grind
        · rw[jv (by omega),hl2];have:¬ c=48:=λh=>h48 (by rw[h];rfl)
          simp only[h40,h1n,this,jr,jq,S,P.injEq,W,Dx];grind
      ·rw[jv (by omega),hl2];grind
  ·rw[jv hv];simp only[ji,jl];unfold W7;grind
theorem zwN (hs:s.size<=16384) (hl:(bs s).drop i=l) (hne:l≠[]) (hn:n<=l.length) :
    qfm (s,(i:Int),((i+n:Nat):Int))=d (if 16 < n then(tk0,13) else(⟨if zbW (l.take n) then 2 else 1,lit (l.take n),0,i⟩,0)):=by
  unfold qfm qhh;simp only;rw[X5 hl hne hn];have hlen:(l.take n).length=n:=by grind
  simp only[ji,wr,hlen,jk,zmP];by_cases h:16 < n
  ·grind
  ·rw[jv (by omega),jv h];grind
theorem zdg(l:List UInt8)(a b:UInt8):q7o (lit l,lit [a,b])=d (decide (l.take 2=[a,b])):=by
 show((q4e (lit l,lit [a,b])).bind λy=>d y)=_;unfold q4e;simp only[wr,jy,List.length_nil,jk];by_cases h:2<=l.length
 ·rw[ju (by omega)];have:ZJ (lit l) 0 ((2:Nat):Int)=d (lit (l.take 2)):=by
   have:=X5 (s:=lit l) (i:=0) (n:=2) (l:=l) rfl (by grind) h;grind
  rw[show((0+1+1:Nat):Int)=((2:Nat):Int) from rfl,this];simp only[ji];congr 1;refine decide_eq_decide.2 ⟨λh=>?_,λh=>by rw[h]⟩;have:=congrArg bs h;simpa[X4] using this
 ·rw[jv (by omega)];have:l.take 2≠[a,b]:=by
   intro e;have:=congrArg F e;grind
  simp[this]
theorem VA:∀(l:List UInt8) (c:UInt8),(0<=H l c)↔l.contains c=w
 |[],c=>by simp[H]
 |b::l,c=>by
  have ih:=VA l c;have hg:=Lib.indexByte_ge l c;unfold H;by_cases h:b=c
  ·subst h;simp
  ·have h':(b == c)=false:=by simpa using h
   have h2:(c == b)=false:=by grind
   simp only[h',jj,jo,T,h2,Dx];rw[<- ih];grind
theorem zwO(hne:l≠[]):qgz (lit l)=d (lit (l.take (YF l))):=by
 show(lpO (qbc q7o q7p) (lit l,(lit [45,62],lit [60,61],lit [61,61]),0)).bind _=_;have w1:Ut (0+1)=1:=by decide
 have w2:Ut (1+1)=2:=by decide
 have w3:Ut (2+1)=3:=by decide
 have g0:∀A B C:Uq,ve [A,B,C] 0=d A:=λ_ _ _=>rfl
 have g1:∀A B C:Uq,ve [A,B,C] 1=d B:=λ_ _ _=>rfl
 have g2:∀A B C:Uq,ve [A,B,C] 2=d C:=λ_ _ _=>rfl
 have two_take:two l=w->l.take 2=[45,62]\/l.take 2=[60,61]\/l.take 2=[61,61]:=by
  intro h;simpa[two] using h
 have loop:lpO (qbc q7o q7p) (lit l,(lit [45,62],lit [60,61],lit [61,61]),0)=d (if two l then .inl (lit (l.take 2)) else .inr (lit l)):=by
  rw[Zs];simp only[qbc,zdg,ji,g0,w1];by_cases h1:l.take 2=[45,62]
  ·simp[h1,two]
  ·simp only[h1,jq,jj,jo,ji];rw[show decide ((0:Int) < 3)=w from rfl];simp only[jp,ji];rw[Zs];simp only[qbc,zdg,ji,g1,w2];rw[show decide ((1:Int) < 3)=w from rfl];by_cases h2:l.take 2=[60,61]
   ·simp[h2,two]
   ·simp only[h2,jq,jj,jo,ji,jp];rw[Zs];simp only[qbc,zdg,ji,g2,w3];rw[show decide ((2:Int) < 3)=w from rfl];by_cases h3:l.take 2=[61,61]
    ·simp[h3,two]
    ·simp only[h3,jq,jj,jo,ji,jp];rw[Zs];simp only[qbc];grind
 rw[loop];unfold YF;by_cases ht:two l=w
 ·grind
 ·rw[jv ht,jv ht]
  match l,hne with
  |c::r,_=>
   have e0:Zf (lit (c::r)) 0=d (c.toNat:Int):=Xz (i:=0) rfl;have e1:ZJ (lit (c::r)) 0 1=d (lit [c]):=by
    have:=X5 (s:=lit (c::r)) (i:=0) (n:=1) (l:=c::r) rfl (by simp) (by simp);grind
   simp only[ji,jl];rw[e0,e1];simp only[ji,q7p,wW,Int.toNat_natCast];have hb:(0<=H (lit [123,125,40,41,91,93,44,58,59,61,43,45,38,60]).data.toList c.toNat.toUInt8)↔sgn c=true:=by
    have:c.toNat.toUInt8=c:=by simp[Nat.toUInt8]
    rw[this];exact VA _ c
   by_cases hs:sgn c=w
   ·grind
   grind
noncomputable abbrev zbZ:=qen qbn qac qdi qdk q8k qcc qfm qgz
theorem zoM (hs:s.size<=16384) (hl:(bs s).drop i=l) (hne:l≠[]) (out:Sl qn) :
    zbZ (s,(i:Int),out)=match nxt l with
      | .skip n=>d (.next (s,((i+n:Nat):Int),out))
      | .err e=>d (.done (.inl ((i:Int),e)))
      | .tok k n v=>(zp 40 out [⟨k,lit (l.take n),v,i⟩]).bind λo=>d (.next (s,((i+n:Nat):Int),o)):=by
  obtain⟨h1,h2⟩:=WD hl hne
  match l,hne with
  |c::r,_=>
    have hc:Zf s (i:Int)=d (c.toNat:Int):=vS (n:=0) hl rfl;have hpos:=WC (l:=c::r) (by simp);simp only[zbZ,qen];rw[ju (gm (E.2 h1)),hc];simp only[ji];have e32:((c.toNat:Int)=32)↔c.toNat=32:=by omega
    have e10:((c.toNat:Int)=10)↔c.toNat=10:=by omega
    have e35:((c.toNat:Int)=35)↔c.toNat=35:=by omega
    have rest:∀(k:Int) (n:Nat) (v:Int),n<=(c::r).length->(zp 40 out [⟨k,lit ((c::r).take n),v,i⟩]).bind (λo=>d (Step.next (β:=Int×Int⊕Uq×Sl qn) (s,Ut ((i:Int)+((lit ((c::r).take n)).size:Int)),o)))=(zp 40 out [⟨k,lit ((c::r).take n),v,i⟩]).bind λo=>d (.next (s,((i+n:Nat):Int),o)):=by
      intro k n v hn;have hz:(lit ((c::r).take n)).size=n:=by rw[wr,UY];omega
      rw[hz,Vz (by omega)]
    unfold nxt at hpos |-
    simp only at hpos |-
    by_cases hb:c.toNat=32\/c.toNat=10
    · rw[ju hb];simp only;rcases hb with hb | hb
      ·rw[ju (gm (e32.2 hb))];simp[xL (n:=i) (by omega)]
      · have:¬ c.toNat=32:=by omega
        rw[jv (λh=>this (e32.1 (Dh h)))];simp only[ji,jk];rw[ju (e10.2 hb)];simp[xL (n:=i) (by omega)]
    · rw[jv hb] at hpos |-
      have n32:¬ c.toNat=32:=λh=>hb (.inl h)
      have n10:¬ c.toNat=10:=λh=>hb (.inr h)
      rw[jv (λh=>n32 (e32.1 (Dh h)))];simp only[ji,jk];rw[jv (λh=>n10 (e10.1 h))];by_cases h35:c.toNat=35
      ·rw[ju (e35.2 h35),ju h35,zrm (by omega) (by omega),hl];simp
      · rw[jv (λh=>h35 (e35.1 h))];rw[jv h35] at hpos |-
        simp only[zbU,V4,ji];by_cases hd:isD c=w
        · rw[ju hd] at hpos;rw[ju hd,ju hd,zrl (by omega) (by omega),hl];simp only[ji];rw[zro hs hl hd];unfold XM at hpos |-
          by_cases hbad:W7 (c::r)=w
          ·grind
          ·rw[jv hbad] at hpos;rw[jv hbad,jv hbad];simp only[XZ] at hpos;simp only[ji,jl,UW,js,jo,gh,jm];grind
        · rw[jv hd] at hpos;rw[jv hd,jv hd];by_cases hL:isL c=w
          · rw[ju hL] at hpos;rw[ju hL,ju hL,zoL (by omega) (by omega),hl];simp only[ji];rw[zwN hs hl (by simp) (XL _ _)];unfold xv at hpos |-
            by_cases h16:16 < Zn isW (c::r)
            ·grind
            ·rw[jv h16] at hpos;rw[jv h16,jv h16];simp only[XZ] at hpos;simp only[ji,jl,UW,js,jo,gh,jm];grind
          · rw [jv hL] at hpos;rw[jv hL,jv hL];have hcut:ZJ s (i:Int) (s.size:Int)=d (lit (c::r)):=by
              have:=X5 (n:=(c::r).length) hl (by simp) (U7 _);grind
            rw[hcut];simp only[ji];rw[zwO (by simp)];simp only[ji,jk];unfold xw at hpos |-
            by_cases h0:YF (c::r)=0
            ·grind
            · rw [jv h0] at hpos;have hx:¬ lit ((c::r).take (YF (c::r)))=lit []:=by
                intro e;have:=congrArg (λx=>(bs x).length) e;simp only[X4] at this;grind
              rw[jv h0,jv hx];simp only[XZ] at hpos;simp only[ji,jl,UW,js,jo,gh,jm];grind
theorem ztE (hs:s.size<=16384):∀(n i:Nat) (acc:List qn) (nn:Bool),s.size - i<=n->i<=s.size->acc.length<=i->
    lpO zbZ (s,(i:Int),⟨acc,nn⟩)=d (match WB i ((bs s).drop i) with
      | .inl x =>.inl ((x.1:Int),x.2)
      | .inr ts =>.inr (s,⟨acc++ts,nn || !ts.isEmpty⟩)):=by
  intro n
  induction n with
  |zero=>
    intro i acc nn hn hi ha;have:i=s.size:=by omega
    subst this;rw[Zs];have hd:(bs s).drop s.size=[]:=Uv (by rw[yd];grind);rw[hd,zbY];simp[zbZ,qen]
  |succ n ih=>
    intro i acc nn hn hi ha;rcases Nat.lt_or_ge i s.size with hlt | hge
    · have hne:(bs s).drop i≠[]:=by
        intro e;have:=congrArg F e;rw[UE,yd] at this;grind
      have hp:=WC hne;have hlen:((bs s).drop i).length=s.size - i:=by rw[UE,yd]
      rw[Zs,zoM hs rfl hne,zde _ hne];cases hx:nxt ((bs s).drop i) with
      |err e=>rfl
      |skip k=>
        rw[hx] at hp;simp only[XZ] at hp;simp only[ji,G];rw[ih (i+k) acc nn (by omega) (by omega) (by omega)]
      |tok k m v=>
        rw[hx] at hp;simp only[XZ] at hp;simp only[G];rw[yP (by grind) (by grind)];simp only[ji];rw[ih (i+m) _ _ (by omega) (by omega) (by grind)];grind
    grind
def ZY(s:Uq):Int×Int×Sl qn:=if 16384 < s.size then(0,10,⟨[],D⟩) else match WB 0 (bs s) with
 | .inl x=>((x.1:Int),x.2,⟨[],D⟩)
 | .inr ts=>(0,0,⟨ts++[⟨0,lit [],0,s.size⟩],w⟩)
theorem VB:∀(m:Nat) (l:List UInt8) (i:Nat) (ts:List qn),l.length<=m->WB i l = .inr ts->ts.length<=l.length
 |0,l,i,ts,hm,h=>by
  have:l=[]:=UD (by omega);subst this;rw[zbY] at h;cases h;simp
 |m+1,l,i,ts,hm,h=>by
  by_cases hne:l=[]
  ·subst hne;rw[zbY] at h;cases h;simp
  ·have hp:=WC hne;rw[zde _ hne] at h;cases hx:nxt l with
   |err e=>grind
   |skip k=>
    rw[hx] at h hp;simp only[XZ] at hp;have:=VB m _ _ _ (by grind) h;grind
   |tok k n v=>
    rw[hx] at h hp;simp only[XZ] at hp;simp only at h;cases hr:WB (i+n) (l.drop n) with
    |inl x=>grind
    |inr us=>
     rw[hr] at h;cases h;have:=VB m _ _ _ (by grind) hr;grind
theorem zrp(s:Uq):qbu s=d (ZY s):=by
 unfold qbu qgp ZY;simp only[jk];by_cases h:16384 < s.size
 ·grind
 ·rw[jv (by omega),jv h];have:=ztE (s:=s) (by omega) s.size 0 [] D (by omega) (by omega) (by simp);rw[De] at this;rw[show((s,0,Sl.mk [] D):Uq×Int×Sl qn)=(s,((0:Nat):Int),⟨[],D⟩) from rfl,this];cases hx:WB 0 (bs s) with
  |inl x=>rfl
  |inr ts=>
   have hl:=VB _ _ _ _ (U7 _) hx;rw[yd] at hl;simp only[ji,jl,Db,Dx];rw[yP (by grind) (by grind)];simp
theorem zb0(b:UInt8):q2m (b.toNat:Int)=d (isL b):=V4 b
theorem zdh(b:UInt8):q48 (b.toNat:Int)=d (isD b):=zbU b
theorem ztF(l:List UInt8):q3n (lit l)=d (zbW l):=zmP l
theorem zwP(c:UInt8)(k:Nat)(hk:k < 256):decide ((c.toNat:Int)=(k:Int))=decide (c=O k):=by
 refine decide_eq_decide.2 ⟨λh=>I.1 ?_,λh=>?_⟩
 ·rw[N (by grind)];omega
 ·rw[h,N (by grind)]
theorem zyO(c:UInt8):sgn c=(decide ((c.toNat:Int)=123) || (decide ((c.toNat:Int)=125) || (decide ((c.toNat:Int)=40) || (decide ((c.toNat:Int)=41) || (decide ((c.toNat:Int)=91) || (decide ((c.toNat:Int)=93) || (decide ((c.toNat:Int)=44) || (decide ((c.toNat:Int)=58) || (decide ((c.toNat:Int)=59) || (decide ((c.toNat:Int)=61) || (decide ((c.toNat:Int)=43) || (decide ((c.toNat:Int)=45) || (decide ((c.toNat:Int)=38) || decide ((c.toNat:Int)=60)))))))))))))):=by
 have h:∀k:Nat,k < 256->decide ((c.toNat:Int)=(k:Int))=(c == O k):=λk hk=>by rw[zwP c k hk];rfl
 have:=h 123 (by omega);have h2:=h 125 (by omega);have h3:=h 40 (by omega);have h4:=h 41 (by omega);have h5:=h 91 (by omega);have h6:=h 93 (by omega);have h7:=h 44 (by omega);have h8:=h 58 (by omega);have h9:=h 59 (by omega);have h10:=h 61 (by omega);have h11:=h 43 (by omega);have h12:=h 45 (by omega);have h13:=h 38 (by omega);have h14:=h 60 (by omega);simp only[Int.cast_ofNat_Int] at *
 simp only[sgn,T,List.contains_nil,L];grind
theorem zrq(h:l.length < 2):two l=false:=by
 have:∀a b:UInt8,¬ l.take 2=[a,b]:=by
  intro a b e;have:=congrArg F e;grind
 simp[two,this]
theorem ztG(hs:s.size<=16384)(hl:(bs s).drop i=l)(hne:l≠[]):q3x (s,(i:Int))=d (YF l:Int):=by
  obtain⟨h1,h2⟩:=WD hl hne;unfold q3x qbv;simp only;rw[xL (by omega)];have e2:Ut ((i:Int)+2)=((i+2:Nat):Int):=Vz (k:=2) (by omega);rw[e2]
  have first:((if decide (((i+1:Nat):Int) < (s.size:Int))=w then
        (ZJ s (i:Int) ((i+2:Nat):Int)).bind λy0=>d (s,(i:Int),y0) else d (s,(i:Int),lit [])).bind λ(y1:Uq×Int×Uq)=>(if decide (y1.2.2=lit [45,62])=w then d (y1.1,y1.2.1,w) else if decide (y1.2.2=lit [60,61])=w then d (y1.1,y1.2.1,w) else d (y1.1,y1.2.1,decide (y1.2.2=lit [61,61]))))=d (s,(i:Int),two l):=by
    by_cases h:i+1 < s.size
    · rw[ju (gm (E.2 h)),X5 hl hne (by omega)];simp only[ji,zmO,X4,two];by_cases a:l.take 2=[45,62]
      ·simp[a]
      · by_cases b:l.take 2=[60,61]
        ·simp[b]
        ·simp only[a,b,jq,jj,jo,ji,Dx];rfl
    · rw[jv (λx=>h (E.1 (Dh x)))];rw[zrq (by omega)];have:∀a b:UInt8,lit []≠lit [a,b]:=λa b e=>by have:=congrArg bs e;simp[X4] at this
      simp[this]
  rw[<- gh,first];simp only[ji];unfold YF;by_cases ht:two l=w
  ·grind
  · rw[jv ht,jv ht]
    match l,hne with
    |c::r,_=>
      have hc:Zf s (i:Int)=d (c.toNat:Int):=vS (n:=0) hl rfl;rw[hc];simp only[ji];have key:∀{X:Us Bool} {b:Bool},X=d b->(X.bind λy=>if y=w then d (1:Int) else d 0)=d ((if b then 1 else 0:Nat):Int):=by
        grind
      rw[zyO];refine key ?_
      repeat (first | exact rfl | apply zk0 | apply zk1)
theorem zAx(h:n<=255):IntKind.u8.wrap (n:Int)=n:=by
 simp only[Ut,IntKind.wrap,IntKind.bits,IntKind.signed];simp;omega
def w7(n:Nat)(g:Bool):List UInt8->Nat×Bool
 |[]=>(n,g)
 |c::r=>let n':=if n<=1099511627776 then n * 10+(c.toNat - 48) else n
  w7 n' (if 1099511627776 < n' then w else g) r
theorem zf9:∀(l:List UInt8) (n:Nat),(w7 n w l).2=w
 |[],n=>rfl
 |c::r,n=>by
  unfold w7;simp only[ite_self];exact zf9 r _
theorem zmQ:∀(l:List UInt8) (n:Nat),n<=1099511627776->if 1099511627776 < WA n l then(w7 n D l).2=w else w7 n D l=(WA n l,D)
 |[],n,h=>by
  rw[jv (by show¬ 1099511627776 < n;omega)];rfl
 |c::r,n,h=>by
  have e:WA n (c::r)=WA (n * 10+(c.toNat - 48)) r:=rfl;rw[e];unfold w7;simp only[ju h];by_cases h2:1099511627776 < n * 10+(c.toNat - 48)
  ·have:=zhn r (n * 10+(c.toNat - 48));rw[ju (by omega),ju h2];exact zf9 r _
  ·rw[jv h2];exact zmQ r _ (by omega)
abbrev RT:=q9×q9
noncomputable abbrev zho:=q70 q2m q48 q3n q3x
noncomputable abbrev zga:=q71 q2m q48 q3n q3x
theorem zid(hs:s.size<=16384)(a:Int)(t:RT):∀(n i:Nat),s.size - i=n->i<=s.size->lpO zho (s,a,(i:Int),t)=d (s,a,((i+Zn isW ((bs s).drop i):Nat):Int),t)
 |0,i,hn,hi=>by
  have:i=s.size:=by omega
  subst this;rw[Zs];simp[zho,q70,Uv,yd,zbT]
 |n+1,i,hn,hi=>by
  have hlt:i < s.size:=by omega
  obtain⟨c,hc,hd⟩:=V3 (l:=bs s) (i:=i) (by rw[yd];exact hlt);rw[Zs];simp only[zho,q70,jk];rw[ju (E.2 hlt),Xz hc];simp only[ji,zb0,zdh];rw[hd,yM];have ih:=zid hs a t n (i+1) (by omega) (by omega);have hw:=xL (n:=i) (by omega);cases hL:isL c with
  |true=>
   simp only[isW,hL,Bool.true_or,Da,jj,jo,jp,ji,hw];grind
  |false=>
   cases hD:isD c with
   |true=>
    simp only[isW,hL,hD,Bool.or_true,Da,Dq,jj,jo,jp,ji,hw];grind
   |false=>simp[isW,hL,hD]
theorem zk2 (hs:s.size<=16384) (a:Int) (t:RT):∀(n i m:Nat) (g:Bool),m<=10995116277769->s.size - i=n->i<=s.size->
    lpO zga (s,a,(i:Int),(m:Int),g,t)=d (s,a,((i+Zn isD ((bs s).drop i):Nat):Int),((w7 m g (((bs s).drop i).take (Zn isD ((bs s).drop i)))).1:Int),(w7 m g (((bs s).drop i).take (Zn isD ((bs s).drop i)))).2,t)
  |0,i,m,g,hm,hn,hi=>by
    have:i=s.size:=by omega
    subst this;rw[Zs];simp[zga,q71,Uv,yd,zbT,w7]
  |n+1,i,m,g,hm,hn,hi=>by
    have hlt:i < s.size:=by omega
    obtain⟨c,hc,hd⟩:=V3 (l:=bs s) (i:=i) (by rw[yd];exact hlt);rw[Zs];simp only[zga,q71,jk];rw[ju (E.2 hlt),Xz hc];simp only[ji,zdh];rw[hd,yM];cases hD:isD c with
    |false=>simp[w7]
    |true=>
      have hD2:=hD;simp only[isD,gf,jk] at hD2;simp only[Da,jj,jo,jp];have e1:Ut (IntKind.u8.wrap ((c.toNat:Int) - 48))=((c.toNat - 48:Nat):Int):=by
        have:((c.toNat:Int) - 48)=((c.toNat - 48:Nat):Int):=by omega
        rw[this,zAx (by omega),zkZ (by omega)]
      have e2:Ut (Ut ((m:Int) * 10)+((c.toNat - 48:Nat):Int))=((m * 10+(c.toNat - 48):Nat):Int):=by
        have:((m:Int) * 10)=((m * 10:Nat):Int):=by omega
        rw[this,zkZ (by omega),Vz (by omega)]
      rw[e1,e2];have hw:=xL (n:=i) (by omega);have hn':(if m<=1099511627776 then m * 10+(c.toNat - 48) else m)<=10995116277769:=by grind
      have step:∀(m':Nat),m'<=10995116277769->lpO zga (s,a,((i+1:Nat):Int),(m':Int),(if 1099511627776 < m' then w else g),t)=d (s,a,((i+(Zn isD ((bs s).drop (i+1))+1):Nat):Int),((w7 m' (if 1099511627776 < m' then w else g) (((bs s).drop (i+1)).take (Zn isD ((bs s).drop (i+1))))).1:Int),(w7 m' (if 1099511627776 < m' then w else g) (((bs s).drop (i+1)).take (Zn isD ((bs s).drop (i+1))))).2,t):=by
        intro m' hm';refine(zk2 hs a t n (i+1) m' _ hm' (by omega) (by omega)).trans ?_;congr 4;omega
      simp only[List.take_succ_cons,w7];by_cases h40:m<=1099511627776
      · rw[ju (show(m:Int)<=1099511627776 by omega)];simp only[ju h40,ji];rw[<- step _ (by omega)];by_cases hg:1099511627776 < m * 10+(c.toNat - 48)
        ·rw[ju (show(1099511627776:Int) < ((m * 10+(c.toNat - 48):Nat):Int) by omega),ju hg];grind
        ·rw[jv (show¬ (1099511627776:Int) < ((m * 10+(c.toNat - 48):Nat):Int) by omega),jv hg];grind
      · rw[jv (show¬ (m:Int)<=1099511627776 by omega)];simp only[jv h40,ji];rw[<- step _ hm];have hg:1099511627776 < m:=by omega
        grind
abbrev zyP:q9:=⟨0,lit [],0,0⟩
def rNx(i:Nat)(l:List UInt8):Nx->q9×Int
 | .tok k n v=>(⟨k,lit (l.take n),v,i⟩,0)
 | .err e=>(zyP,e)
 | .skip _=>(zyP,0)
theorem zwQ {r:List UInt8}(hs:s.size<=16384) (hl:(bs s).drop i=c::r) :
    q61 (s,(i:Int))=d (rNx i (c::r) (if isD c then XM (c::r) else if isL c then xv (c::r) else xw (c::r))):=by
  obtain⟨h1,h2⟩:=WD hl (by simp);have hc:Zf s (i:Int)=d (c.toNat:Int):=vS (n:=0) hl rfl;unfold q61 qcd;simp only;rw[hc];simp only[ji,zb0,zdh];by_cases hL:isL c=w
  · have hD:isD c=false:=by
      simp only[isL,UB,gf,jk] at hL;simp only[isD,Bool.and_eq_false_imp,jk,decide_eq_false_iff_not];omega
    rw[ju hL];have hloop:=zid hs (i:Int) ((⟨0,lit [],0,0⟩,⟨0,lit [],0,(i:Int)⟩):RT) _ i rfl (by omega);rw[hl] at hloop;rw[show lpO (q70 q2m q48 q3n q3x) (s,(i:Int),(i:Int),(⟨0,lit [],0,0⟩:q9),(⟨0,lit [],0,(i:Int)⟩:q9))=_ from hloop];simp only[ji];rw[X5 hl (by simp) (XL _ _)];have hlen:((c::r).take (Zn isW (c::r))).length=Zn isW (c::r):=by rw[UY];have:=XL isW (c::r);omega
    simp only[ji,wr,hlen,jk,ztF];rw[hD];simp only[jj,jo,hL,jp];unfold xv;by_cases h:16 < Zn isW (c::r)
    ·rw[ju (by omega),ju h];rfl
    · rw[jv (by omega),jv h];by_cases hk:zbW ((c::r).take (Zn isW (c::r)))=w
      ·rw[ju hk,ju hk];rfl
      ·rw[jv hk,jv hk];rfl
  · rw[jv hL];simp only[ji,jl];by_cases hD:isD c=w
    · rw[ju hD,ju hD];have hn:=XL isD (c::r);have hn1:1<=Zn isD (c::r):=by rw[yM];simp[hD]
      have hloop:=zk2 hs (i:Int) ((⟨0,lit [],0,0⟩,⟨0,lit [],0,(i:Int)⟩):RT) _ i 0 D (by omega) rfl (by omega);rw[hl] at hloop;rw[show lpO (q71 q2m q48 q3n q3x) (s,(i:Int),(i:Int),0,D,(⟨0,lit [],0,0⟩:q9),(⟨0,lit [],0,(i:Int)⟩:q9))=_ from hloop];have hnum:=zmQ ((c::r).take (Zn isD (c::r))) 0 (by omega);have hN:WA 0 ((c::r).take (Zn isD (c::r)))=YP ((c::r).take (Zn isD (c::r))):=rfl;rw[hN] at hnum;unfold XM W7;generalize hnr:Zn isD (c::r)=n at *
      generalize hpq:w7 0 D ((c::r).take n)=pq at *
      obtain⟨p,q⟩:=pq;simp only[ji,jk];have hlast:(if(((i+n:Nat):Int) < (s.size:Int)) then(Zf s ((i+n:Nat):Int)).bind λy=>(q2m y).bind λz=>d (s,(i:Int),((i+n:Nat):Int),(p:Int),q,z,((⟨0,lit [],0,0⟩,⟨0,lit [],0,(i:Int)⟩):RT)) else d (s,(i:Int),((i+n:Nat):Int),(p:Int),q,D,(((⟨0,lit [],0,0⟩,⟨0,lit [],0,(i:Int)⟩):RT):RT)))=d (s,(i:Int),((i+n:Nat):Int),(p:Int),q,zbX (c::r)[n]?,(((⟨0,lit [],0,0⟩,⟨0,lit [],0,(i:Int)⟩):RT):RT)):=by
        by_cases hb:i+n < s.size
        · have:n < (c::r).length:=by omega
          have hg:=U6 this;generalize (c::r)[n]=b at hg;rw[vS hl hg,hg];simp only[ji,zb0];rw[ju (E.2 hb)];rfl
        ·have:(c::r)[n]?=none:=UC (by omega);rw[this,jv (λh=>hb (E.1 h))];rfl
      rw[show(if(((i+n:Nat):Int) < (s.size:Int)) then(Zf s ((i+n:Nat):Int)).bind λy=>(q2m y).bind λz=>d (s,(i:Int),((i+n:Nat):Int),(p:Int),q,z,((⟨0,lit [],0,0⟩,⟨0,lit [],0,(i:Int)⟩):RT)) else d (s,(i:Int),((i+n:Nat):Int),(p:Int),q,D,(((⟨0,lit [],0,0⟩,⟨0,lit [],0,(i:Int)⟩):RT):RT)))=_ from hlast];simp only[ji,hc];have e1:((i:Int)+1)=((i+1:Nat):Int):=by omega
      have hw:=xL (n:=i) (by omega);by_cases h40:1099511627776 < YP ((c::r).take n)
      ·rw[ju h40] at hnum;simp only at hnum;subst hnum;simp[h40,rNx]
      · rw[jv h40] at hnum;simp only[Prod.mk.injEq] at hnum;obtain⟨hp,hq⟩:=hnum;subst hp hq;simp only[jj,jo];cases hlt:zbX (c::r)[n]? with
        |true=>simp[h40,rNx]
        |false=>
          simp only[jj,jo,hw];have e48:((c.toNat:Int)=48)↔c=48:=by
            constructor
            ·intro h;exact I.1 (by grind)
            ·intro h;rw[h];rfl
          by_cases h48:c=48
          · rw[ju (e48.2 h48)];simp only[ji];by_cases h1n:1 < n
            · have:((i+1:Nat):Int) < ((i+n:Nat):Int):=by omega
              simp[h40,h1n,h48,this,rNx];grind
            · have:¬ ((i+1:Nat):Int) < ((i+n:Nat):Int):=by omega
              simp only[this,jq,jj,jo,h40,h1n,Bool.false_and,L];rw[X5 hl (by simp) hn];rfl
          ·rw[jv (λh=>h48 (e48.1 h))];simp only[ji,jj,jo];rw[X5 hl (by simp) hn];simp only[h40,h48,jq,S,P.injEq,W,L,jj,jo];rfl
    · rw[jv hD,jv hD,jv hL];simp only[ji,jl];rw[ztG hs hl (by simp)];simp only[ji,jk];unfold xw;have hle:=zf8 (c::r);by_cases h0:YF (c::r)=0
      ·rw[ju (by omega),ju h0];rfl
      ·rw[jv (by omega),jv h0,Vz (by omega),X5 hl (by simp) hle];rfl
theorem zie(hs:s.size<=16384){f:Uq×Int->Us (q9×Int)}(out:Sl q9):∀(n i:Nat),s.size - i=n->i<=s.size->lpO (q7f f) (s,(i:Int),out)=d (s,((i+Zn w5 ((bs s).drop i):Nat):Int),out)
 |0,i,hn,hi=>by
  have:i=s.size:=by omega
  subst this;rw[Zs];simp[q7f,Uv,yd,zbT]
 |n+1,i,hn,hi=>by
  have hlt:i < s.size:=by omega
  obtain⟨c,hc,hd⟩:=V3 (l:=bs s) (i:=i) (by rw[yd];exact hlt);rw[Zs];simp only[q7f,jk];rw[ju (E.2 hlt),Xz hc];have hw:=xL (n:=i) (by omega);simp only[ji,hw];rw[hd,yM];have e10:((c.toNat:Int)≠10)↔w5 c=true:=by simp only[w5,jk];omega
  by_cases h:w5 c=w
  ·rw[ju (gm (e10.2 h)),ju h];simp only[ji];refine(zie hs out n (i+1) (by omega) (by omega)).trans ?_;congr 3;omega
  grind
abbrev toR(t:qn):q9:=⟨t.k_,t.T_,t.n_,t.a_⟩
noncomputable abbrev zdQ:=q7g q61
theorem zyQ(hne:l≠[]){e:Int}(h:nxt l = .err e):e≠0:=by
 match l,hne with
 |c::r,_=>
  unfold nxt at h;simp only at h;split at h
  ·cases h
  ·split at h
   ·cases h
   ·split at h
    ·unfold XM at h;grind
    ·split at h
     ·unfold xv at h;grind
     ·unfold xw at h;grind
theorem ztH (hs:s.size<=16384) (hl:(bs s).drop i=l) (hne:l≠[]) (out:Sl q9) :
    zdQ (s,(i:Int),out)=match nxt l with
      | .skip n=>d (.next (s,((i+n:Nat):Int),out))
      | .err e=>d (.done (.inl ((i:Int),e)))
      | .tok k n v=>(zp 40 out [⟨k,lit (l.take n),v,i⟩]).bind λo=>d (.next (s,((i+n:Nat):Int),o)):=by
  obtain⟨h1,h2⟩:=WD hl hne
  match l,hne with
  |c::r,hne=>
    have hc:Zf s (i:Int)=d (c.toNat:Int):=vS (n:=0) hl rfl;have hpos:=WC (l:=c::r) (by simp);have herr:=λe=>zyQ (l:=c::r) (by simp) (e:=e)
    simp only[zdQ,q7g];rw[ju (gm (E.2 h1)),hc];have hw:=xL (n:=i) (by omega);simp only[ji];have e32:((c.toNat:Int)=32)↔c.toNat=32:=by omega
    have e10:((c.toNat:Int)=10)↔c.toNat=10:=by omega
    have e35:((c.toNat:Int)=35)↔c.toNat=35:=by omega
    unfold nxt at hpos herr |-
    simp only at hpos herr |-
    by_cases hb:c.toNat=32\/c.toNat=10
    · rw[ju hb];simp only;rcases hb with hb | hb
      ·grind
      · have:¬ c.toNat=32:=by omega
        rw[jv (λh=>this (e32.1 (Dh h)))];grind
    · rw[jv hb] at hpos herr |-
      have n32:¬ c.toNat=32:=λh=>hb (.inl h)
      have n10:¬ c.toNat=10:=λh=>hb (.inr h)
      rw[jv (λh=>n32 (e32.1 (Dh h)))];simp only[ji,jk];rw[jv (λh=>n10 (e10.1 h)),hc];simp only[ji];by_cases h35:c.toNat=35
      ·have hsk:=zie hs (f:=q61) out _ i rfl (by omega);grind
      · rw[jv (λh=>h35 (e35.1 h))];rw[jv h35] at hpos herr |-
        rw[zwQ hs hl];have hns:∀n,(if isD c=w then XM (c::r) else if isL c=w then xv (c::r) else xw (c::r)) ≠.skip n:=by
          intro n h;split at h
          ·unfold XM at h;grind
          · split at h
            ·unfold xv at h;grind
            ·unfold xw at h;grind
        generalize (if isD c=w then XM (c::r) else if isL c=w then xv (c::r) else xw (c::r))=x at hpos herr hns;cases x with
        |skip n=>
          grind
        |err e=>
          have:=herr e rfl;simp only[rNx,ji];grind
        |tok k n v=>
          simp only[XZ] at hpos;simp only[rNx,ji,UW,js,jo,gh,jm];have hz:(lit ((c::r).take n)).size=n:=by rw[wr,UY];omega
          rw[hz,Vz (by omega)]
theorem zrr (hs:s.size<=16384):∀(n i:Nat) (acc:List q9) (nn:Bool),s.size - i<=n->i<=s.size->acc.length<=i->
    lpO zdQ (s,(i:Int),⟨acc,nn⟩)=d (match WB i ((bs s).drop i) with
      | .inl x =>.inl ((x.1:Int),x.2)
      | .inr ts =>.inr (s,⟨acc++ts.map toR,nn || !ts.isEmpty⟩)):=by
  intro n
  induction n with
  |zero=>
    intro i acc nn hn hi ha;have:i=s.size:=by omega
    subst this;rw[Zs];have hd:(bs s).drop s.size=[]:=Uv (by rw[yd];grind);rw[hd,zbY];simp[zdQ,q7g]
  |succ n ih=>
    intro i acc nn hn hi ha;rcases Nat.lt_or_ge i s.size with hlt | hge
    · have hne:(bs s).drop i≠[]:=by
        intro e;have:=congrArg F e;rw[UE,yd] at this;grind
      have hp:=WC hne;have hlen:((bs s).drop i).length=s.size - i:=by rw[UE,yd]
      rw[Zs,ztH hs rfl hne,zde _ hne];cases hx:nxt ((bs s).drop i) with
      |err e=>rfl
      |skip k=>
        rw[hx] at hp;simp only[XZ] at hp;simp only[ji,G];rw[ih (i+k) acc nn (by omega) (by omega) (by omega)]
      |tok k m v=>
        rw[hx] at hp;simp only[XZ] at hp;simp only[G];rw[yP (by grind) (by grind)];simp only[ji];rw[ih (i+m) _ _ (by omega) (by omega) (by grind)];grind
    grind
theorem zoN(s:Uq):q69 s=d ((ZY s).1,(ZY s).2.1,⟨(ZY s).2.2.xs.map toR,(ZY s).2.2.nn⟩):=by
 unfold q69 qap ZY;simp only[jk];by_cases h:16384 < s.size
 ·grind
 ·rw[jv (by omega),jv h];have:=zrr (s:=s) (by omega) s.size 0 [] D (by omega) (by omega) (by simp);rw[De] at this;rw[show((s,0,Sl.mk [] D):Uq×Int×Sl q9)=(s,((0:Nat):Int),⟨[],D⟩) from rfl,this];cases hx:WB 0 (bs s) with
  |inl x=>rfl
  |inr ts=>
   have hl:=VB _ _ _ _ (U7 _) hx;rw[yd] at hl;simp only[ji,jl,Db,Dx];rw[yP (by grind) (by grind)];simp
end Go.Px
