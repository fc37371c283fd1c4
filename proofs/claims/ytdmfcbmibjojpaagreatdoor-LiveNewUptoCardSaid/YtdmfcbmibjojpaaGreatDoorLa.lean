/- Part La. -/
import Derived.Test.YtdmfcbmibjojpaaGreatDoorA9
set_option linter.unusedVariables false
set_option linter.unusedSimpArgs false
namespace Go.Px
open Bool renaming true->w,false->D,or_false->L,and_false->W
open Go.Lib renaming indexByte->H,parseUintM->U,parseIntB->V
open Int renaming ofNat_lt->E
open List renaming length->F,drop_drop->G,takeWhile_cons->K,take_drop->Q,isEmpty_cons->R,head?_cons->S,contains_cons->T
open _root_.Option renaming some->d,some->P
open UInt8 renaming toNat_inj->I,toNat_ofNat_of_lt'->N,ofNat->O
variable{X:U3 Bool}{b:Bool}{c:UInt8}{i n:Nat}{l:List UInt8}{s:U0}
abbrev bs(s:U0):List UInt8:=s.data.toList
theorem ye(s:U0):(bs s).length=s.size:=by cases s;simp[bs,ByteArray.size]
theorem zr1{t:U0}(h:bs s=bs t):s=t:=by
 cases s;cases t;congr 1;exact Array.toList_inj.1 h
theorem wo(l:List UInt8):bs (lit l)=l:=rfl
theorem Zu{s β:Type}(f:s->U3 (Step s β))(x:s):lpO f x=(f x).bind fun | .next x'=>lpO f x' | .done y=>d y:=zsE f x
theorem XJ(h:(bs s)[i]?=d c):Zg s (i:Int)=d (c.toNat:Int):=by
 unfold Zg;grind
theorem zad(h:i < l.length):∃c,l[i]?=d c/\l.drop i=c::l.drop (i+1):=
 ⟨l[i],UI h,Dp h⟩
theorem zpj(s:U0)(i j:Nat):bs (s.extract i j)=((bs s).take j).drop i:=by
 show(s.extract i j).data.toList=_;rw[ByteArray.data_extract];simp[Array.toList_extract,List.extract,Q];by_cases h:i<=j
 ·grind
 ·have h1:j - i=0:=by omega
  rw[h1];simp;omega
theorem zm5{j:Nat}(h1:i<=j)(h2:j<=s.size):ZI s (i:Int) (j:Int)=d (s.extract i j):=by
 unfold ZI;grind
theorem zlI(h:n < 9223372036854775808):U4 (n:Int)=n:=zD (by omega) (by omega)
theorem VN{k:Nat}(h:n+k < 9223372036854775808):U4 ((n:Int)+(k:Int))=((n+k:Nat):Int):=by
 rw[zD (by omega) (by omega)];simp
theorem xR(h:n+1 < 9223372036854775808):U4 ((n:Int)+1)=((n+1:Nat):Int):=by
 rw[zD (by omega) (by omega)];simp
def Zo(p:UInt8->Bool)(l:List UInt8):Nat:=(l.takeWhile p).length
theorem zb7(p:UInt8->Bool):Zo p []=0:=rfl
theorem yN(p:UInt8->Bool)(c:UInt8)(l:List UInt8):Zo p (c::l)=if p c then Zo p l+1 else 0:=by
 unfold Zo;rw[K];split<;>simp
theorem XW(p:UInt8->Bool):∀l:List UInt8,Zo p l<=l.length
 |[]=>UJ _
 |c::l=>by rw[yN];split<;>simp;exact XW p l
def isL(b:UInt8):Bool:=(decide (97<=b.toNat) && decide (b.toNat<=122)) || decide (b.toNat=95)
def isD(b:UInt8):Bool:=decide (48<=b.toNat) && decide (b.toNat<=57)
def isW(b:UInt8):Bool:=isL b || isD b
def Wi(b:UInt8):Bool:=decide (b.toNat≠10)
theorem zb8(b:UInt8):qaj (b.toNat:Int)=d (isD b):=by
 simp only[qaj,qgm,isD,jl];split
 ·rename_i h;have:48<=b.toNat:=by omega
  simp[this];omega
 grind
theorem zae(b:UInt8):q8p (b.toNat:Int)=d (isL b):=by
 simp only[q8p,qg9,isL,jl];have e1:(97<=(b.toNat:Int))↔97<=b.toNat:=by omega
 have e2:((b.toNat:Int)<=122)↔b.toNat<=122:=by omega
 have e3:((b.toNat:Int)=95)↔b.toNat=95:=by omega
 grind
theorem zr2(b:UInt8):qdk (b.toNat:Int)=d (isW b):=by
 simp only[qdk,qga,zae,zb8,isW,jj];grind
theorem zuf(b:UInt8):qca (b.toNat:Int)=d (Wi b):=by
 simp only[qca,qff,Wi];congr 1;grind
theorem zb9 {f:Int->U3 Bool}{p:UInt8->Bool}(hf:∀c:UInt8,f (c.toNat:Int)=d (p c)) (hs:s.size < 4611686018427387904) :
    ∀(n i:Nat),s.size - i=n->i<=s.size->lpO (q6r f) (s,(i:Int))=d ((i+Zo p ((bs s).drop i):Nat):Int)
 |0,i,hn,hi=>by
  have:i=s.size:=by omega
  subst this;rw[Zu];simp[q6r,U6,ye,zb7]
 |n+1,i,hn,hi=>by
  have hlt:i < s.size:=by omega
  obtain⟨c,hc,hd⟩:=zad (l:=bs s) (i:=i) (by rw[ye];exact hlt);rw[Zu];simp only[q6r,jl];rw[jv (E.2 hlt),XJ hc];simp only[jj,hf];rw[hd,yN];cases hp:p c with
  |true=>
   simp only[jq,jj];rw[xR (by omega),zb9 hf hs n (i+1) (by omega) (by omega)];grind
  |false=>simp
theorem zr3(hs:s.size < 4611686018427387904)(hi:i<=s.size):qdj (s,(i:Int))=d ((i+Zo isD ((bs s).drop i):Nat):Int):=by
 show(lpO (q6r qaj) (s,(i:Int))).bind d=_;rw[zb9 zb8 hs _ i rfl hi];rfl
theorem zpk(hs:s.size < 4611686018427387904)(hi:i<=s.size):qco (s,(i:Int))=d ((i+Zo isW ((bs s).drop i):Nat):Int):=by
 show(lpO (q6r qdk) (s,(i:Int))).bind d=_;rw[zb9 zr2 hs _ i rfl hi];rfl
theorem zr4(hs:s.size < 4611686018427387904)(hi:i<=s.size):qc2 (s,(i:Int))=d ((i+Zo Wi ((bs s).drop i):Nat):Int):=by
 show(lpO (q6r qca) (s,(i:Int))).bind d=_;rw[zb9 zuf hs _ i rfl hi];rfl
def zca(l:List UInt8):Bool:=decide (l=[116,121,112,101]) || (decide (l=[102,110]) || (decide (l=[111,119,110]) || (decide (l=[99,101,108,108]) || (decide (l=[99,111,117,110,116,101,100]) || (decide (l=[108,111,99,107]) || (decide (l=[103,117,97,114,100]) || (decide (l=[119,104,101,114,101]) || (decide (l=[105,110,116]) || (decide (l=[109,117,116]) || (decide (l=[102,114,101,101]) || (decide (l=[117,110,108,111,99,107]) || (decide (l=[105,102]) || (decide (l=[101,108,115,101]) || (decide (l=[119,104,105,108,101]) || (decide (l=[114,101,116,117,114,110]) || (decide (l=[97,98,111,114,116]) || (decide (l=[102,111,114,107]) || (decide (l=[110,101,119]) || (decide (l=[97,114,114,97,121]))))))))))))))))))))
theorem zlJ{p:Prop}[Decidable p](h:X=d b):(if decide p=w then d (decide p) else X)=d (decide p || b):=by
 grind
theorem zlK(h:X=d b):(X.bind λy=>d y)=d b:=by subst h;rfl
theorem zxp(h:X=d b):(X.bind λy=>if y=w then d w else d D)=d b:=by grind
theorem znz(s:U0)(l:List UInt8):decide (s=lit l)=decide (bs s=l):=by
 refine decide_eq_decide.2 ⟨λh=>by rw[h];rfl,λh=>zr1 h⟩
theorem zy9(s:U0):qe5 s=d (zca (bs s)):=by
 simp only[qe5,qgn,zca,<- znz];refine zxp ?_
 repeat (first | exact rfl | apply zlJ | apply zlK)
theorem znA(l:List UInt8):qe5 (lit l)=d (zca l):=zy9 (lit l)
def WV(a:Nat):List UInt8->Nat
 |[]=>a
 |c::r=>WV (a * 10+(c.toNat - 48)) r
def YT(l:List UInt8):Nat:=WV 0 l
theorem zhO:∀(l:List UInt8) (a:Nat),a<=WV a l
 |[],a=>UJ _
 |c::r,a=>UL (by omega) (zhO r _)
def sgn(c:UInt8):Bool:=[123,125,40,41,91,93,44,58,59,61,43,45,38,60].contains c
def two(l:List UInt8):Bool:=decide (l.take 2=[45,62]) || (decide (l.take 2=[60,61]) || decide (l.take 2=[61,61]))
def YI(l:List UInt8):Nat:=if two l then 2 else match l with
 |[]=>0
 |c::_=>if sgn c then 1 else 0
inductive Nx where
 |skip (n:Nat)
 |tok (k:Int) (n:Nat) (v:Int)
 |err (e:Int)
def zcb:U3 UInt8->Bool
 |some c=>isL c
 |none=>D
def vt(l:List UInt8):Bool:=decide (1099511627776 < YT (l.take (Zo isD l))) || ((decide (1 < Zo isD l) && decide (l.head?=d 48)) || zcb l[Zo isD l]?)
def XX(l:List UInt8):Nx:=if vt l then .err 12 else .tok 3 (Zo isD l) (YT (l.take (Zo isD l)))
def xz(l:List UInt8):Nx:=if 16 < Zo isW l then .err 13 else .tok (if zca (l.take (Zo isW l)) then 2 else 1) (Zo isW l) 0
def xA(l:List UInt8):Nx:=if YI l=0 then .err 11 else .tok 4 (YI l) 0
def nxt(l:List UInt8):Nx:=match l with
 |[] =>.err 11
 |c::r=>if c.toNat=32\/c.toNat=10 then .skip 1 else if c.toNat=35 then .skip (Zo Wi (c::r)) else if isD c then XX (c::r) else if isL c then xz (c::r) else xA (c::r)
def Wj:Nat->Nat->List UInt8->(Nat×Int)⊕List qr
 |0,_,_ =>.inr []
 |f+1,at_,l=>if l.isEmpty then .inr [] else match nxt l with
  | .skip n=>Wj f (at_+n) (l.drop n)
  | .err e =>.inl (at_,e)
  | .tok k n v=>match Wj f (at_+n) (l.drop n) with
   | .inl x =>.inl x
   | .inr ts =>.inr (⟨k,lit (l.take n),v,at_⟩::ts)
def WW(at_:Nat)(l:List UInt8):(Nat×Int)⊕List qr:=Wj l.length at_ l
theorem zgt(l:List UInt8):YI l<=l.length:=by
 unfold YI;split
 ·rename_i h;unfold two at h
  match l with
  |[]=>simp at h
  |[a]=>simp at h
  |a::b::r=>simp
 grind
def wa(m:Nat):Nx->Prop
 | .skip n=>1<=n/\n<=m
 | .tok _ n _=>1<=n/\n<=m
 | .err _=>True
theorem WX(h:l≠[]):wa l.length (nxt l):=by
 match l,h with
 |c::r,_=>
  show wa (c::r).length (if c.toNat=32\/c.toNat=10 then .skip 1 else if c.toNat=35 then .skip (Zo Wi (c::r)) else if isD c then XX (c::r) else if isL c then xz (c::r) else xA (c::r));split
  ·exact⟨by omega,by simp⟩
  ·rename_i h1;split
   ·rename_i h2;refine⟨?_,XW _ _⟩;rw[yN];have:Wi c=true:=by unfold Wi;simp;omega
    simp[this]
   ·split
    ·rename_i hd;unfold XX;cases vt (c::r) with
     |true=>trivial
     |false=>
      refine⟨?_,XW _ _⟩;rw[yN];simp[hd]
    ·split
     ·rename_i hl;unfold xz;split
      ·trivial
      ·refine⟨?_,XW _ _⟩;rw[yN];simp[isW,hl]
     ·unfold xA;split
      ·trivial
      ·exact⟨by omega,zgt _⟩
theorem zaf:∀(f:Nat) (l:List UInt8) (at_:Nat) (g:Nat),l.length<=f->l.length<=g->Wj f at_ l=Wj g at_ l
 |0,l,at_,g,h,hg=>by
  have:l=[]:=UP (by omega);subst this;cases g<;>rfl
 |f+1,l,at_,g,h,hg=>by
  match l with
  |[]=>cases g<;>rfl
  |c::r=>
   match g,hg with
   |g+1,hg=>
    have hp:=WX (l:=c::r) (by simp);unfold Wj;simp only[R,jk,jp];cases hn:nxt (c::r) with
    |err e=>rfl
    |skip n=>
     rw[hn] at hp;simp only[wa] at hp |-
     exact zaf f _ _ g (by grind) (by grind)
    |tok k n v=>
     rw[hn] at hp;simp only[wa] at hp |-
     rw[zaf f ((c::r).drop n) _ g (by grind) (by grind)]
theorem zcc(at_:Nat):WW at_ [] = .inr []:=rfl
theorem zdy (at_:Nat) (h:l≠[]):WW at_ l=match nxt l with
    | .skip n=>WW (at_+n) (l.drop n)
    | .err e =>.inl (at_,e)
    | .tok k n v=>match WW (at_+n) (l.drop n) with
     | .inl x =>.inl x
     | .inr ts =>.inr (⟨k,lit (l.take n),v,at_⟩::ts):=by
 match l,h with
 |c::r,_=>
  have hp:=WX (l:=c::r) (by simp);unfold WW;show Wj (r.length+1) at_ (c::r)=_;rw[Wj];simp only[R,jk,jp];cases hn:nxt (c::r) with
  |err e=>rfl
  |skip n=>
   rw[hn] at hp;simp only[wa] at hp |-
   exact zaf _ _ _ _ (by grind) (UJ _)
  |tok k n v=>
   rw[hn] at hp;simp only[wa] at hp |-
   rw[zaf r.length ((c::r).drop n) _ ((c::r).drop n).length (by grind) (UJ _)]
theorem ziD(p:UInt8->Bool):∀l:List UInt8,l.take (Zo p l)=l.takeWhile p
 |[]=>rfl
 |c::l=>by
  rw[yN,K];cases p c with
  |true=>simp[ziD p l]
  |false=>simp
theorem zxq(p:UInt8->Bool)(l:List UInt8):∀c∈l.take (Zo p l),p c=true:=by
 rw[ziD]
 induction l with
 |nil=>simp
 |cons a l ih=>
  rw[K];grind
theorem WY(h:(bs s).drop i=l)(hl:l≠[]):i < s.size/\l.length=s.size - i:=by
 subst h;rw[UQ,ye];refine⟨?_,rfl⟩;rcases Nat.lt_or_ge i s.size with h | h
 ·exact h
 ·exact absurd (U6 (by rw[ye];exact h)) hl
theorem wq(h:(bs s).drop i=l)(hl:l≠[])(hn:n<=l.length):ZI s (i:Int) ((i+n:Nat):Int)=d (lit (l.take n)):=by
 obtain⟨h1,h2⟩:=WY h hl;rw[zm5 (by omega) (by omega)];congr 1;apply zr1;rw[zpj,wo,<- h,Q]
theorem Vg(h:(bs s).drop i=l)(hc:l[n]?=d c):Zg s ((i+n:Nat):Int)=d (c.toNat:Int):=by
 apply XJ;grind
theorem wF(l:List UInt8):(lit l).size=l.length:=by rw[<- ye,wo]
theorem zdz{M:Nat}(hM:M=18446744073709551615):∀(l:List UInt8) (a:Nat),(∀c∈l,isD c=w)->a<=M->U M a l=if WV a l<=M then .ok (WV a l) else .range
 |[],a,_,ha=>by rw[jv (show WV a []<=M from ha)];rfl
 |c::r,a,h,ha=>by
  have hc:=h c (by simp);simp only[isD,gf,jl] at hc;have hge:=zhO r (a * 10+(c.toNat - 48));have e:WV a (c::r)=WV (a * 10+(c.toNat - 48)) r:=rfl;rw[e];unfold U;rw[jv hc];split
  ·grind
  ·split
   ·grind
   ·exact zdz hM r _ (λx hx=>h x (by simp[hx])) (by omega)
theorem zr5(hl:l≠[])(h:∀c∈l,isD c=w):V 64 l=if YT l < 9223372036854775808 then .ok (YT l:Int) else .range:=by
 match l,hl with
 |c::r,_=>
  have hc:=h c (by simp);simp only[isD,gf,jl] at hc;have e43:¬ (c.toNat=43\/c.toNat=45):=by omega
  have e45:¬ c.toNat=45:=by omega
  unfold V Lib.parseUintB;simp only;rw[jx e43,jx (by simp)];generalize hM:(2 ^ 64 - 1:Nat)=M;generalize hB:(2 ^ (64 - 1):Nat)=B;have hM:M=18446744073709551615:=by rw[<- hM]
  have hB:B=9223372036854775808:=by rw[<- hB]
  rw[zdz hM _ _ h (by omega)];simp only[e45,false_and,ju,UF,jp]
  show(match(if YT (c::r)<=M then Lib.NumEnd.ok (YT (c::r)) else .range) with
   | .syntax=>Lib.NumEnd.syntax
   | .range =>.range
   | .ok u=>if B<=u then .range else .ok (u:Int))=_
  by_cases h1:YT (c::r)<=M
  ·rw[jv h1];simp only;by_cases h2:YT (c::r) < 9223372036854775808
   all_goals grind
  grind
abbrev tk0:qr:=⟨0,lit [],0,0⟩
theorem zr6 {r:List UInt8}(hs:s.size<=16384) (hl:(bs s).drop i=c::r) (hd:isD c=w) :
    qdl (s,(i:Int),((i+Zo isD (c::r):Nat):Int))=d (if vt (c::r) then(tk0,12) else(⟨3,lit ((c::r).take (Zo isD (c::r))),(YT ((c::r).take (Zo isD (c::r))):Nat),i⟩,0)):=by
 obtain⟨h1,h2⟩:=WY hl (by simp);have hn:=XW isD (c::r);have hn1:1<=Zo isD (c::r):=by rw[yN];simp[hd]
 generalize hN:Zo isD (c::r)=n at *
 have hall:=zxq isD (c::r);rw[hN] at hall;have hne:(c::r).take n≠[]:=by
  match n,hn1 with
  |n+1,_=>simp
 have hlen:((c::r).take n).length=n:=by grind
 have hhead:((c::r).take n)[0]?=d c:=by
  grind
 have hlast:∀(X Y:U3 (qr×Int)),(if decide (((i+n:Nat):Int) < (s.size:Int))=w then(Zg s ((i+n:Nat):Int)).bind λy=>(q8p y).bind λz=>if z=w then X else Y else Y)=if zcb (c::r)[n]?=w then X else Y:=by
  intro X Y;by_cases hb:i+n < s.size
  · have:n < (c::r).length:=by omega
    have hg:=UI this;generalize (c::r)[n]=b at hg;rw[Vg hl hg,hg];simp only[jl,jj,zae];rw[jv (E.2 hb)];rfl
  ·have:(c::r)[n]?=none:=UO (by omega);rw[this];simp only[jl];rw[jx (λh=>hb (E.1 h))];rfl
 unfold qdl qgb;rw[show((s,(i:Int),((i+n:Nat):Int)):U0×Int×Int).1=s from rfl];simp only;rw[wq hl (by simp) (by omega)];simp only[jj,qdm,wn,UF];rw[jv (by rw[wF,hlen];omega),show(lit ((c::r).take n)).data.toList=(c::r).take n from rfl,zr5 hne hall];by_cases hv:YT ((c::r).take n) < 9223372036854775808
 · rw[jv hv];simp only[jj,jo];unfold vt;rw[hN];by_cases h40:1099511627776 < YT ((c::r).take n)
   ·grind
   · simp only[jl];rw[jx (by omega),wF,hlen];have hl2:=hlast (d (qr.mk 0 (lit []) 0 0,12)) (d (qr.mk 3 (lit ((c::r).take n)) (YT ((c::r).take n):Nat) i,0));simp only[jl] at hl2;have e0:Zg (lit ((c::r).take n)) 0=d (c.toNat:Int):=XJ (i:=0) hhead;by_cases h1n:1 < n
     · rw[jv (by omega),e0];simp only[jj];by_cases h48:c.toNat=48
       ·rw[jv (by omega)];have:c=48:=I.1 (by grind);grind
       · rw[jx (by omega),hl2];have:¬ c=48:=λh=>h48 (by rw[h];rfl)
         simp only[h40,h1n,this,js,jr,S,P.injEq,W,DA];grind
     ·rw[jx (by omega),hl2];grind
 ·rw[jx hv];simp only[jj,jm];unfold vt;grind
theorem zxr (hs:s.size<=16384) (hl:(bs s).drop i=l) (hne:l≠[]) (hn:n<=l.length) :
    qfg (s,(i:Int),((i+n:Nat):Int))=d (if 16 < n then(tk0,13) else(⟨if zca (l.take n) then 2 else 1,lit (l.take n),0,i⟩,0)):=by
 unfold qfg qgz;simp only;rw[wq hl hne hn];have hlen:(l.take n).length=n:=by grind
 simp only[jj,wF,hlen,jl,znA];by_cases h:16 < n
 ·grind
 ·rw[jx (by omega),jx h];grind
theorem zdA(l:List UInt8)(a b:UInt8):q7x (lit l,lit [a,b])=d (decide (l.take 2=[a,b])):=by
 show((q4n (lit l,lit [a,b])).bind λy=>d y)=_;unfold q4n;simp only[wF,jz,List.length_nil,jl];by_cases h:2<=l.length
 ·rw[jv (by omega)];have:ZI (lit l) 0 ((2:Nat):Int)=d (lit (l.take 2)):=by
   have:=wq (s:=lit l) (i:=0) (n:=2) (l:=l) rfl (by grind) h;grind
  rw[show((0+1+1:Nat):Int)=((2:Nat):Int) from rfl,this];simp only[jj];congr 1;refine decide_eq_decide.2 ⟨λh=>?_,λh=>by rw[h]⟩;have:=congrArg bs h;simpa[wo] using this
 ·rw[jx (by omega)];have:l.take 2≠[a,b]:=by
   intro e;have:=congrArg F e;grind
  simp[this]
theorem VO:∀(l:List UInt8) (c:UInt8),(0<=H l c)↔l.contains c=w
 |[],c=>by simp[H]
 |b::l,c=>by
  have ih:=VO l c;have hg:=Lib.indexByte_ge l c;unfold H;by_cases h:b=c
  ·subst h;simp
  ·have h':(b == c)=false:=by simpa using h
   have h2:(c == b)=false:=by grind
   simp only[h',jk,jp,T,h2,DA];rw[<- ih];grind
theorem zxs(hne:l≠[]):qgj (lit l)=d (lit (l.take (YI l))):=by
 show(lpO (qbr q7x q7y) (lit l,(lit [45,62],lit [60,61],lit [61,61]),0)).bind _=_;have w1:U4 (0+1)=1:=by decide
 have w2:U4 (1+1)=2:=by decide
 have w3:U4 (2+1)=3:=by decide
 have g0:∀A B C:U0,vy [A,B,C] 0=d A:=λ_ _ _=>rfl
 have g1:∀A B C:U0,vy [A,B,C] 1=d B:=λ_ _ _=>rfl
 have g2:∀A B C:U0,vy [A,B,C] 2=d C:=λ_ _ _=>rfl
 have two_take:two l=w->l.take 2=[45,62]\/l.take 2=[60,61]\/l.take 2=[61,61]:=by
  intro h;simpa[two] using h
 have loop:lpO (qbr q7x q7y) (lit l,(lit [45,62],lit [60,61],lit [61,61]),0)=d (if two l then .inl (lit (l.take 2)) else .inr (lit l)):=by
  rw[Zu];simp only[qbr,zdA,jj,g0,w1];by_cases h1:l.take 2=[45,62]
  ·simp[h1,two]
  ·simp only[h1,jr,jk,jp,jj];rw[show decide ((0:Int) < 3)=w from rfl];simp only[jq,jj];rw[Zu];simp only[qbr,zdA,jj,g1,w2];rw[show decide ((1:Int) < 3)=w from rfl];by_cases h2:l.take 2=[60,61]
   ·simp[h2,two]
   ·simp only[h2,jr,jk,jp,jj,jq];rw[Zu];simp only[qbr,zdA,jj,g2,w3];rw[show decide ((2:Int) < 3)=w from rfl];by_cases h3:l.take 2=[61,61]
    ·simp[h3,two]
    ·simp only[h3,jr,jk,jp,jj,jq];rw[Zu];simp only[qbr];grind
 rw[loop];unfold YI;by_cases ht:two l=w
 ·grind
 ·rw[jx ht,jx ht]
  match l,hne with
  |c::r,_=>
   have e0:Zg (lit (c::r)) 0=d (c.toNat:Int):=XJ (i:=0) rfl;have e1:ZI (lit (c::r)) 0 1=d (lit [c]):=by
    have:=wq (s:=lit (c::r)) (i:=0) (n:=1) (l:=c::r) rfl (by simp) (by simp);grind
   simp only[jj,jm];rw[e0,e1];simp only[jj,q7y,Wa,Int.toNat_natCast];have hb:(0<=H (lit [123,125,40,41,91,93,44,58,59,61,43,45,38,60]).data.toList c.toNat.toUInt8)↔sgn c=true:=by
    have:c.toNat.toUInt8=c:=by simp[Nat.toUInt8]
    rw[this];exact VO _ c
   by_cases hs:sgn c=w
   ·grind
   grind
noncomputable abbrev zcd:=qej qc2 qaj qdj qdl q8p qco qfg qgj
theorem zpl (hs:s.size<=16384) (hl:(bs s).drop i=l) (hne:l≠[]) (out:Sl qr) :
    zcd (s,(i:Int),out)=match nxt l with
     | .skip n=>d (.next (s,((i+n:Nat):Int),out))
     | .err e=>d (.done (.inl ((i:Int),e)))
     | .tok k n v=>(zo 40 out [⟨k,lit (l.take n),v,i⟩]).bind λo=>d (.next (s,((i+n:Nat):Int),o)):=by
 obtain⟨h1,h2⟩:=WY hl hne
 match l,hne with
 |c::r,_=>
  have hc:Zg s (i:Int)=d (c.toNat:Int):=Vg (n:=0) hl rfl;have hpos:=WX (l:=c::r) (by simp);simp only[zcd,qej];rw[jv (gm (E.2 h1)),hc];simp only[jj];have e32:((c.toNat:Int)=32)↔c.toNat=32:=by omega
  have e10:((c.toNat:Int)=10)↔c.toNat=10:=by omega
  have e35:((c.toNat:Int)=35)↔c.toNat=35:=by omega
  have rest:∀(k:Int) (n:Nat) (v:Int),n<=(c::r).length->(zo 40 out [⟨k,lit ((c::r).take n),v,i⟩]).bind (λo=>d (Step.next (β:=Int×Int⊕U0×Sl qr) (s,U4 ((i:Int)+((lit ((c::r).take n)).size:Int)),o)))=(zo 40 out [⟨k,lit ((c::r).take n),v,i⟩]).bind λo=>d (.next (s,((i+n:Nat):Int),o)):=by
   intro k n v hn;have hz:(lit ((c::r).take n)).size=n:=by rw[wF,Dk];omega
   rw[hz,VN (by omega)]
  unfold nxt at hpos |-
  simp only at hpos |-
  by_cases hb:c.toNat=32\/c.toNat=10
  · rw[jv hb];simp only;rcases hb with hb | hb
    ·rw[jv (gm (e32.2 hb))];simp[xR (n:=i) (by omega)]
    · have:¬ c.toNat=32:=by omega
      rw[jx (λh=>this (e32.1 (Du h)))];simp only[jj,jl];rw[jv (e10.2 hb)];simp[xR (n:=i) (by omega)]
  · rw[jx hb] at hpos |-
    have n32:¬ c.toNat=32:=λh=>hb (.inl h)
    have n10:¬ c.toNat=10:=λh=>hb (.inr h)
    rw[jx (λh=>n32 (e32.1 (Du h)))];simp only[jj,jl];rw[jx (λh=>n10 (e10.1 h))];by_cases h35:c.toNat=35
    ·rw[jv (e35.2 h35),jv h35,zr4 (by omega) (by omega),hl];simp
    · rw[jx (λh=>h35 (e35.1 h))];rw[jx h35] at hpos |-
      simp only[zb8,zae,jj];by_cases hd:isD c=w
      · rw[jv hd] at hpos;rw[jv hd,jv hd,zr3 (by omega) (by omega),hl];simp only[jj];rw[zr6 hs hl hd];unfold XX at hpos |-
        by_cases hbad:vt (c::r)=w
        ·grind
        ·rw[jx hbad] at hpos;rw[jx hbad,jx hbad];simp only[wa] at hpos;simp only[jj,jm,Di,jt,jp,gh,jo];grind
      · rw[jx hd] at hpos;rw[jx hd,jx hd];by_cases hL:isL c=w
        · rw[jv hL] at hpos;rw[jv hL,jv hL,zpk (by omega) (by omega),hl];simp only[jj];rw[zxr hs hl (by simp) (XW _ _)];unfold xz at hpos |-
          by_cases h16:16 < Zo isW (c::r)
          ·grind
          ·rw[jx h16] at hpos;rw[jx h16,jx h16];simp only[wa] at hpos;simp only[jj,jm,Di,jt,jp,gh,jo];grind
        · rw [jx hL] at hpos;rw[jx hL,jx hL];have hcut:ZI s (i:Int) (s.size:Int)=d (lit (c::r)):=by
            have:=wq (n:=(c::r).length) hl (by simp) (UJ _);grind
          rw[hcut];simp only[jj];rw[zxs (by simp)];simp only[jj,jl];unfold xA at hpos |-
          by_cases h0:YI (c::r)=0
          ·grind
          · rw [jx h0] at hpos;have hx:¬ lit ((c::r).take (YI (c::r)))=lit []:=by
              intro e;have:=congrArg (λx=>(bs x).length) e;simp only[wo] at this;grind
            rw[jx h0,jx hx];simp only[wa] at hpos;simp only[jj,jm,Di,jt,jp,gh,jo];grind
theorem zug (hs:s.size<=16384):∀(n i:Nat) (acc:List qr) (nn:Bool),s.size - i<=n->i<=s.size->acc.length<=i->
    lpO zcd (s,(i:Int),⟨acc,nn⟩)=d (match WW i ((bs s).drop i) with
     | .inl x =>.inl ((x.1:Int),x.2)
     | .inr ts =>.inr (s,⟨acc++ts,nn || !ts.isEmpty⟩)):=by
 intro n
 induction n with
 |zero=>
  intro i acc nn hn hi ha;have:i=s.size:=by omega
  subst this;rw[Zu];have hd:(bs s).drop s.size=[]:=U6 (by rw[ye];grind);rw[hd,zcc];simp[zcd,qej]
 |succ n ih=>
  intro i acc nn hn hi ha;rcases Nat.lt_or_ge i s.size with hlt | hge
  · have hne:(bs s).drop i≠[]:=by
      intro e;have:=congrArg F e;rw[UQ,ye] at this;grind
    have hp:=WX hne;have hlen:((bs s).drop i).length=s.size - i:=by rw[UQ,ye]
    rw[Zu,zpl hs rfl hne,zdy _ hne];cases hx:nxt ((bs s).drop i) with
    |err e=>rfl
    |skip k=>
     rw[hx] at hp;simp only[wa] at hp;simp only[jj,G];rw[ih (i+k) acc nn (by omega) (by omega) (by omega)]
    |tok k m v=>
     rw[hx] at hp;simp only[wa] at hp;simp only[G];rw[yF (by grind) (by grind)];simp only[jj];rw[ih (i+m) _ _ (by omega) (by omega) (by grind)];grind
  grind
def Z1(s:U0):Int×Int×Sl qr:=if 16384 < s.size then(0,10,⟨[],D⟩) else match WW 0 (bs s) with
 | .inl x=>((x.1:Int),x.2,⟨[],D⟩)
 | .inr ts=>(0,0,⟨ts++[⟨0,lit [],0,s.size⟩],w⟩)
theorem VP:∀(m:Nat) (l:List UInt8) (i:Nat) (ts:List qr),l.length<=m->WW i l = .inr ts->ts.length<=l.length
 |0,l,i,ts,hm,h=>by
  have:l=[]:=UP (by omega);subst this;rw[zcc] at h;cases h;simp
 |m+1,l,i,ts,hm,h=>by
  by_cases hne:l=[]
  ·subst hne;rw[zcc] at h;cases h;simp
  ·have hp:=WX hne;rw[zdy _ hne] at h;cases hx:nxt l with
   |err e=>grind
   |skip k=>
    rw[hx] at h hp;simp only[wa] at hp;have:=VP m _ _ _ (by grind) h;grind
   |tok k n v=>
    rw[hx] at h hp;simp only[wa] at hp;simp only at h;cases hr:WW (i+n) (l.drop n) with
    |inl x=>grind
    |inr us=>
     rw[hr] at h;cases h;have:=VP m _ _ _ (by grind) hr;grind
theorem zr7(s:U0):qcb s=d (Z1 s):=by
 unfold qcb qgc Z1;simp only[jl];by_cases h:16384 < s.size
 ·grind
 ·rw[jx (by omega),jx h];have:=zug (s:=s) (by omega) s.size 0 [] D (by omega) (by omega) (by simp);rw[Dr] at this;rw[show((s,0,Sl.mk [] D):U0×Int×Sl qr)=(s,((0:Nat):Int),⟨[],D⟩) from rfl,this];cases hx:WW 0 (bs s) with
  |inl x=>rfl
  |inr ts=>
   have hl:=VP _ _ _ _ (UJ _) hx;rw[ye] at hl;simp only[jj,jm,Do,DA];rw[yF (by grind) (by grind)];simp
theorem zce(b:UInt8):q2r (b.toNat:Int)=d (isL b):=zae b
theorem zdB(b:UInt8):q4e (b.toNat:Int)=d (isD b):=zb8 b
theorem zuh(l:List UInt8):q3s (lit l)=d (zca l):=znA l
theorem zxt(c:UInt8)(k:Nat)(hk:k < 256):decide ((c.toNat:Int)=(k:Int))=decide (c=O k):=by
 refine decide_eq_decide.2 ⟨λh=>I.1 ?_,λh=>?_⟩
 ·rw[N (by grind)];omega
 ·rw[h,N (by grind)]
theorem zza(c:UInt8):sgn c=(decide ((c.toNat:Int)=123) || (decide ((c.toNat:Int)=125) || (decide ((c.toNat:Int)=40) || (decide ((c.toNat:Int)=41) || (decide ((c.toNat:Int)=91) || (decide ((c.toNat:Int)=93) || (decide ((c.toNat:Int)=44) || (decide ((c.toNat:Int)=58) || (decide ((c.toNat:Int)=59) || (decide ((c.toNat:Int)=61) || (decide ((c.toNat:Int)=43) || (decide ((c.toNat:Int)=45) || (decide ((c.toNat:Int)=38) || decide ((c.toNat:Int)=60)))))))))))))):=by
 have h:∀k:Nat,k < 256->decide ((c.toNat:Int)=(k:Int))=(c == O k):=λk hk=>by rw[zxt c k hk];rfl
 have:=h 123 (by omega);have h2:=h 125 (by omega);have h3:=h 40 (by omega);have h4:=h 41 (by omega);have h5:=h 91 (by omega);have h6:=h 93 (by omega);have h7:=h 44 (by omega);have h8:=h 58 (by omega);have h9:=h 59 (by omega);have h10:=h 61 (by omega);have h11:=h 43 (by omega);have h12:=h 45 (by omega);have h13:=h 38 (by omega);have h14:=h 60 (by omega);simp only[Int.cast_ofNat_Int] at *
 simp only[sgn,T,List.contains_nil,L];grind
theorem zr8(h:l.length < 2):two l=false:=by
 have:∀a b:UInt8,¬ l.take 2=[a,b]:=by
  intro a b e;have:=congrArg F e;grind
 simp[two,this]
theorem zui(hs:s.size<=16384)(hl:(bs s).drop i=l)(hne:l≠[]):q43 (s,(i:Int))=d (YI l:Int):=by
 obtain⟨h1,h2⟩:=WY hl hne;unfold q43 qcc;simp only;rw[xR (by omega)];have e2:U4 ((i:Int)+2)=((i+2:Nat):Int):=VN (k:=2) (by omega);rw[e2]
 have first:((if decide (((i+1:Nat):Int) < (s.size:Int))=w then
       (ZI s (i:Int) ((i+2:Nat):Int)).bind λy0=>d (s,(i:Int),y0) else d (s,(i:Int),lit [])).bind λ(y1:U0×Int×U0)=>(if decide (y1.2.2=lit [45,62])=w then d (y1.1,y1.2.1,w) else if decide (y1.2.2=lit [60,61])=w then d (y1.1,y1.2.1,w) else d (y1.1,y1.2.1,decide (y1.2.2=lit [61,61]))))=d (s,(i:Int),two l):=by
  by_cases h:i+1 < s.size
  · rw[jv (gm (E.2 h)),wq hl hne (by omega)];simp only[jj,znz,wo,two];by_cases a:l.take 2=[45,62]
    ·simp[a]
    · by_cases b:l.take 2=[60,61]
      ·simp[b]
      ·simp only[a,b,jr,jk,jp,jj,DA];rfl
  · rw[jx (λx=>h (E.1 (Du x)))];rw[zr8 (by omega)];have:∀a b:UInt8,lit []≠lit [a,b]:=λa b e=>by have:=congrArg bs e;simp[wo] at this
    simp[this]
 rw[<- gh,first];simp only[jj];unfold YI;by_cases ht:two l=w
 ·grind
 · rw[jx ht,jx ht]
   match l,hne with
   |c::r,_=>
    have hc:Zg s (i:Int)=d (c.toNat:Int):=Vg (n:=0) hl rfl;rw[hc];simp only[jj];have key:∀{X:U3 Bool} {b:Bool},X=d b->(X.bind λy=>if y=w then d (1:Int) else d 0)=d ((if b then 1 else 0:Nat):Int):=by
     grind
    rw[zza];refine key ?_
    repeat (first | exact rfl | apply zlJ | apply zlK)
theorem zAP(h:n<=255):IntKind.u8.wrap (n:Int)=n:=by
 simp only[U4,IntKind.wrap,IntKind.bits,IntKind.signed];simp;omega
def Wk(n:Nat)(g:Bool):List UInt8->Nat×Bool
 |[]=>(n,g)
 |c::r=>let n':=if n<=1099511627776 then n * 10+(c.toNat - 48) else n
  Wk n' (if 1099511627776 < n' then w else g) r
theorem zgu:∀(l:List UInt8) (n:Nat),(Wk n w l).2=w
 |[],n=>rfl
 |c::r,n=>by
  unfold Wk;simp only[ite_self];exact zgu r _
theorem znB:∀(l:List UInt8) (n:Nat),n<=1099511627776->if 1099511627776 < WV n l then(Wk n D l).2=w else Wk n D l=(WV n l,D)
 |[],n,h=>by
  rw[jx (by show¬ 1099511627776 < n;omega)];rfl
 |c::r,n,h=>by
  have e:WV n (c::r)=WV (n * 10+(c.toNat - 48)) r:=rfl;rw[e];unfold Wk;simp only[jv h];by_cases h2:1099511627776 < n * 10+(c.toNat - 48)
  ·have:=zhO r (n * 10+(c.toNat - 48));rw[jv (by omega),jv h2];exact zgu r _
  ·rw[jx h2];exact znB r _ (by omega)
abbrev RT:=q9×q9
noncomputable abbrev zhP:=q7b q2r q4e q3s q43
noncomputable abbrev zgv:=q7c q2r q4e q3s q43
theorem ziE(hs:s.size<=16384)(a:Int)(t:RT):∀(n i:Nat),s.size - i=n->i<=s.size->lpO zhP (s,a,(i:Int),t)=d (s,a,((i+Zo isW ((bs s).drop i):Nat):Int),t)
 |0,i,hn,hi=>by
  have:i=s.size:=by omega
  subst this;rw[Zu];simp[zhP,q7b,U6,ye,zb7]
 |n+1,i,hn,hi=>by
  have hlt:i < s.size:=by omega
  obtain⟨c,hc,hd⟩:=zad (l:=bs s) (i:=i) (by rw[ye];exact hlt);rw[Zu];simp only[zhP,q7b,jl];rw[jv (E.2 hlt),XJ hc];simp only[jj,zce,zdB];rw[hd,yN];have ih:=ziE hs a t n (i+1) (by omega) (by omega);have hw:=xR (n:=i) (by omega);cases hL:isL c with
  |true=>
   simp only[isW,hL,Bool.true_or,Dn,jk,jp,jq,jj,hw];grind
  |false=>
   cases hD:isD c with
   |true=>
    simp only[isW,hL,hD,Bool.or_true,Dn,D5,jk,jp,jq,jj,hw];grind
   |false=>simp[isW,hL,hD]
theorem zlL (hs:s.size<=16384) (a:Int) (t:RT):∀(n i m:Nat) (g:Bool),m<=10995116277769->s.size - i=n->i<=s.size->
    lpO zgv (s,a,(i:Int),(m:Int),g,t)=d (s,a,((i+Zo isD ((bs s).drop i):Nat):Int),((Wk m g (((bs s).drop i).take (Zo isD ((bs s).drop i)))).1:Int),(Wk m g (((bs s).drop i).take (Zo isD ((bs s).drop i)))).2,t)
 |0,i,m,g,hm,hn,hi=>by
  have:i=s.size:=by omega
  subst this;rw[Zu];simp[zgv,q7c,U6,ye,zb7,Wk]
 |n+1,i,m,g,hm,hn,hi=>by
  have hlt:i < s.size:=by omega
  obtain⟨c,hc,hd⟩:=zad (l:=bs s) (i:=i) (by rw[ye];exact hlt);rw[Zu];simp only[zgv,q7c,jl];rw[jv (E.2 hlt),XJ hc];simp only[jj,zdB];rw[hd,yN];cases hD:isD c with
  |false=>simp[Wk]
  |true=>
   have hD2:=hD;simp only[isD,gf,jl] at hD2;simp only[Dn,jk,jp,jq];have e1:U4 (IntKind.u8.wrap ((c.toNat:Int) - 48))=((c.toNat - 48:Nat):Int):=by
    have:((c.toNat:Int) - 48)=((c.toNat - 48:Nat):Int):=by omega
    rw[this,zAP (by omega),zlI (by omega)]
   have e2:U4 (U4 ((m:Int) * 10)+((c.toNat - 48:Nat):Int))=((m * 10+(c.toNat - 48):Nat):Int):=by
    have:((m:Int) * 10)=((m * 10:Nat):Int):=by omega
    rw[this,zlI (by omega),VN (by omega)]
   rw[e1,e2];have hw:=xR (n:=i) (by omega);have hn':(if m<=1099511627776 then m * 10+(c.toNat - 48) else m)<=10995116277769:=by grind
   have step:∀(m':Nat),m'<=10995116277769->lpO zgv (s,a,((i+1:Nat):Int),(m':Int),(if 1099511627776 < m' then w else g),t)=d (s,a,((i+(Zo isD ((bs s).drop (i+1))+1):Nat):Int),((Wk m' (if 1099511627776 < m' then w else g) (((bs s).drop (i+1)).take (Zo isD ((bs s).drop (i+1))))).1:Int),(Wk m' (if 1099511627776 < m' then w else g) (((bs s).drop (i+1)).take (Zo isD ((bs s).drop (i+1))))).2,t):=by
    intro m' hm';refine(zlL hs a t n (i+1) m' _ hm' (by omega) (by omega)).trans ?_;congr 4;omega
   simp only[List.take_succ_cons,Wk];by_cases h40:m<=1099511627776
   · rw[jv (show(m:Int)<=1099511627776 by omega)];simp only[jv h40,jj];rw[<- step _ (by omega)];by_cases hg:1099511627776 < m * 10+(c.toNat - 48)
     ·rw[jv (show(1099511627776:Int) < ((m * 10+(c.toNat - 48):Nat):Int) by omega),jv hg];grind
     ·rw[jx (show¬ (1099511627776:Int) < ((m * 10+(c.toNat - 48):Nat):Int) by omega),jx hg];grind
   · rw[jx (show¬ (m:Int)<=1099511627776 by omega)];simp only[jx h40,jj];rw[<- step _ hm];have hg:1099511627776 < m:=by omega
     grind
abbrev zzb:q9:=⟨0,lit [],0,0⟩
def rNx(i:Nat)(l:List UInt8):Nx->q9×Int
 | .tok k n v=>(⟨k,lit (l.take n),v,i⟩,0)
 | .err e=>(zzb,e)
 | .skip _=>(zzb,0)
theorem zxu {r:List UInt8}(hs:s.size<=16384) (hl:(bs s).drop i=c::r) :
    q6b (s,(i:Int))=d (rNx i (c::r) (if isD c then XX (c::r) else if isL c then xz (c::r) else xA (c::r))):=by
 obtain⟨h1,h2⟩:=WY hl (by simp);have hc:Zg s (i:Int)=d (c.toNat:Int):=Vg (n:=0) hl rfl;unfold q6b qcp;simp only;rw[hc];simp only[jj,zce,zdB];by_cases hL:isL c=w
 · have hD:isD c=false:=by
     simp only[isL,UN,gf,jl] at hL;simp only[isD,Bool.and_eq_false_imp,jl,decide_eq_false_iff_not];omega
   rw[jv hL];have hloop:=ziE hs (i:Int) ((⟨0,lit [],0,0⟩,⟨0,lit [],0,(i:Int)⟩):RT) _ i rfl (by omega);rw[hl] at hloop;rw[show lpO (q7b q2r q4e q3s q43) (s,(i:Int),(i:Int),(⟨0,lit [],0,0⟩:q9),(⟨0,lit [],0,(i:Int)⟩:q9))=_ from hloop];simp only[jj];rw[wq hl (by simp) (XW _ _)];have hlen:((c::r).take (Zo isW (c::r))).length=Zo isW (c::r):=by rw[Dk];have:=XW isW (c::r);omega
   simp only[jj,wF,hlen,jl,zuh];rw[hD];simp only[jk,jp,hL,jq];unfold xz;by_cases h:16 < Zo isW (c::r)
   ·rw[jv (by omega),jv h];rfl
   · rw[jx (by omega),jx h];by_cases hk:zca ((c::r).take (Zo isW (c::r)))=w
     ·rw[jv hk,jv hk];rfl
     ·rw[jx hk,jx hk];rfl
 · rw[jx hL];simp only[jj,jm];by_cases hD:isD c=w
   · rw[jv hD,jv hD];have hn:=XW isD (c::r);have hn1:1<=Zo isD (c::r):=by rw[yN];simp[hD]
     have hloop:=zlL hs (i:Int) ((⟨0,lit [],0,0⟩,⟨0,lit [],0,(i:Int)⟩):RT) _ i 0 D (by omega) rfl (by omega);rw[hl] at hloop;rw[show lpO (q7c q2r q4e q3s q43) (s,(i:Int),(i:Int),0,D,(⟨0,lit [],0,0⟩:q9),(⟨0,lit [],0,(i:Int)⟩:q9))=_ from hloop];have hnum:=znB ((c::r).take (Zo isD (c::r))) 0 (by omega);have hN:WV 0 ((c::r).take (Zo isD (c::r)))=YT ((c::r).take (Zo isD (c::r))):=rfl;rw[hN] at hnum;unfold XX vt;generalize hnr:Zo isD (c::r)=n at *
     generalize hpq:Wk 0 D ((c::r).take n)=pq at *
     obtain⟨p,q⟩:=pq;simp only[jj,jl];have hlast:(if(((i+n:Nat):Int) < (s.size:Int)) then(Zg s ((i+n:Nat):Int)).bind λy=>(q2r y).bind λz=>d (s,(i:Int),((i+n:Nat):Int),(p:Int),q,z,((⟨0,lit [],0,0⟩,⟨0,lit [],0,(i:Int)⟩):RT)) else d (s,(i:Int),((i+n:Nat):Int),(p:Int),q,D,(((⟨0,lit [],0,0⟩,⟨0,lit [],0,(i:Int)⟩):RT):RT)))=d (s,(i:Int),((i+n:Nat):Int),(p:Int),q,zcb (c::r)[n]?,(((⟨0,lit [],0,0⟩,⟨0,lit [],0,(i:Int)⟩):RT):RT)):=by
      by_cases hb:i+n < s.size
      · have:n < (c::r).length:=by omega
        have hg:=UI this;generalize (c::r)[n]=b at hg;rw[Vg hl hg,hg];simp only[jj,zce];rw[jv (E.2 hb)];rfl
      ·have:(c::r)[n]?=none:=UO (by omega);rw[this,jx (λh=>hb (E.1 h))];rfl
     rw[show(if(((i+n:Nat):Int) < (s.size:Int)) then(Zg s ((i+n:Nat):Int)).bind λy=>(q2r y).bind λz=>d (s,(i:Int),((i+n:Nat):Int),(p:Int),q,z,((⟨0,lit [],0,0⟩,⟨0,lit [],0,(i:Int)⟩):RT)) else d (s,(i:Int),((i+n:Nat):Int),(p:Int),q,D,(((⟨0,lit [],0,0⟩,⟨0,lit [],0,(i:Int)⟩):RT):RT)))=_ from hlast];simp only[jj,hc];have e1:((i:Int)+1)=((i+1:Nat):Int):=by omega
     have hw:=xR (n:=i) (by omega);by_cases h40:1099511627776 < YT ((c::r).take n)
     ·rw[jv h40] at hnum;simp only at hnum;subst hnum;simp[h40,rNx]
     · rw[jx h40] at hnum;simp only[Prod.mk.injEq] at hnum;obtain⟨hp,hq⟩:=hnum;subst hp hq;simp only[jk,jp];cases hlt:zcb (c::r)[n]? with
       |true=>simp[h40,rNx]
       |false=>
        simp only[jk,jp,hw];have e48:((c.toNat:Int)=48)↔c=48:=by
         constructor
         ·intro h;exact I.1 (by grind)
         ·intro h;rw[h];rfl
        by_cases h48:c=48
        · rw[jv (e48.2 h48)];simp only[jj];by_cases h1n:1 < n
          · have:((i+1:Nat):Int) < ((i+n:Nat):Int):=by omega
            simp[h40,h1n,h48,this,rNx];grind
          · have:¬ ((i+1:Nat):Int) < ((i+n:Nat):Int):=by omega
            simp only[this,jr,jk,jp,h40,h1n,Bool.false_and,L];rw[wq hl (by simp) hn];rfl
        ·rw[jx (λh=>h48 (e48.1 h))];simp only[jj,jk,jp];rw[wq hl (by simp) hn];simp only[h40,h48,jr,S,P.injEq,W,L,jk,jp];rfl
   · rw[jx hD,jx hD,jx hL];simp only[jj,jm];rw[zui hs hl (by simp)];simp only[jj,jl];unfold xA;have hle:=zgt (c::r);by_cases h0:YI (c::r)=0
     ·rw[jv (by omega),jv h0];rfl
     ·rw[jx (by omega),jx h0,VN (by omega),wq hl (by simp) hle];rfl
theorem ziF(hs:s.size<=16384){f:U0×Int->U3 (q9×Int)}(out:Sl q9):∀(n i:Nat),s.size - i=n->i<=s.size->lpO (q7p f) (s,(i:Int),out)=d (s,((i+Zo Wi ((bs s).drop i):Nat):Int),out)
 |0,i,hn,hi=>by
  have:i=s.size:=by omega
  subst this;rw[Zu];simp[q7p,U6,ye,zb7]
 |n+1,i,hn,hi=>by
  have hlt:i < s.size:=by omega
  obtain⟨c,hc,hd⟩:=zad (l:=bs s) (i:=i) (by rw[ye];exact hlt);rw[Zu];simp only[q7p,jl];rw[jv (E.2 hlt),XJ hc];have hw:=xR (n:=i) (by omega);simp only[jj,hw];rw[hd,yN];have e10:((c.toNat:Int)≠10)↔Wi c=true:=by simp only[Wi,jl];omega
  by_cases h:Wi c=w
  ·rw[jv (gm (e10.2 h)),jv h];simp only[jj];refine(ziF hs out n (i+1) (by omega) (by omega)).trans ?_;congr 3;omega
  grind
abbrev toR(t:qr):q9:=⟨t.k_,t.T_,t.N_,t.a_⟩
noncomputable abbrev zd8:=q7q q6b
theorem zzc(hne:l≠[]){e:Int}(h:nxt l = .err e):e≠0:=by
 match l,hne with
 |c::r,_=>
  unfold nxt at h;simp only at h;split at h
  ·cases h
  ·split at h
   ·cases h
   ·split at h
    ·unfold XX at h;grind
    ·split at h
     ·unfold xz at h;grind
     ·unfold xA at h;grind
theorem zuj (hs:s.size<=16384) (hl:(bs s).drop i=l) (hne:l≠[]) (out:Sl q9) :
    zd8 (s,(i:Int),out)=match nxt l with
     | .skip n=>d (.next (s,((i+n:Nat):Int),out))
     | .err e=>d (.done (.inl ((i:Int),e)))
     | .tok k n v=>(zo 40 out [⟨k,lit (l.take n),v,i⟩]).bind λo=>d (.next (s,((i+n:Nat):Int),o)):=by
 obtain⟨h1,h2⟩:=WY hl hne
 match l,hne with
 |c::r,hne=>
  have hc:Zg s (i:Int)=d (c.toNat:Int):=Vg (n:=0) hl rfl;have hpos:=WX (l:=c::r) (by simp);have herr:=λe=>zzc (l:=c::r) (by simp) (e:=e)
  simp only[zd8,q7q];rw[jv (gm (E.2 h1)),hc];have hw:=xR (n:=i) (by omega);simp only[jj];have e32:((c.toNat:Int)=32)↔c.toNat=32:=by omega
  have e10:((c.toNat:Int)=10)↔c.toNat=10:=by omega
  have e35:((c.toNat:Int)=35)↔c.toNat=35:=by omega
  unfold nxt at hpos herr |-
  simp only at hpos herr |-
  by_cases hb:c.toNat=32\/c.toNat=10
  · rw[jv hb];simp only;rcases hb with hb | hb
    ·grind
    · have:¬ c.toNat=32:=by omega
      rw[jx (λh=>this (e32.1 (Du h)))];grind
  · rw[jx hb] at hpos herr |-
    have n32:¬ c.toNat=32:=λh=>hb (.inl h)
    have n10:¬ c.toNat=10:=λh=>hb (.inr h)
    rw[jx (λh=>n32 (e32.1 (Du h)))];simp only[jj,jl];rw[jx (λh=>n10 (e10.1 h)),hc];simp only[jj];by_cases h35:c.toNat=35
    ·have hsk:=ziF hs (f:=q6b) out _ i rfl (by omega);grind
    · rw[jx (λh=>h35 (e35.1 h))];rw[jx h35] at hpos herr |-
      rw[zxu hs hl];have hns:∀n,(if isD c=w then XX (c::r) else if isL c=w then xz (c::r) else xA (c::r)) ≠.skip n:=by
       intro n h;split at h
       ·unfold XX at h;grind
       · split at h
         ·unfold xz at h;grind
         ·unfold xA at h;grind
      generalize (if isD c=w then XX (c::r) else if isL c=w then xz (c::r) else xA (c::r))=x at hpos herr hns;cases x with
      |skip n=>
       grind
      |err e=>
       have:=herr e rfl;simp only[rNx,jj];grind
      |tok k n v=>
       simp only[wa] at hpos;simp only[rNx,jj,Di,jt,jp,gh,jo];have hz:(lit ((c::r).take n)).size=n:=by rw[wF,Dk];omega
       rw[hz,VN (by omega)]
theorem zr9 (hs:s.size<=16384):∀(n i:Nat) (acc:List q9) (nn:Bool),s.size - i<=n->i<=s.size->acc.length<=i->
    lpO zd8 (s,(i:Int),⟨acc,nn⟩)=d (match WW i ((bs s).drop i) with
     | .inl x =>.inl ((x.1:Int),x.2)
     | .inr ts =>.inr (s,⟨acc++ts.map toR,nn || !ts.isEmpty⟩)):=by
 intro n
 induction n with
 |zero=>
  intro i acc nn hn hi ha;have:i=s.size:=by omega
  subst this;rw[Zu];have hd:(bs s).drop s.size=[]:=U6 (by rw[ye];grind);rw[hd,zcc];simp[zd8,q7q]
 |succ n ih=>
  intro i acc nn hn hi ha;rcases Nat.lt_or_ge i s.size with hlt | hge
  · have hne:(bs s).drop i≠[]:=by
      intro e;have:=congrArg F e;rw[UQ,ye] at this;grind
    have hp:=WX hne;have hlen:((bs s).drop i).length=s.size - i:=by rw[UQ,ye]
    rw[Zu,zuj hs rfl hne,zdy _ hne];cases hx:nxt ((bs s).drop i) with
    |err e=>rfl
    |skip k=>
     rw[hx] at hp;simp only[wa] at hp;simp only[jj,G];rw[ih (i+k) acc nn (by omega) (by omega) (by omega)]
    |tok k m v=>
     rw[hx] at hp;simp only[wa] at hp;simp only[G];rw[yF (by grind) (by grind)];simp only[jj];rw[ih (i+m) _ _ (by omega) (by omega) (by grind)];grind
  grind
theorem zpm(s:U0):q6j s=d ((Z1 s).1,(Z1 s).2.1,⟨(Z1 s).2.2.xs.map toR,(Z1 s).2.2.nn⟩):=by
 unfold q6j qb0 Z1;simp only[jl];by_cases h:16384 < s.size
 ·grind
 ·rw[jx (by omega),jx h];have:=zr9 (s:=s) (by omega) s.size 0 [] D (by omega) (by omega) (by simp);rw[Dr] at this;rw[show((s,0,Sl.mk [] D):U0×Int×Sl q9)=(s,((0:Nat):Int),⟨[],D⟩) from rfl,this];cases hx:WW 0 (bs s) with
  |inl x=>rfl
  |inr ts=>
   have hl:=VP _ _ _ _ (UJ _) hx;rw[ye] at hl;simp only[jj,jm,Do,DA];rw[yF (by grind) (by grind)];simp
end Go.Px
