/- Part La. -/
import Derived.Test.YtnkjgenigoecjaaGreatDoorA9
set_option linter.unusedVariables false
set_option linter.unusedSimpArgs false
namespace Go.Px
open Bool renaming true->w,false->D,or_false->L,and_false->W
open Go.Lib renaming indexByte->H,parseUintM->U,parseIntB->V
open Int renaming ofNat_lt->E
open List renaming length->F,drop_drop->G,takeWhile_cons->K,take_drop->Q,isEmpty_cons->R,head?_cons->S,contains_cons->T
open _root_.Option renaming some->d,some->P
open UInt8 renaming toNat_inj->I,toNat_ofNat_of_lt'->N,ofNat->O
variable{X:U7 Bool}{b:Bool}{c:UInt8}{i n:Nat}{l:List UInt8}{s:U5}
abbrev bs(s:U5):List UInt8:=s.data.toList
theorem yf(s:U5):(bs s).length=s.size:=by cases s;simp[bs,ByteArray.size]
theorem zsw{t:U5}(h:bs s=bs t):s=t:=by
 cases s;cases t;congr 1;exact Array.toList_inj.1 h
theorem wx(l:List UInt8):bs (lit l)=l:=rfl
theorem Zt{s β:Type}(f:s->U7 (Step s β))(x:s):lpO f x=(f x).bind fun | .next x'=>lpO f x' | .done y=>d y:=zs7 f x
theorem XM(h:(bs s)[i]?=d c):Zg s (i:Int)=d (c.toNat:Int):=by
 unfold Zg;grind
theorem zam(h:i < l.length):∃c,l[i]?=d c/\l.drop i=c::l.drop (i+1):=
 ⟨l[i],UM h,Dt h⟩
theorem zpA(s:U5)(i j:Nat):bs (s.extract i j)=((bs s).take j).drop i:=by
 show(s.extract i j).data.toList=_;rw[ByteArray.data_extract];simp[Array.toList_extract,List.extract,Q];by_cases h:i<=j
 ·grind
 ·have h1:j - i=0:=by omega
  rw[h1];simp;omega
theorem znf{j:Nat}(h1:i<=j)(h2:j<=s.size):ZH s (i:Int) (j:Int)=d (s.extract i j):=by
 unfold ZH;grind
theorem zlT(h:n < 9223372036854775808):U8 (n:Int)=n:=zK (by omega) (by omega)
theorem VW{k:Nat}(h:n+k < 9223372036854775808):U8 ((n:Int)+(k:Int))=((n+k:Nat):Int):=by
 rw[zK (by omega) (by omega)];simp
theorem xU(h:n+1 < 9223372036854775808):U8 ((n:Int)+1)=((n+1:Nat):Int):=by
 rw[zK (by omega) (by omega)];simp
def Zo(p:UInt8->Bool)(l:List UInt8):Nat:=(l.takeWhile p).length
theorem zck(p:UInt8->Bool):Zo p []=0:=rfl
theorem yN(p:UInt8->Bool)(c:UInt8)(l:List UInt8):Zo p (c::l)=if p c then Zo p l+1 else 0:=by
 unfold Zo;rw[K];split<;>simp
theorem XZ(p:UInt8->Bool):∀l:List UInt8,Zo p l<=l.length
 |[]=>UN _
 |c::l=>by rw[yN];split<;>simp;exact XZ p l
def isL(b:UInt8):Bool:=(decide (97<=b.toNat) && decide (b.toNat<=122)) || decide (b.toNat=95)
def isD(b:UInt8):Bool:=decide (48<=b.toNat) && decide (b.toNat<=57)
def isW(b:UInt8):Bool:=isL b || isD b
def Wn(b:UInt8):Bool:=decide (b.toNat≠10)
theorem zcl(b:UInt8):qal (b.toNat:Int)=d (isD b):=by
 simp only[qal,qho,isD,jl];split
 ·rename_i h;have:48<=b.toNat:=by omega
  simp[this];omega
 grind
theorem zan(b:UInt8):q8n (b.toNat:Int)=d (isL b):=by
 simp only[q8n,qh9,isL,jl];have e1:(97<=(b.toNat:Int))↔97<=b.toNat:=by omega
 have e2:((b.toNat:Int)<=122)↔b.toNat<=122:=by omega
 have e3:((b.toNat:Int)=95)↔b.toNat=95:=by omega
 grind
theorem zsx(b:UInt8):qe0 (b.toNat:Int)=d (isW b):=by
 simp only[qe0,qha,zan,zcl,isW,jj];grind
theorem zuM(b:UInt8):qcj (b.toNat:Int)=d (Wn b):=by
 simp only[qcj,qg6,Wn];congr 1;grind
theorem zcm {f:Int->U7 Bool}{p:UInt8->Bool}(hf:∀c:UInt8,f (c.toNat:Int)=d (p c)) (hs:s.size < 4611686018427387904) :
    ∀(n i:Nat),s.size - i=n->i<=s.size->lpO (q6o f) (s,(i:Int))=d ((i+Zo p ((bs s).drop i):Nat):Int)
 |0,i,hn,hi=>by
  have:i=s.size:=by omega
  subst this;rw[Zt];simp[q6o,UA,yf,zck]
 |n+1,i,hn,hi=>by
  have hlt:i < s.size:=by omega
  obtain⟨c,hc,hd⟩:=zam (l:=bs s) (i:=i) (by rw[yf];exact hlt);rw[Zt];simp only[q6o,jl];rw[jv (E.2 hlt),XM hc];simp only[jj,hf];rw[hd,yN];cases hp:p c with
  |true=>
   simp only[jq,jj];rw[xU (by omega),zcm hf hs n (i+1) (by omega) (by omega)];grind
  |false=>simp
theorem zsy(hs:s.size < 4611686018427387904)(hi:i<=s.size):qdz (s,(i:Int))=d ((i+Zo isD ((bs s).drop i):Nat):Int):=by
 show(lpO (q6o qal) (s,(i:Int))).bind d=_;rw[zcm zcl hs _ i rfl hi];rfl
theorem zpB(hs:s.size < 4611686018427387904)(hi:i<=s.size):qcy (s,(i:Int))=d ((i+Zo isW ((bs s).drop i):Nat):Int):=by
 show(lpO (q6o qe0) (s,(i:Int))).bind d=_;rw[zcm zsx hs _ i rfl hi];rfl
theorem zsz(hs:s.size < 4611686018427387904)(hi:i<=s.size):qcb (s,(i:Int))=d ((i+Zo Wn ((bs s).drop i):Nat):Int):=by
 show(lpO (q6o qcj) (s,(i:Int))).bind d=_;rw[zcm zuM hs _ i rfl hi];rfl
def zcn(l:List UInt8):Bool:=decide (l=[116,121,112,101]) || (decide (l=[102,110]) || (decide (l=[111,119,110]) || (decide (l=[99,101,108,108]) || (decide (l=[99,111,117,110,116,101,100]) || (decide (l=[108,111,99,107]) || (decide (l=[103,117,97,114,100]) || (decide (l=[119,104,101,114,101]) || (decide (l=[105,110,116]) || (decide (l=[109,117,116]) || (decide (l=[102,114,101,101]) || (decide (l=[117,110,108,111,99,107]) || (decide (l=[105,102]) || (decide (l=[101,108,115,101]) || (decide (l=[119,104,105,108,101]) || (decide (l=[114,101,116,117,114,110]) || (decide (l=[97,98,111,114,116]) || (decide (l=[102,111,114,107]) || (decide (l=[110,101,119]) || (decide (l=[97,114,114,97,121]))))))))))))))))))))
theorem zlU{p:Prop}[Decidable p](h:X=d b):(if decide p=w then d (decide p) else X)=d (decide p || b):=by
 grind
theorem zlV(h:X=d b):(X.bind λy=>d y)=d b:=by subst h;rfl
theorem zxX(h:X=d b):(X.bind λy=>if y=w then d w else d D)=d b:=by grind
theorem znJ(s:U5)(l:List UInt8):decide (s=lit l)=decide (bs s=l):=by
 refine decide_eq_decide.2 ⟨λh=>by rw[h];rfl,λh=>zsw h⟩
theorem zzJ(s:U5):qev s=d (zcn (bs s)):=by
 simp only[qev,qhp,zcn,<- znJ];refine zxX ?_
 repeat (first | exact rfl | apply zlU | apply zlV)
theorem znK(l:List UInt8):qev (lit l)=d (zcn l):=zzJ (lit l)
def WY(a:Nat):List UInt8->Nat
 |[]=>a
 |c::r=>WY (a * 10+(c.toNat - 48)) r
def YX(l:List UInt8):Nat:=WY 0 l
theorem zh1:∀(l:List UInt8) (a:Nat),a<=WY a l
 |[],a=>UN _
 |c::r,a=>UP (by omega) (zh1 r _)
def sgn(c:UInt8):Bool:=[123,125,40,41,91,93,44,58,59,61,43,45,38,60].contains c
def two(l:List UInt8):Bool:=decide (l.take 2=[45,62]) || (decide (l.take 2=[60,61]) || decide (l.take 2=[61,61]))
def YL(l:List UInt8):Nat:=if two l then 2 else match l with
 |[]=>0
 |c::_=>if sgn c then 1 else 0
inductive Nx where
 |skip (n:Nat)
 |tok (k:Int) (n:Nat) (v:Int)
 |err (e:Int)
def zco:U7 UInt8->Bool
 |some c=>isL c
 |none=>D
def vz(l:List UInt8):Bool:=decide (1099511627776 < YX (l.take (Zo isD l))) || ((decide (1 < Zo isD l) && decide (l.head?=d 48)) || zco l[Zo isD l]?)
def X0(l:List UInt8):Nx:=if vz l then .err 12 else .tok 3 (Zo isD l) (YX (l.take (Zo isD l)))
def xD(l:List UInt8):Nx:=if 16 < Zo isW l then .err 13 else .tok (if zcn (l.take (Zo isW l)) then 2 else 1) (Zo isW l) 0
def xE(l:List UInt8):Nx:=if YL l=0 then .err 11 else .tok 4 (YL l) 0
def nxt(l:List UInt8):Nx:=match l with
 |[] =>.err 11
 |c::r=>if c.toNat=32\/c.toNat=10 then .skip 1 else if c.toNat=35 then .skip (Zo Wn (c::r)) else if isD c then X0 (c::r) else if isL c then xD (c::r) else xE (c::r)
def Wo:Nat->Nat->List UInt8->(Nat×Int)⊕List qr
 |0,_,_ =>.inr []
 |f+1,at_,l=>if l.isEmpty then .inr [] else match nxt l with
  | .skip n=>Wo f (at_+n) (l.drop n)
  | .err e =>.inl (at_,e)
  | .tok k n v=>match Wo f (at_+n) (l.drop n) with
   | .inl x =>.inl x
   | .inr ts =>.inr (⟨k,lit (l.take n),v,at_⟩::ts)
def WZ(at_:Nat)(l:List UInt8):(Nat×Int)⊕List qr:=Wo l.length at_ l
theorem zgI(l:List UInt8):YL l<=l.length:=by
 unfold YL;split
 ·rename_i h;unfold two at h
  match l with
  |[]=>simp at h
  |[a]=>simp at h
  |a::b::r=>simp
 grind
def wj(m:Nat):Nx->Prop
 | .skip n=>1<=n/\n<=m
 | .tok _ n _=>1<=n/\n<=m
 | .err _=>True
theorem W0(h:l≠[]):wj l.length (nxt l):=by
 match l,h with
 |c::r,_=>
  show wj (c::r).length (if c.toNat=32\/c.toNat=10 then .skip 1 else if c.toNat=35 then .skip (Zo Wn (c::r)) else if isD c then X0 (c::r) else if isL c then xD (c::r) else xE (c::r));split
  ·exact⟨by omega,by simp⟩
  ·rename_i h1;split
   ·rename_i h2;refine⟨?_,XZ _ _⟩;rw[yN];have:Wn c=true:=by unfold Wn;simp;omega
    simp[this]
   ·split
    ·rename_i hd;unfold X0;cases vz (c::r) with
     |true=>trivial
     |false=>
      refine⟨?_,XZ _ _⟩;rw[yN];simp[hd]
    ·split
     ·rename_i hl;unfold xD;split
      ·trivial
      ·refine⟨?_,XZ _ _⟩;rw[yN];simp[isW,hl]
     ·unfold xE;split
      ·trivial
      ·exact⟨by omega,zgI _⟩
theorem zao:∀(f:Nat) (l:List UInt8) (at_:Nat) (g:Nat),l.length<=f->l.length<=g->Wo f at_ l=Wo g at_ l
 |0,l,at_,g,h,hg=>by
  have:l=[]:=UT (by omega);subst this;cases g<;>rfl
 |f+1,l,at_,g,h,hg=>by
  match l with
  |[]=>cases g<;>rfl
  |c::r=>
   match g,hg with
   |g+1,hg=>
    have hp:=W0 (l:=c::r) (by simp);unfold Wo;simp only[R,jk,jp];cases hn:nxt (c::r) with
    |err e=>rfl
    |skip n=>
     rw[hn] at hp;simp only[wj] at hp |-
     exact zao f _ _ g (by grind) (by grind)
    |tok k n v=>
     rw[hn] at hp;simp only[wj] at hp |-
     rw[zao f ((c::r).drop n) _ g (by grind) (by grind)]
theorem zcp(at_:Nat):WZ at_ [] = .inr []:=rfl
theorem zdJ (at_:Nat) (h:l≠[]):WZ at_ l=match nxt l with
    | .skip n=>WZ (at_+n) (l.drop n)
    | .err e =>.inl (at_,e)
    | .tok k n v=>match WZ (at_+n) (l.drop n) with
     | .inl x =>.inl x
     | .inr ts =>.inr (⟨k,lit (l.take n),v,at_⟩::ts):=by
 match l,h with
 |c::r,_=>
  have hp:=W0 (l:=c::r) (by simp);unfold WZ;show Wo (r.length+1) at_ (c::r)=_;rw[Wo];simp only[R,jk,jp];cases hn:nxt (c::r) with
  |err e=>rfl
  |skip n=>
   rw[hn] at hp;simp only[wj] at hp |-
   exact zao _ _ _ _ (by grind) (UN _)
  |tok k n v=>
   rw[hn] at hp;simp only[wj] at hp |-
   rw[zao r.length ((c::r).drop n) _ ((c::r).drop n).length (by grind) (UN _)]
theorem ziO(p:UInt8->Bool):∀l:List UInt8,l.take (Zo p l)=l.takeWhile p
 |[]=>rfl
 |c::l=>by
  rw[yN,K];cases p c with
  |true=>simp[ziO p l]
  |false=>simp
theorem zxY(p:UInt8->Bool)(l:List UInt8):∀c∈l.take (Zo p l),p c=true:=by
 rw[ziO]
 induction l with
 |nil=>simp
 |cons a l ih=>
  rw[K];grind
theorem W1(h:(bs s).drop i=l)(hl:l≠[]):i < s.size/\l.length=s.size - i:=by
 subst h;rw[UU,yf];refine⟨?_,rfl⟩;rcases Nat.lt_or_ge i s.size with h | h
 ·exact h
 ·exact absurd (UA (by rw[yf];exact h)) hl
theorem wy(h:(bs s).drop i=l)(hl:l≠[])(hn:n<=l.length):ZH s (i:Int) ((i+n:Nat):Int)=d (lit (l.take n)):=by
 obtain⟨h1,h2⟩:=W1 h hl;rw[znf (by omega) (by omega)];congr 1;apply zsw;rw[zpA,wx,<- h,Q]
theorem Vo(h:(bs s).drop i=l)(hc:l[n]?=d c):Zg s ((i+n:Nat):Int)=d (c.toNat:Int):=by
 apply XM;grind
theorem wK(l:List UInt8):(lit l).size=l.length:=by rw[<- yf,wx]
theorem zdK{M:Nat}(hM:M=18446744073709551615):∀(l:List UInt8) (a:Nat),(∀c∈l,isD c=w)->a<=M->U M a l=if WY a l<=M then .ok (WY a l) else .range
 |[],a,_,ha=>by rw[jv (show WY a []<=M from ha)];rfl
 |c::r,a,h,ha=>by
  have hc:=h c (by simp);simp only[isD,gf,jl] at hc;have hge:=zh1 r (a * 10+(c.toNat - 48));have e:WY a (c::r)=WY (a * 10+(c.toNat - 48)) r:=rfl;rw[e];unfold U;rw[jv hc];split
  ·grind
  ·split
   ·grind
   ·exact zdK hM r _ (λx hx=>h x (by simp[hx])) (by omega)
theorem zsA(hl:l≠[])(h:∀c∈l,isD c=w):V 64 l=if YX l < 9223372036854775808 then .ok (YX l:Int) else .range:=by
 match l,hl with
 |c::r,_=>
  have hc:=h c (by simp);simp only[isD,gf,jl] at hc;have e43:¬ (c.toNat=43\/c.toNat=45):=by omega
  have e45:¬ c.toNat=45:=by omega
  unfold V Lib.parseUintB;simp only;rw[jx e43,jx (by simp)];generalize hM:(2 ^ 64 - 1:Nat)=M;generalize hB:(2 ^ (64 - 1):Nat)=B;have hM:M=18446744073709551615:=by rw[<- hM]
  have hB:B=9223372036854775808:=by rw[<- hB]
  rw[zdK hM _ _ h (by omega)];simp only[e45,false_and,ju,UJ,jp]
  show(match(if YX (c::r)<=M then Lib.NumEnd.ok (YX (c::r)) else .range) with
   | .syntax=>Lib.NumEnd.syntax
   | .range =>.range
   | .ok u=>if B<=u then .range else .ok (u:Int))=_
  by_cases h1:YX (c::r)<=M
  ·rw[jv h1];simp only;by_cases h2:YX (c::r) < 9223372036854775808
   all_goals grind
  grind
abbrev tk0:qr:=⟨0,lit [],0,0⟩
theorem zsB {r:List UInt8}(hs:s.size<=16384) (hl:(bs s).drop i=c::r) (hd:isD c=w) :
    qe1 (s,(i:Int),((i+Zo isD (c::r):Nat):Int))=d (if vz (c::r) then(tk0,12) else(⟨3,lit ((c::r).take (Zo isD (c::r))),(YX ((c::r).take (Zo isD (c::r))):Nat),i⟩,0)):=by
 obtain⟨h1,h2⟩:=W1 hl (by simp);have hn:=XZ isD (c::r);have hn1:1<=Zo isD (c::r):=by rw[yN];simp[hd]
 generalize hN:Zo isD (c::r)=n at *
 have hall:=zxY isD (c::r);rw[hN] at hall;have hne:(c::r).take n≠[]:=by
  match n,hn1 with
  |n+1,_=>simp
 have hlen:((c::r).take n).length=n:=by grind
 have hhead:((c::r).take n)[0]?=d c:=by
  grind
 have hlast:∀(X Y:U7 (qr×Int)),(if decide (((i+n:Nat):Int) < (s.size:Int))=w then(Zg s ((i+n:Nat):Int)).bind λy=>(q8n y).bind λz=>if z=w then X else Y else Y)=if zco (c::r)[n]?=w then X else Y:=by
  intro X Y;by_cases hb:i+n < s.size
  · have:n < (c::r).length:=by omega
    have hg:=UM this;generalize (c::r)[n]=b at hg;rw[Vo hl hg,hg];simp only[jl,jj,zan];rw[jv (E.2 hb)];rfl
  ·have:(c::r)[n]?=none:=US (by omega);rw[this];simp only[jl];rw[jx (λh=>hb (E.1 h))];rfl
 unfold qe1 qhb;rw[show((s,(i:Int),((i+n:Nat):Int)):U5×Int×Int).1=s from rfl];simp only;rw[wy hl (by simp) (by omega)];simp only[jj,qe2,ww,UJ];rw[jv (by rw[wK,hlen];omega),show(lit ((c::r).take n)).data.toList=(c::r).take n from rfl,zsA hne hall];by_cases hv:YX ((c::r).take n) < 9223372036854775808
 · rw[jv hv];simp only[jj,jo];unfold vz;rw[hN];by_cases h40:1099511627776 < YX ((c::r).take n)
   ·grind
   · simp only[jl];rw[jx (by omega),wK,hlen];have hl2:=hlast (d (qr.mk 0 (lit []) 0 0,12)) (d (qr.mk 3 (lit ((c::r).take n)) (YX ((c::r).take n):Nat) i,0));simp only[jl] at hl2;have e0:Zg (lit ((c::r).take n)) 0=d (c.toNat:Int):=XM (i:=0) hhead;by_cases h1n:1 < n
     · rw[jv (by omega),e0];simp only[jj];by_cases h48:c.toNat=48
       ·rw[jv (by omega)];have:c=48:=I.1 (by grind);grind
       · rw[jx (by omega),hl2];have:¬ c=48:=λh=>h48 (by rw[h];rfl)
         simp only[h40,h1n,this,js,jr,S,P.injEq,W,DF];grind
     ·rw[jx (by omega),hl2];grind
 ·rw[jx hv];simp only[jj,jm];unfold vz;grind
theorem zxZ (hs:s.size<=16384) (hl:(bs s).drop i=l) (hne:l≠[]) (hn:n<=l.length) :
    qg7 (s,(i:Int),((i+n:Nat):Int))=d (if 16 < n then(tk0,13) else(⟨if zcn (l.take n) then 2 else 1,lit (l.take n),0,i⟩,0)):=by
 unfold qg7 qi1;simp only;rw[wy hl hne hn];have hlen:(l.take n).length=n:=by grind
 simp only[jj,wK,hlen,jl,znK];by_cases h:16 < n
 ·grind
 ·rw[jx (by omega),jx h];grind
theorem zdL(l:List UInt8)(a b:UInt8):q7x (lit l,lit [a,b])=d (decide (l.take 2=[a,b])):=by
 show((q4k (lit l,lit [a,b])).bind λy=>d y)=_;unfold q4k;simp only[wK,jz,List.length_nil,jl];by_cases h:2<=l.length
 ·rw[jv (by omega)];have:ZH (lit l) 0 ((2:Nat):Int)=d (lit (l.take 2)):=by
   have:=wy (s:=lit l) (i:=0) (n:=2) (l:=l) rfl (by grind) h;grind
  rw[show((0+1+1:Nat):Int)=((2:Nat):Int) from rfl,this];simp only[jj];congr 1;refine decide_eq_decide.2 ⟨λh=>?_,λh=>by rw[h]⟩;have:=congrArg bs h;simpa[wx] using this
 ·rw[jx (by omega)];have:l.take 2≠[a,b]:=by
   intro e;have:=congrArg F e;grind
  simp[this]
theorem VX:∀(l:List UInt8) (c:UInt8),(0<=H l c)↔l.contains c=w
 |[],c=>by simp[H]
 |b::l,c=>by
  have ih:=VX l c;have hg:=Lib.indexByte_ge l c;unfold H;by_cases h:b=c
  ·subst h;simp
  ·have h':(b == c)=false:=by simpa using h
   have h2:(c == b)=false:=by grind
   simp only[h',jk,jp,T,h2,DF];rw[<- ih];grind
theorem zx0(hne:l≠[]):qhk (lit l)=d (lit (l.take (YL l))):=by
 show(lpO (qbw q7x q7y) (lit l,(lit [45,62],lit [60,61],lit [61,61]),0)).bind _=_;have w1:U8 (0+1)=1:=by decide
 have w2:U8 (1+1)=2:=by decide
 have w3:U8 (2+1)=3:=by decide
 have g0:∀A B C:U5,vF [A,B,C] 0=d A:=λ_ _ _=>rfl
 have g1:∀A B C:U5,vF [A,B,C] 1=d B:=λ_ _ _=>rfl
 have g2:∀A B C:U5,vF [A,B,C] 2=d C:=λ_ _ _=>rfl
 have two_take:two l=w->l.take 2=[45,62]\/l.take 2=[60,61]\/l.take 2=[61,61]:=by
  intro h;simpa[two] using h
 have loop:lpO (qbw q7x q7y) (lit l,(lit [45,62],lit [60,61],lit [61,61]),0)=d (if two l then .inl (lit (l.take 2)) else .inr (lit l)):=by
  rw[Zt];simp only[qbw,zdL,jj,g0,w1];by_cases h1:l.take 2=[45,62]
  ·simp[h1,two]
  ·simp only[h1,jr,jk,jp,jj];rw[show decide ((0:Int) < 3)=w from rfl];simp only[jq,jj];rw[Zt];simp only[qbw,zdL,jj,g1,w2];rw[show decide ((1:Int) < 3)=w from rfl];by_cases h2:l.take 2=[60,61]
   ·simp[h2,two]
   ·simp only[h2,jr,jk,jp,jj,jq];rw[Zt];simp only[qbw,zdL,jj,g2,w3];rw[show decide ((2:Int) < 3)=w from rfl];by_cases h3:l.take 2=[61,61]
    ·simp[h3,two]
    ·simp only[h3,jr,jk,jp,jj,jq];rw[Zt];simp only[qbw];grind
 rw[loop];unfold YL;by_cases ht:two l=w
 ·grind
 ·rw[jx ht,jx ht]
  match l,hne with
  |c::r,_=>
   have e0:Zg (lit (c::r)) 0=d (c.toNat:Int):=XM (i:=0) rfl;have e1:ZH (lit (c::r)) 0 1=d (lit [c]):=by
    have:=wy (s:=lit (c::r)) (i:=0) (n:=1) (l:=c::r) rfl (by simp) (by simp);grind
   simp only[jj,jm];rw[e0,e1];simp only[jj,q7y,Wg,Int.toNat_natCast];have hb:(0<=H (lit [123,125,40,41,91,93,44,58,59,61,43,45,38,60]).data.toList c.toNat.toUInt8)↔sgn c=true:=by
    have:c.toNat.toUInt8=c:=by simp[Nat.toUInt8]
    rw[this];exact VX _ c
   by_cases hs:sgn c=w
   ·grind
   grind
noncomputable abbrev zcq:=qfa qcb qal qdz qe1 q8n qcy qg7 qhk
theorem zpC (hs:s.size<=16384) (hl:(bs s).drop i=l) (hne:l≠[]) (out:Sl qr) :
    zcq (s,(i:Int),out)=match nxt l with
     | .skip n=>d (.next (s,((i+n:Nat):Int),out))
     | .err e=>d (.done (.inl ((i:Int),e)))
     | .tok k n v=>(zo 40 out [⟨k,lit (l.take n),v,i⟩]).bind λo=>d (.next (s,((i+n:Nat):Int),o)):=by
 obtain⟨h1,h2⟩:=W1 hl hne
 match l,hne with
 |c::r,_=>
  have hc:Zg s (i:Int)=d (c.toNat:Int):=Vo (n:=0) hl rfl;have hpos:=W0 (l:=c::r) (by simp);simp only[zcq,qfa];rw[jv (gm (E.2 h1)),hc];simp only[jj];have e32:((c.toNat:Int)=32)↔c.toNat=32:=by omega
  have e10:((c.toNat:Int)=10)↔c.toNat=10:=by omega
  have e35:((c.toNat:Int)=35)↔c.toNat=35:=by omega
  have rest:∀(k:Int) (n:Nat) (v:Int),n<=(c::r).length->(zo 40 out [⟨k,lit ((c::r).take n),v,i⟩]).bind (λo=>d (Step.next (β:=Int×Int⊕U5×Sl qr) (s,U8 ((i:Int)+((lit ((c::r).take n)).size:Int)),o)))=(zo 40 out [⟨k,lit ((c::r).take n),v,i⟩]).bind λo=>d (.next (s,((i+n:Nat):Int),o)):=by
   intro k n v hn;have hz:(lit ((c::r).take n)).size=n:=by rw[wK,Do];omega
   rw[hz,VW (by omega)]
  unfold nxt at hpos |-
  simp only at hpos |-
  by_cases hb:c.toNat=32\/c.toNat=10
  · rw[jv hb];simp only;rcases hb with hb | hb
    ·rw[jv (gm (e32.2 hb))];simp[xU (n:=i) (by omega)]
    · have:¬ c.toNat=32:=by omega
      rw[jx (λh=>this (e32.1 (Dy h)))];simp only[jj,jl];rw[jv (e10.2 hb)];simp[xU (n:=i) (by omega)]
  · rw[jx hb] at hpos |-
    have n32:¬ c.toNat=32:=λh=>hb (.inl h)
    have n10:¬ c.toNat=10:=λh=>hb (.inr h)
    rw[jx (λh=>n32 (e32.1 (Dy h)))];simp only[jj,jl];rw[jx (λh=>n10 (e10.1 h))];by_cases h35:c.toNat=35
    ·rw[jv (e35.2 h35),jv h35,zsz (by omega) (by omega),hl];simp
    · rw[jx (λh=>h35 (e35.1 h))];rw[jx h35] at hpos |-
      simp only[zcl,zan,jj];by_cases hd:isD c=w
      · rw[jv hd] at hpos;rw[jv hd,jv hd,zsy (by omega) (by omega),hl];simp only[jj];rw[zsB hs hl hd];unfold X0 at hpos |-
        by_cases hbad:vz (c::r)=w
        ·grind
        ·rw[jx hbad] at hpos;rw[jx hbad,jx hbad];simp only[wj] at hpos;simp only[jj,jm,Dm,jt,jp,gh,jo];grind
      · rw[jx hd] at hpos;rw[jx hd,jx hd];by_cases hL:isL c=w
        · rw[jv hL] at hpos;rw[jv hL,jv hL,zpB (by omega) (by omega),hl];simp only[jj];rw[zxZ hs hl (by simp) (XZ _ _)];unfold xD at hpos |-
          by_cases h16:16 < Zo isW (c::r)
          ·grind
          ·rw[jx h16] at hpos;rw[jx h16,jx h16];simp only[wj] at hpos;simp only[jj,jm,Dm,jt,jp,gh,jo];grind
        · rw [jx hL] at hpos;rw[jx hL,jx hL];have hcut:ZH s (i:Int) (s.size:Int)=d (lit (c::r)):=by
            have:=wy (n:=(c::r).length) hl (by simp) (UN _);grind
          rw[hcut];simp only[jj];rw[zx0 (by simp)];simp only[jj,jl];unfold xE at hpos |-
          by_cases h0:YL (c::r)=0
          ·grind
          · rw [jx h0] at hpos;have hx:¬ lit ((c::r).take (YL (c::r)))=lit []:=by
              intro e;have:=congrArg (λx=>(bs x).length) e;simp only[wx] at this;grind
            rw[jx h0,jx hx];simp only[wj] at hpos;simp only[jj,jm,Dm,jt,jp,gh,jo];grind
theorem zuN (hs:s.size<=16384):∀(n i:Nat) (acc:List qr) (nn:Bool),s.size - i<=n->i<=s.size->acc.length<=i->
    lpO zcq (s,(i:Int),⟨acc,nn⟩)=d (match WZ i ((bs s).drop i) with
     | .inl x =>.inl ((x.1:Int),x.2)
     | .inr ts =>.inr (s,⟨acc++ts,nn || !ts.isEmpty⟩)):=by
 intro n
 induction n with
 |zero=>
  intro i acc nn hn hi ha;have:i=s.size:=by omega
  subst this;rw[Zt];have hd:(bs s).drop s.size=[]:=UA (by rw[yf];grind);rw[hd,zcp];simp[zcq,qfa]
 |succ n ih=>
  intro i acc nn hn hi ha;rcases Nat.lt_or_ge i s.size with hlt | hge
  · have hne:(bs s).drop i≠[]:=by
      intro e;have:=congrArg F e;rw[UU,yf] at this;grind
    have hp:=W0 hne;have hlen:((bs s).drop i).length=s.size - i:=by rw[UU,yf]
    rw[Zt,zpC hs rfl hne,zdJ _ hne];cases hx:nxt ((bs s).drop i) with
    |err e=>rfl
    |skip k=>
     rw[hx] at hp;simp only[wj] at hp;simp only[jj,G];rw[ih (i+k) acc nn (by omega) (by omega) (by omega)]
    |tok k m v=>
     rw[hx] at hp;simp only[wj] at hp;simp only[G];rw[yQ (by grind) (by grind)];simp only[jj];rw[ih (i+m) _ _ (by omega) (by omega) (by grind)];grind
  grind
def Z1(s:U5):Int×Int×Sl qr:=if 16384 < s.size then(0,10,⟨[],D⟩) else match WZ 0 (bs s) with
 | .inl x=>((x.1:Int),x.2,⟨[],D⟩)
 | .inr ts=>(0,0,⟨ts++[⟨0,lit [],0,s.size⟩],w⟩)
theorem VY:∀(m:Nat) (l:List UInt8) (i:Nat) (ts:List qr),l.length<=m->WZ i l = .inr ts->ts.length<=l.length
 |0,l,i,ts,hm,h=>by
  have:l=[]:=UT (by omega);subst this;rw[zcp] at h;cases h;simp
 |m+1,l,i,ts,hm,h=>by
  by_cases hne:l=[]
  ·subst hne;rw[zcp] at h;cases h;simp
  ·have hp:=W0 hne;rw[zdJ _ hne] at h;cases hx:nxt l with
   |err e=>grind
   |skip k=>
    rw[hx] at h hp;simp only[wj] at hp;have:=VY m _ _ _ (by grind) h;grind
   |tok k n v=>
    rw[hx] at h hp;simp only[wj] at hp;simp only at h;cases hr:WZ (i+n) (l.drop n) with
    |inl x=>grind
    |inr us=>
     rw[hr] at h;cases h;have:=VY m _ _ _ (by grind) hr;grind
theorem zsC(s:U5):qck s=d (Z1 s):=by
 unfold qck qhc Z1;simp only[jl];by_cases h:16384 < s.size
 ·grind
 ·rw[jx (by omega),jx h];have:=zuN (s:=s) (by omega) s.size 0 [] D (by omega) (by omega) (by simp);rw[Dv] at this;rw[show((s,0,Sl.mk [] D):U5×Int×Sl qr)=(s,((0:Nat):Int),⟨[],D⟩) from rfl,this];cases hx:WZ 0 (bs s) with
  |inl x=>rfl
  |inr ts=>
   have hl:=VY _ _ _ _ (UN _) hx;rw[yf] at hl;simp only[jj,jm,Ds,DF];rw[yQ (by grind) (by grind)];simp
theorem zcr(b:UInt8):q2s (b.toNat:Int)=d (isL b):=zan b
theorem zdM(b:UInt8):q4d (b.toNat:Int)=d (isD b):=zcl b
theorem zuO(l:List UInt8):q3q (lit l)=d (zcn l):=znK l
theorem zx1(c:UInt8)(k:Nat)(hk:k < 256):decide ((c.toNat:Int)=(k:Int))=decide (c=O k):=by
 refine decide_eq_decide.2 ⟨λh=>I.1 ?_,λh=>?_⟩
 ·rw[N (by grind)];omega
 ·rw[h,N (by grind)]
theorem zzK(c:UInt8):sgn c=(decide ((c.toNat:Int)=123) || (decide ((c.toNat:Int)=125) || (decide ((c.toNat:Int)=40) || (decide ((c.toNat:Int)=41) || (decide ((c.toNat:Int)=91) || (decide ((c.toNat:Int)=93) || (decide ((c.toNat:Int)=44) || (decide ((c.toNat:Int)=58) || (decide ((c.toNat:Int)=59) || (decide ((c.toNat:Int)=61) || (decide ((c.toNat:Int)=43) || (decide ((c.toNat:Int)=45) || (decide ((c.toNat:Int)=38) || decide ((c.toNat:Int)=60)))))))))))))):=by
 have h:∀k:Nat,k < 256->decide ((c.toNat:Int)=(k:Int))=(c == O k):=λk hk=>by rw[zx1 c k hk];rfl
 have:=h 123 (by omega);have h2:=h 125 (by omega);have h3:=h 40 (by omega);have h4:=h 41 (by omega);have h5:=h 91 (by omega);have h6:=h 93 (by omega);have h7:=h 44 (by omega);have h8:=h 58 (by omega);have h9:=h 59 (by omega);have h10:=h 61 (by omega);have h11:=h 43 (by omega);have h12:=h 45 (by omega);have h13:=h 38 (by omega);have h14:=h 60 (by omega);simp only[Int.cast_ofNat_Int] at *
 simp only[sgn,T,List.contains_nil,L];grind
theorem zsD(h:l.length < 2):two l=false:=by
 have:∀a b:UInt8,¬ l.take 2=[a,b]:=by
  intro a b e;have:=congrArg F e;grind
 simp[two,this]
theorem zuP(hs:s.size<=16384)(hl:(bs s).drop i=l)(hne:l≠[]):q43 (s,(i:Int))=d (YL l:Int):=by
 obtain⟨h1,h2⟩:=W1 hl hne;unfold q43 qcl;simp only;rw[xU (by omega)];have e2:U8 ((i:Int)+2)=((i+2:Nat):Int):=VW (k:=2) (by omega);rw[e2]
 have first:((if decide (((i+1:Nat):Int) < (s.size:Int))=w then
       (ZH s (i:Int) ((i+2:Nat):Int)).bind λy0=>d (s,(i:Int),y0) else d (s,(i:Int),lit [])).bind λ(y1:U5×Int×U5)=>(if decide (y1.2.2=lit [45,62])=w then d (y1.1,y1.2.1,w) else if decide (y1.2.2=lit [60,61])=w then d (y1.1,y1.2.1,w) else d (y1.1,y1.2.1,decide (y1.2.2=lit [61,61]))))=d (s,(i:Int),two l):=by
  by_cases h:i+1 < s.size
  · rw[jv (gm (E.2 h)),wy hl hne (by omega)];simp only[jj,znJ,wx,two];by_cases a:l.take 2=[45,62]
    ·simp[a]
    · by_cases b:l.take 2=[60,61]
      ·simp[b]
      ·simp only[a,b,jr,jk,jp,jj,DF];rfl
  · rw[jx (λx=>h (E.1 (Dy x)))];rw[zsD (by omega)];have:∀a b:UInt8,lit []≠lit [a,b]:=λa b e=>by have:=congrArg bs e;simp[wx] at this
    simp[this]
 rw[<- gh,first];simp only[jj];unfold YL;by_cases ht:two l=w
 ·grind
 · rw[jx ht,jx ht]
   match l,hne with
   |c::r,_=>
    have hc:Zg s (i:Int)=d (c.toNat:Int):=Vo (n:=0) hl rfl;rw[hc];simp only[jj];have key:∀{X:U7 Bool} {b:Bool},X=d b->(X.bind λy=>if y=w then d (1:Int) else d 0)=d ((if b then 1 else 0:Nat):Int):=by
     grind
    rw[zzK];refine key ?_
    repeat (first | exact rfl | apply zlU | apply zlV)
theorem zBn(h:n<=255):IntKind.u8.wrap (n:Int)=n:=by
 simp only[U8,IntKind.wrap,IntKind.bits,IntKind.signed];simp;omega
def Wp(n:Nat)(g:Bool):List UInt8->Nat×Bool
 |[]=>(n,g)
 |c::r=>let n':=if n<=1099511627776 then n * 10+(c.toNat - 48) else n
  Wp n' (if 1099511627776 < n' then w else g) r
theorem zgJ:∀(l:List UInt8) (n:Nat),(Wp n w l).2=w
 |[],n=>rfl
 |c::r,n=>by
  unfold Wp;simp only[ite_self];exact zgJ r _
theorem znL:∀(l:List UInt8) (n:Nat),n<=1099511627776->if 1099511627776 < WY n l then(Wp n D l).2=w else Wp n D l=(WY n l,D)
 |[],n,h=>by
  rw[jx (by show¬ 1099511627776 < n;omega)];rfl
 |c::r,n,h=>by
  have e:WY n (c::r)=WY (n * 10+(c.toNat - 48)) r:=rfl;rw[e];unfold Wp;simp only[jv h];by_cases h2:1099511627776 < n * 10+(c.toNat - 48)
  ·have:=zh1 r (n * 10+(c.toNat - 48));rw[jv (by omega),jv h2];exact zgJ r _
  ·rw[jx h2];exact znL r _ (by omega)
abbrev RT:=q9×q9
noncomputable abbrev zh2:=q78 q2s q4d q3q q43
noncomputable abbrev zgK:=q79 q2s q4d q3q q43
theorem ziP(hs:s.size<=16384)(a:Int)(t:RT):∀(n i:Nat),s.size - i=n->i<=s.size->lpO zh2 (s,a,(i:Int),t)=d (s,a,((i+Zo isW ((bs s).drop i):Nat):Int),t)
 |0,i,hn,hi=>by
  have:i=s.size:=by omega
  subst this;rw[Zt];simp[zh2,q78,UA,yf,zck]
 |n+1,i,hn,hi=>by
  have hlt:i < s.size:=by omega
  obtain⟨c,hc,hd⟩:=zam (l:=bs s) (i:=i) (by rw[yf];exact hlt);rw[Zt];simp only[zh2,q78,jl];rw[jv (E.2 hlt),XM hc];simp only[jj,zcr,zdM];rw[hd,yN];have ih:=ziP hs a t n (i+1) (by omega) (by omega);have hw:=xU (n:=i) (by omega);cases hL:isL c with
  |true=>
   simp only[isW,hL,Bool.true_or,Dr,jk,jp,jq,jj,hw];grind
  |false=>
   cases hD:isD c with
   |true=>
    simp only[isW,hL,hD,Bool.or_true,Dr,D8,jk,jp,jq,jj,hw];grind
   |false=>simp[isW,hL,hD]
theorem zlW (hs:s.size<=16384) (a:Int) (t:RT):∀(n i m:Nat) (g:Bool),m<=10995116277769->s.size - i=n->i<=s.size->
    lpO zgK (s,a,(i:Int),(m:Int),g,t)=d (s,a,((i+Zo isD ((bs s).drop i):Nat):Int),((Wp m g (((bs s).drop i).take (Zo isD ((bs s).drop i)))).1:Int),(Wp m g (((bs s).drop i).take (Zo isD ((bs s).drop i)))).2,t)
 |0,i,m,g,hm,hn,hi=>by
  have:i=s.size:=by omega
  subst this;rw[Zt];simp[zgK,q79,UA,yf,zck,Wp]
 |n+1,i,m,g,hm,hn,hi=>by
  have hlt:i < s.size:=by omega
  obtain⟨c,hc,hd⟩:=zam (l:=bs s) (i:=i) (by rw[yf];exact hlt);rw[Zt];simp only[zgK,q79,jl];rw[jv (E.2 hlt),XM hc];simp only[jj,zdM];rw[hd,yN];cases hD:isD c with
  |false=>simp[Wp]
  |true=>
   have hD2:=hD;simp only[isD,gf,jl] at hD2;simp only[Dr,jk,jp,jq];have e1:U8 (IntKind.u8.wrap ((c.toNat:Int) - 48))=((c.toNat - 48:Nat):Int):=by
    have:((c.toNat:Int) - 48)=((c.toNat - 48:Nat):Int):=by omega
    rw[this,zBn (by omega),zlT (by omega)]
   have e2:U8 (U8 ((m:Int) * 10)+((c.toNat - 48:Nat):Int))=((m * 10+(c.toNat - 48):Nat):Int):=by
    have:((m:Int) * 10)=((m * 10:Nat):Int):=by omega
    rw[this,zlT (by omega),VW (by omega)]
   rw[e1,e2];have hw:=xU (n:=i) (by omega);have hn':(if m<=1099511627776 then m * 10+(c.toNat - 48) else m)<=10995116277769:=by grind
   have step:∀(m':Nat),m'<=10995116277769->lpO zgK (s,a,((i+1:Nat):Int),(m':Int),(if 1099511627776 < m' then w else g),t)=d (s,a,((i+(Zo isD ((bs s).drop (i+1))+1):Nat):Int),((Wp m' (if 1099511627776 < m' then w else g) (((bs s).drop (i+1)).take (Zo isD ((bs s).drop (i+1))))).1:Int),(Wp m' (if 1099511627776 < m' then w else g) (((bs s).drop (i+1)).take (Zo isD ((bs s).drop (i+1))))).2,t):=by
    intro m' hm';refine(zlW hs a t n (i+1) m' _ hm' (by omega) (by omega)).trans ?_;congr 4;omega
   simp only[List.take_succ_cons,Wp];by_cases h40:m<=1099511627776
   · rw[jv (show(m:Int)<=1099511627776 by omega)];simp only[jv h40,jj];rw[<- step _ (by omega)];by_cases hg:1099511627776 < m * 10+(c.toNat - 48)
     ·rw[jv (show(1099511627776:Int) < ((m * 10+(c.toNat - 48):Nat):Int) by omega),jv hg];grind
     ·rw[jx (show¬ (1099511627776:Int) < ((m * 10+(c.toNat - 48):Nat):Int) by omega),jx hg];grind
   · rw[jx (show¬ (m:Int)<=1099511627776 by omega)];simp only[jx h40,jj];rw[<- step _ hm];have hg:1099511627776 < m:=by omega
     grind
abbrev zzL:q9:=⟨0,lit [],0,0⟩
def rNx(i:Nat)(l:List UInt8):Nx->q9×Int
 | .tok k n v=>(⟨k,lit (l.take n),v,i⟩,0)
 | .err e=>(zzL,e)
 | .skip _=>(zzL,0)
theorem zx2 {r:List UInt8}(hs:s.size<=16384) (hl:(bs s).drop i=c::r) :
    q67 (s,(i:Int))=d (rNx i (c::r) (if isD c then X0 (c::r) else if isL c then xD (c::r) else xE (c::r))):=by
 obtain⟨h1,h2⟩:=W1 hl (by simp);have hc:Zg s (i:Int)=d (c.toNat:Int):=Vo (n:=0) hl rfl;unfold q67 qcz;simp only;rw[hc];simp only[jj,zcr,zdM];by_cases hL:isL c=w
 · have hD:isD c=false:=by
     simp only[isL,UR,gf,jl] at hL;simp only[isD,Bool.and_eq_false_imp,jl,decide_eq_false_iff_not];omega
   rw[jv hL];have hloop:=ziP hs (i:Int) ((⟨0,lit [],0,0⟩,⟨0,lit [],0,(i:Int)⟩):RT) _ i rfl (by omega);rw[hl] at hloop;rw[show lpO (q78 q2s q4d q3q q43) (s,(i:Int),(i:Int),(⟨0,lit [],0,0⟩:q9),(⟨0,lit [],0,(i:Int)⟩:q9))=_ from hloop];simp only[jj];rw[wy hl (by simp) (XZ _ _)];have hlen:((c::r).take (Zo isW (c::r))).length=Zo isW (c::r):=by rw[Do];have:=XZ isW (c::r);omega
   simp only[jj,wK,hlen,jl,zuO];rw[hD];simp only[jk,jp,hL,jq];unfold xD;by_cases h:16 < Zo isW (c::r)
   ·rw[jv (by omega),jv h];rfl
   · rw[jx (by omega),jx h];by_cases hk:zcn ((c::r).take (Zo isW (c::r)))=w
     ·rw[jv hk,jv hk];rfl
     ·rw[jx hk,jx hk];rfl
 · rw[jx hL];simp only[jj,jm];by_cases hD:isD c=w
   · rw[jv hD,jv hD];have hn:=XZ isD (c::r);have hn1:1<=Zo isD (c::r):=by rw[yN];simp[hD]
     have hloop:=zlW hs (i:Int) ((⟨0,lit [],0,0⟩,⟨0,lit [],0,(i:Int)⟩):RT) _ i 0 D (by omega) rfl (by omega);rw[hl] at hloop;rw[show lpO (q79 q2s q4d q3q q43) (s,(i:Int),(i:Int),0,D,(⟨0,lit [],0,0⟩:q9),(⟨0,lit [],0,(i:Int)⟩:q9))=_ from hloop];have hnum:=znL ((c::r).take (Zo isD (c::r))) 0 (by omega);have hN:WY 0 ((c::r).take (Zo isD (c::r)))=YX ((c::r).take (Zo isD (c::r))):=rfl;rw[hN] at hnum;unfold X0 vz;generalize hnr:Zo isD (c::r)=n at *
     generalize hpq:Wp 0 D ((c::r).take n)=pq at *
     obtain⟨p,q⟩:=pq;simp only[jj,jl];have hlast:(if(((i+n:Nat):Int) < (s.size:Int)) then(Zg s ((i+n:Nat):Int)).bind λy=>(q2s y).bind λz=>d (s,(i:Int),((i+n:Nat):Int),(p:Int),q,z,((⟨0,lit [],0,0⟩,⟨0,lit [],0,(i:Int)⟩):RT)) else d (s,(i:Int),((i+n:Nat):Int),(p:Int),q,D,(((⟨0,lit [],0,0⟩,⟨0,lit [],0,(i:Int)⟩):RT):RT)))=d (s,(i:Int),((i+n:Nat):Int),(p:Int),q,zco (c::r)[n]?,(((⟨0,lit [],0,0⟩,⟨0,lit [],0,(i:Int)⟩):RT):RT)):=by
      by_cases hb:i+n < s.size
      · have:n < (c::r).length:=by omega
        have hg:=UM this;generalize (c::r)[n]=b at hg;rw[Vo hl hg,hg];simp only[jj,zcr];rw[jv (E.2 hb)];rfl
      ·have:(c::r)[n]?=none:=US (by omega);rw[this,jx (λh=>hb (E.1 h))];rfl
     rw[show(if(((i+n:Nat):Int) < (s.size:Int)) then(Zg s ((i+n:Nat):Int)).bind λy=>(q2s y).bind λz=>d (s,(i:Int),((i+n:Nat):Int),(p:Int),q,z,((⟨0,lit [],0,0⟩,⟨0,lit [],0,(i:Int)⟩):RT)) else d (s,(i:Int),((i+n:Nat):Int),(p:Int),q,D,(((⟨0,lit [],0,0⟩,⟨0,lit [],0,(i:Int)⟩):RT):RT)))=_ from hlast];simp only[jj,hc];have e1:((i:Int)+1)=((i+1:Nat):Int):=by omega
     have hw:=xU (n:=i) (by omega);by_cases h40:1099511627776 < YX ((c::r).take n)
     ·rw[jv h40] at hnum;simp only at hnum;subst hnum;simp[h40,rNx]
     · rw[jx h40] at hnum;simp only[Prod.mk.injEq] at hnum;obtain⟨hp,hq⟩:=hnum;subst hp hq;simp only[jk,jp];cases hlt:zco (c::r)[n]? with
       |true=>simp[h40,rNx]
       |false=>
        simp only[jk,jp,hw];have e48:((c.toNat:Int)=48)↔c=48:=by
         constructor
         ·intro h;exact I.1 (by grind)
         ·intro h;rw[h];rfl
        by_cases h48:c=48
        · rw[jv (e48.2 h48)];simp only[jj];by_cases h1n:1 < n
          · have:((i+1:Nat):Int) < ((i+n:Nat):Int):=by omega
            simp[h40,h1n,h48,this,rNx];grind
          · have:¬ ((i+1:Nat):Int) < ((i+n:Nat):Int):=by omega
            simp only[this,jr,jk,jp,h40,h1n,Bool.false_and,L];rw[wy hl (by simp) hn];rfl
        ·rw[jx (λh=>h48 (e48.1 h))];simp only[jj,jk,jp];rw[wy hl (by simp) hn];simp only[h40,h48,jr,S,P.injEq,W,L,jk,jp];rfl
   · rw[jx hD,jx hD,jx hL];simp only[jj,jm];rw[zuP hs hl (by simp)];simp only[jj,jl];unfold xE;have hle:=zgI (c::r);by_cases h0:YL (c::r)=0
     ·rw[jv (by omega),jv h0];rfl
     ·rw[jx (by omega),jx h0,VW (by omega),wy hl (by simp) hle];rfl
theorem ziQ(hs:s.size<=16384){f:U5×Int->U7 (q9×Int)}(out:Sl q9):∀(n i:Nat),s.size - i=n->i<=s.size->lpO (q7o f) (s,(i:Int),out)=d (s,((i+Zo Wn ((bs s).drop i):Nat):Int),out)
 |0,i,hn,hi=>by
  have:i=s.size:=by omega
  subst this;rw[Zt];simp[q7o,UA,yf,zck]
 |n+1,i,hn,hi=>by
  have hlt:i < s.size:=by omega
  obtain⟨c,hc,hd⟩:=zam (l:=bs s) (i:=i) (by rw[yf];exact hlt);rw[Zt];simp only[q7o,jl];rw[jv (E.2 hlt),XM hc];have hw:=xU (n:=i) (by omega);simp only[jj,hw];rw[hd,yN];have e10:((c.toNat:Int)≠10)↔Wn c=true:=by simp only[Wn,jl];omega
  by_cases h:Wn c=w
  ·rw[jv (gm (e10.2 h)),jv h];simp only[jj];refine(ziQ hs out n (i+1) (by omega) (by omega)).trans ?_;congr 3;omega
  grind
abbrev toR(t:qr):q9:=⟨t.k_,t.T_,t.n_,t.a_⟩
noncomputable abbrev zen:=q7p q67
theorem zzM(hne:l≠[]){e:Int}(h:nxt l = .err e):e≠0:=by
 match l,hne with
 |c::r,_=>
  unfold nxt at h;simp only at h;split at h
  ·cases h
  ·split at h
   ·cases h
   ·split at h
    ·unfold X0 at h;grind
    ·split at h
     ·unfold xD at h;grind
     ·unfold xE at h;grind
theorem zuQ (hs:s.size<=16384) (hl:(bs s).drop i=l) (hne:l≠[]) (out:Sl q9) :
    zen (s,(i:Int),out)=match nxt l with
     | .skip n=>d (.next (s,((i+n:Nat):Int),out))
     | .err e=>d (.done (.inl ((i:Int),e)))
     | .tok k n v=>(zo 40 out [⟨k,lit (l.take n),v,i⟩]).bind λo=>d (.next (s,((i+n:Nat):Int),o)):=by
 obtain⟨h1,h2⟩:=W1 hl hne
 match l,hne with
 |c::r,hne=>
  have hc:Zg s (i:Int)=d (c.toNat:Int):=Vo (n:=0) hl rfl;have hpos:=W0 (l:=c::r) (by simp);have herr:=λe=>zzM (l:=c::r) (by simp) (e:=e)
  simp only[zen,q7p];rw[jv (gm (E.2 h1)),hc];have hw:=xU (n:=i) (by omega);simp only[jj];have e32:((c.toNat:Int)=32)↔c.toNat=32:=by omega
  have e10:((c.toNat:Int)=10)↔c.toNat=10:=by omega
  have e35:((c.toNat:Int)=35)↔c.toNat=35:=by omega
  unfold nxt at hpos herr |-
  simp only at hpos herr |-
  by_cases hb:c.toNat=32\/c.toNat=10
  · rw[jv hb];simp only;rcases hb with hb | hb
    ·grind
    · have:¬ c.toNat=32:=by omega
      rw[jx (λh=>this (e32.1 (Dy h)))];grind
  · rw[jx hb] at hpos herr |-
    have n32:¬ c.toNat=32:=λh=>hb (.inl h)
    have n10:¬ c.toNat=10:=λh=>hb (.inr h)
    rw[jx (λh=>n32 (e32.1 (Dy h)))];simp only[jj,jl];rw[jx (λh=>n10 (e10.1 h)),hc];simp only[jj];by_cases h35:c.toNat=35
    ·have hsk:=ziQ hs (f:=q67) out _ i rfl (by omega);grind
    · rw[jx (λh=>h35 (e35.1 h))];rw[jx h35] at hpos herr |-
      rw[zx2 hs hl];have hns:∀n,(if isD c=w then X0 (c::r) else if isL c=w then xD (c::r) else xE (c::r)) ≠.skip n:=by
       intro n h;split at h
       ·unfold X0 at h;grind
       · split at h
         ·unfold xD at h;grind
         ·unfold xE at h;grind
      generalize (if isD c=w then X0 (c::r) else if isL c=w then xD (c::r) else xE (c::r))=x at hpos herr hns;cases x with
      |skip n=>
       grind
      |err e=>
       have:=herr e rfl;simp only[rNx,jj];grind
      |tok k n v=>
       simp only[wj] at hpos;simp only[rNx,jj,Dm,jt,jp,gh,jo];have hz:(lit ((c::r).take n)).size=n:=by rw[wK,Do];omega
       rw[hz,VW (by omega)]
theorem zsE (hs:s.size<=16384):∀(n i:Nat) (acc:List q9) (nn:Bool),s.size - i<=n->i<=s.size->acc.length<=i->
    lpO zen (s,(i:Int),⟨acc,nn⟩)=d (match WZ i ((bs s).drop i) with
     | .inl x =>.inl ((x.1:Int),x.2)
     | .inr ts =>.inr (s,⟨acc++ts.map toR,nn || !ts.isEmpty⟩)):=by
 intro n
 induction n with
 |zero=>
  intro i acc nn hn hi ha;have:i=s.size:=by omega
  subst this;rw[Zt];have hd:(bs s).drop s.size=[]:=UA (by rw[yf];grind);rw[hd,zcp];simp[zen,q7p]
 |succ n ih=>
  intro i acc nn hn hi ha;rcases Nat.lt_or_ge i s.size with hlt | hge
  · have hne:(bs s).drop i≠[]:=by
      intro e;have:=congrArg F e;rw[UU,yf] at this;grind
    have hp:=W0 hne;have hlen:((bs s).drop i).length=s.size - i:=by rw[UU,yf]
    rw[Zt,zuQ hs rfl hne,zdJ _ hne];cases hx:nxt ((bs s).drop i) with
    |err e=>rfl
    |skip k=>
     rw[hx] at hp;simp only[wj] at hp;simp only[jj,G];rw[ih (i+k) acc nn (by omega) (by omega) (by omega)]
    |tok k m v=>
     rw[hx] at hp;simp only[wj] at hp;simp only[G];rw[yQ (by grind) (by grind)];simp only[jj];rw[ih (i+m) _ _ (by omega) (by omega) (by grind)];grind
  grind
theorem zpD(s:U5):q6h s=d ((Z1 s).1,(Z1 s).2.1,⟨(Z1 s).2.2.xs.map toR,(Z1 s).2.2.nn⟩):=by
 unfold q6h qb8 Z1;simp only[jl];by_cases h:16384 < s.size
 ·grind
 ·rw[jx (by omega),jx h];have:=zsE (s:=s) (by omega) s.size 0 [] D (by omega) (by omega) (by simp);rw[Dv] at this;rw[show((s,0,Sl.mk [] D):U5×Int×Sl q9)=(s,((0:Nat):Int),⟨[],D⟩) from rfl,this];cases hx:WZ 0 (bs s) with
  |inl x=>rfl
  |inr ts=>
   have hl:=VY _ _ _ _ (UN _) hx;rw[yf] at hl;simp only[jj,jm,Ds,DF];rw[yQ (by grind) (by grind)];simp
end Go.Px
