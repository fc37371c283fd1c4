/- Part La: Px01A Px01B Px01C Px01D Px22TE Px22TF. -/
import Derived.Test.YtpcipfnohfefhaaGreatDoorA9
set_option linter.unusedVariables false
set_option linter.unusedSimpArgs false
namespace Go.Px
variable{X:G4 Bool}{b:Bool}{c:UInt8}{i n:Nat}{l:List UInt8}{s:G1}
abbrev bs (s:G1):List UInt8:=s.data.toList
theorem Z6 (s:G1):(bs s).length=s.size:=by cases s;simp [bs,ByteArray.size]
theorem zps {t:G1}(h:bs s=bs t):s=t:=by
 cases s;cases t;congr 1;exact Array.toList_inj.1 h
theorem XN (l:List UInt8):bs (lit l)=l:=rfl
theorem Zn {s β:Type}(f:s->G4 (Step s β)) (x:s):lpO f x=(f x).bind fun | .next x'=>lpO f x' | .done y=>some y:=zp6 f x
theorem Xj (h:(bs s)[i]?=some c):Zc s (i:Int)=some (c.toNat:Int):=by
 unfold Zc;grind
theorem VH (h:i < l.length):∃ c,l[i]?=some c/\l.drop i=c::l.drop (i+1):=
 ⟨l[i],GJ h,Up h⟩
theorem zm9 (s:G1) (i j:Nat):bs (s.extract i j)=((bs s).take j).drop i:=by
 show (s.extract i j).data.toList=_;rw [ByteArray.data_extract];simp [Array.toList_extract,List.extract,List.take_drop];by_cases h:i<=j
 ·grind
 ·have h1:j - i=0:=by omega
  rw [h1];simp;omega
theorem zk1 {j:Nat}(h1:i<=j) (h2:j<=s.size):Zz s (i:Int) (j:Int)=some (s.extract i j):=by
 unfold Zz;grind
theorem zjN (h:n < 9223372036854775808):G5 (n:Int)=n:=zI (by omega) (by omega)
theorem Vh {k:Nat}(h:n+k < 9223372036854775808):G5 ((n:Int)+(k:Int))=((n+k:Nat):Int):=by
 rw [zI (by omega) (by omega)];simp
theorem xw (h:n+1 < 9223372036854775808):G5 ((n:Int)+1)=((n+1:Nat):Int):=by
 rw [zI (by omega) (by omega)];simp
def Zj (p:UInt8->Bool) (l:List UInt8):Nat:=(l.takeWhile p).length
theorem zby (p:UInt8->Bool):Zj p []=0:=rfl
theorem yC (p:UInt8->Bool) (c:UInt8) (l:List UInt8):Zj p (c::l)=if p c then Zj p l+1 else 0:=by
 unfold Zj;rw [List.takeWhile_cons];split <;> simp
theorem Xt (p:UInt8->Bool):∀ l:List UInt8,Zj p l<=l.length
 |[]=>GL _
 |c::l=>by rw [yC];split <;> simp;exact Xt p l
def isL (b:UInt8):Bool:=(decide (97<=b.toNat) && decide (b.toNat<=122)) || decide (b.toNat=95)
def isD (b:UInt8):Bool:=decide (48<=b.toNat) && decide (b.toNat<=57)
def isW (b:UInt8):Bool:=isL b || isD b
def wK (b:UInt8):Bool:=decide (b.toNat≠10)
theorem zbz (b:UInt8):q8m (b.toNat:Int)=some (isD b):=by
 simp only [q8m,qgi,isD,jh];split
 ·rename_i h;have:48<=b.toNat:=by omega
  simp [this];omega
 grind
theorem VI (b:UInt8):q70 (b.toNat:Int)=some (isL b):=by
 simp only [q70,qg0,isL,jh];have e1:(97<=(b.toNat:Int))↔97<=b.toNat:=by omega
 have e2:((b.toNat:Int)<=122)↔b.toNat<=122:=by omega
 have e3:((b.toNat:Int)=95)↔b.toNat=95:=by omega
 grind
theorem zpt (b:UInt8):qbn (b.toNat:Int)=some (isW b):=by
 simp only [qbn,qg1,VI,zbz,isW,jf];grind
theorem zrs (b:UInt8):qa7 (b.toNat:Int)=some (wK b):=by
 simp only [qa7,qe9,wK];congr 1;grind
theorem zbA {f:Int->G4 Bool}{p:UInt8->Bool}(hf:∀ c:UInt8,f (c.toNat:Int)=some (p c)) (hs:s.size < 4611686018427387904) :
    ∀ (n i:Nat),s.size - i=n->i<=s.size->lpO (q56 f) (s,(i:Int))=some ((i+Zj p ((bs s).drop i):Nat):Int)
  |0,i,hn,hi=>by
    have:i=s.size:=by omega
    subst this;rw [Zn];simp [q56,G7,Z6,zby]
  |n+1,i,hn,hi=>by
    have hlt:i < s.size:=by omega
    obtain ⟨c,hc,hd⟩:=VH (l:=bs s) (i:=i) (by rw [Z6];exact hlt);rw [Zn];simp only [q56,jh];rw [jr (Int.ofNat_lt.2 hlt),Xj hc];simp only [jf,hf];rw [hd,yC];cases hp:p c with
    |true=>
      simp only [jl,jf];rw [xw (by omega),zbA hf hs n (i+1) (by omega) (by omega)];grind
    |false=>simp
theorem zpu (hs:s.size < 4611686018427387904) (hi:i<=s.size):qbl (s,(i:Int))=some ((i+Zj isD ((bs s).drop i):Nat):Int):=by
 show (lpO (q56 q8m) (s,(i:Int))).bind some=_;rw [zbA zbz hs _ i rfl hi];rfl
theorem zna (hs:s.size < 4611686018427387904) (hi:i<=s.size):qan (s,(i:Int))=some ((i+Zj isW ((bs s).drop i):Nat):Int):=by
 show (lpO (q56 qbn) (s,(i:Int))).bind some=_;rw [zbA zpt hs _ i rfl hi];rfl
theorem zpv (hs:s.size < 4611686018427387904) (hi:i<=s.size):qa1 (s,(i:Int))=some ((i+Zj wK ((bs s).drop i):Nat):Int):=by
 show (lpO (q56 qa7) (s,(i:Int))).bind some=_;rw [zbA zrs hs _ i rfl hi];rfl
def zbB (l:List UInt8):Bool:=decide (l=[116,121,112,101]) || (decide (l=[102,110]) || (decide (l=[111,119,110]) || (decide (l=[99,101,108,108]) || (decide (l=[99,111,117,110,116,101,100]) || (decide (l=[108,111,99,107]) || (decide (l=[103,117,97,114,100]) || (decide (l=[119,104,101,114,101]) || (decide (l=[105,110,116]) || (decide (l=[109,117,116]) || (decide (l=[102,114,101,101]) || (decide (l=[117,110,108,111,99,107]) || (decide (l=[105,102]) || (decide (l=[101,108,115,101]) || (decide (l=[119,104,105,108,101]) || (decide (l=[114,101,116,117,114,110]) || (decide (l=[97,98,111,114,116]) || (decide (l=[102,111,114,107]) || (decide (l=[110,101,119]) || (decide (l=[97,114,114,97,121]))))))))))))))))))))
theorem zjO {p:Prop}[Decidable p] (h:X=some b):(if decide p=true then some (decide p) else X)=some (decide p || b):=by
 grind
theorem zjP (h:X=some b):(X.bind fun y=>some y)=some b:=by subst h;rfl
theorem zt9 (h:X=some b):(X.bind fun y=>if y=true then some true else some false)=some b:=by grind
theorem zlw (s:G1) (l:List UInt8):decide (s=lit l)=decide (bs s=l):=by
 refine decide_eq_decide.2 ⟨fun h=>by rw [h];rfl,fun h=>zps h⟩
theorem zvL (s:G1):qca s=some (zbB (bs s)):=by
 simp only [qca,qgj,zbB,<- zlw];refine zt9 ?_
 repeat (first | exact rfl | apply zjO | apply zjP)
theorem zlx (l:List UInt8):qca (lit l)=some (zbB l):=zvL (lit l)
def Wl (a:Nat):List UInt8->Nat
 |[]=>a
 |c::r=>Wl (a * 10+(c.toNat - 48)) r
def YD (l:List UInt8):Nat:=Wl 0 l
theorem zgu:∀ (l:List UInt8) (a:Nat),a<=Wl a l
 |[],a=>GL _
 |c::r,a=>GN (by omega) (zgu r _)
def sgn (c:UInt8):Bool:=[123,125,40,41,91,93,44,58,59,61,43,45,38,60].contains c
def two (l:List UInt8):Bool:=decide (l.take 2=[45,62]) || (decide (l.take 2=[60,61]) || decide (l.take 2=[61,61]))
def Yt (l:List UInt8):Nat:=if two l then 2 else match l with
 |[]=>0
 |c::_=>if sgn c then 1 else 0
inductive Nx where
 |skip (n:Nat)
 |tok (k:Int) (n:Nat) (v:Int)
 |err (e:Int)
def zbC:G4 UInt8->Bool
 |some c=>isL c
 |none=>false
def WP (l:List UInt8):Bool:=decide (1099511627776 < YD (l.take (Zj isD l))) || ((decide (1 < Zj isD l) && decide (l.head?=some 48)) || zbC l[Zj isD l]?)
def Xu (l:List UInt8):Nx:=if WP l then .err 12 else .tok 3 (Zj isD l) (YD (l.take (Zj isD l)))
def xd (l:List UInt8):Nx:=if 16 < Zj isW l then .err 13 else .tok (if zbB (l.take (Zj isW l)) then 2 else 1) (Zj isW l) 0
def xf (l:List UInt8):Nx:=if Yt l=0 then .err 11 else .tok 4 (Yt l) 0
def nxt (l:List UInt8):Nx:=match l with
 |[] =>.err 11
 |c::r=>if c.toNat=32\/c.toNat=10 then .skip 1 else if c.toNat=35 then .skip (Zj wK (c::r)) else if isD c then Xu (c::r) else if isL c then xd (c::r) else xf (c::r)
def wL:Nat->Nat->List UInt8->(Nat×Int)⊕List qn
 |0,_,_ =>.inr []
 |f+1,at_,l=>if l.isEmpty then .inr [] else match nxt l with
  | .skip n=>wL f (at_+n) (l.drop n)
  | .err e =>.inl (at_,e)
  | .tok k n v=>match wL f (at_+n) (l.drop n) with
   | .inl x =>.inl x
   | .inr ts =>.inr (⟨k,lit (l.take n),v,at_⟩::ts)
def Wm (at_:Nat) (l:List UInt8):(Nat×Int)⊕List qn:=wL l.length at_ l
theorem zfm (l:List UInt8):Yt l<=l.length:=by
 unfold Yt;split
 ·rename_i h;unfold two at h
  match l with
  |[]=>simp at h
  |[a]=>simp at h
  |a::b::r=>simp
 grind
def XG (m:Nat):Nx->Prop
 | .skip n=>1<=n/\n<=m
 | .tok _ n _=>1<=n/\n<=m
 | .err _=>True
theorem Wn (h:l≠[]):XG l.length (nxt l):=by
 match l,h with
 |c::r,_=>
  show XG (c::r).length (if c.toNat=32\/c.toNat=10 then .skip 1 else if c.toNat=35 then .skip (Zj wK (c::r)) else if isD c then Xu (c::r) else if isL c then xd (c::r) else xf (c::r));split
  ·exact ⟨by omega,by simp⟩
  ·rename_i h1;split
   ·rename_i h2;refine ⟨?_,Xt _ _⟩;rw [yC];have:wK c=true:=by unfold wK;simp;omega
    simp [this]
   ·split
    ·rename_i hd;unfold Xu;cases WP (c::r) with
     |true=>trivial
     |false=>
      refine ⟨?_,Xt _ _⟩;rw [yC];simp [hd]
    ·split
     ·rename_i hl;unfold xd;split
      ·trivial
      ·refine ⟨?_,Xt _ _⟩;rw [yC];simp [isW,hl]
     ·unfold xf;split
      ·trivial
      ·exact ⟨by omega,zfm _⟩
theorem VJ:∀ (f:Nat) (l:List UInt8) (at_:Nat) (g:Nat),l.length<=f->l.length<=g->wL f at_ l=wL g at_ l
 |0,l,at_,g,h,hg=>by
  have:l=[]:=GQ (by omega);subst this;cases g <;> rfl
 |f+1,l,at_,g,h,hg=>by
  match l with
  |[]=>cases g <;> rfl
  |c::r=>
   match g,hg with
   |g+1,hg=>
    have hp:=Wn (l:=c::r) (by simp);unfold wL;simp only [List.isEmpty_cons,jg,jk];cases hn:nxt (c::r) with
    |err e=>rfl
    |skip n=>
     rw [hn] at hp;simp only [XG] at hp |-
     exact VJ f _ _ g (by grind) (by grind)
    |tok k n v=>
     rw [hn] at hp;simp only [XG] at hp |-
     rw [VJ f ((c::r).drop n) _ g (by grind) (by grind)]
theorem zbD (at_:Nat):Wm at_ [] = .inr []:=rfl
theorem zcK (at_:Nat) (h:l≠[]):Wm at_ l=match nxt l with
    | .skip n=>Wm (at_+n) (l.drop n)
    | .err e =>.inl (at_,e)
    | .tok k n v=>match Wm (at_+n) (l.drop n) with
      | .inl x =>.inl x
      | .inr ts =>.inr (⟨k,lit (l.take n),v,at_⟩::ts):=by
  match l,h with
  |c::r,_=>
    have hp:=Wn (l:=c::r) (by simp);unfold Wm;show wL (r.length+1) at_ (c::r)=_;rw [wL];simp only [List.isEmpty_cons,jg,jk];cases hn:nxt (c::r) with
    |err e=>rfl
    |skip n=>
      rw [hn] at hp;simp only [XG] at hp |-
      exact VJ _ _ _ _ (by grind) (GL _)
    |tok k n v=>
      rw [hn] at hp;simp only [XG] at hp |-
      rw [VJ r.length ((c::r).drop n) _ ((c::r).drop n).length (by grind) (GL _)]
theorem zhe (p:UInt8->Bool):∀ l:List UInt8,l.take (Zj p l)=l.takeWhile p
 |[]=>rfl
 |c::l=>by
  rw [yC,List.takeWhile_cons];cases p c with
  |true=>simp [zhe p l]
  |false=>simp
theorem zua (p:UInt8->Bool) (l:List UInt8):∀ c∈l.take (Zj p l),p c=true:=by
 rw [zhe]
 induction l with
 |nil=>simp
 |cons a l ih=>
  rw [List.takeWhile_cons];grind
theorem Wo (h:(bs s).drop i=l) (hl:l≠[]):i < s.size/\l.length=s.size - i:=by
 subst h;rw [GR,Z6];refine ⟨?_,rfl⟩;rcases Nat.lt_or_ge i s.size with h | h
 ·exact h
 ·exact absurd (G7 (by rw [Z6];exact h)) hl
theorem XO (h:(bs s).drop i=l) (hl:l≠[]) (hn:n<=l.length):Zz s (i:Int) ((i+n:Nat):Int)=some (lit (l.take n)):=by
 obtain ⟨h1,h2⟩:=Wo h hl;rw [zk1 (by omega) (by omega)];congr 1;apply zps;rw [zm9,XN,<- h,List.take_drop]
theorem vA (h:(bs s).drop i=l) (hc:l[n]?=some c):Zc s ((i+n:Nat):Int)=some (c.toNat:Int):=by
 apply Xj;grind
theorem X4 (l:List UInt8):(lit l).size=l.length:=by rw [<- Z6,XN]
theorem zcL {M:Nat}(hM:M=18446744073709551615):∀ (l:List UInt8) (a:Nat),(∀ c∈l,isD c=true)->a<=M->Lib.parseUintM M a l=if Wl a l<=M then .ok (Wl a l) else .range
 |[],a,_,ha=>by rw [jr (show Wl a []<=M from ha)];rfl
 |c::r,a,h,ha=>by
  have hc:=h c (by simp);simp only [isD,g9,jh] at hc;have hge:=zgu r (a * 10+(c.toNat - 48));have e:Wl a (c::r)=Wl (a * 10+(c.toNat - 48)) r:=rfl;rw [e];unfold Lib.parseUintM;rw [jr hc];split
  ·grind
  ·split
   ·grind
   ·exact zcL hM r _ (fun x hx=>h x (by simp [hx])) (by omega)
theorem zpw (hl:l≠[]) (h:∀ c∈l,isD c=true):Lib.parseIntB 64 l=if YD l < 9223372036854775808 then .ok (YD l:Int) else .range:=by
 match l,hl with
 |c::r,_=>
  have hc:=h c (by simp);simp only [isD,g9,jh] at hc;have e43:¬ (c.toNat=43\/c.toNat=45):=by omega
  have e45:¬ c.toNat=45:=by omega
  unfold Lib.parseIntB Lib.parseUintB;simp only;rw [js e43,js (by simp)];generalize hM:(2 ^ 64 - 1:Nat)=M;generalize hB:(2 ^ (64 - 1):Nat)=B;have hM:M=18446744073709551615:=by rw [<- hM]
  have hB:B=9223372036854775808:=by rw [<- hB]
  rw [zcL hM _ _ h (by omega)];simp only [e45,false_and,jq,GG,jk]
  show (match (if YD (c::r)<=M then Lib.NumEnd.ok (YD (c::r)) else .range) with
   | .syntax=>Lib.NumEnd.syntax
   | .range =>.range
   | .ok u=>if B<=u then .range else .ok (u:Int))=_
  by_cases h1:YD (c::r)<=M
  ·rw [jr h1];simp only;by_cases h2:YD (c::r) < 9223372036854775808
   all_goals grind
  grind
abbrev tk0:qn:=⟨0,lit [],0,0⟩
theorem zpx {r:List UInt8}(hs:s.size<=16384) (hl:(bs s).drop i=c::r) (hd:isD c=true) :
    qbo (s,(i:Int),((i+Zj isD (c::r):Nat):Int))=some (if WP (c::r) then (tk0,12) else (⟨3,lit ((c::r).take (Zj isD (c::r))),(YD ((c::r).take (Zj isD (c::r))):Nat),i⟩,0)):=by
  obtain ⟨h1,h2⟩:=Wo hl (by simp);have hn:=Xt isD (c::r);have hn1:1<=Zj isD (c::r):=by rw [yC];simp [hd]
  generalize hN:Zj isD (c::r)=n at *
  have hall:=zua isD (c::r);rw [hN] at hall;have hne:(c::r).take n≠[]:=by
    match n,hn1 with
    |n+1,_=>simp
  have hlen:((c::r).take n).length=n:=by grind
  have hhead:((c::r).take n)[0]?=some c:=by
    grind
  have hlast:∀ (X Y:G4 (qn×Int)),(if decide (((i+n:Nat):Int) < (s.size:Int))=true then (Zc s ((i+n:Nat):Int)).bind fun y=>(q70 y).bind fun z=>if z=true then X else Y else Y)=if zbC (c::r)[n]?=true then X else Y:=by
    intro X Y;by_cases hb:i+n < s.size
    · have:n < (c::r).length:=by omega
      have hg:=GJ this;generalize (c::r)[n]=b at hg;rw [vA hl hg,hg];simp only [jh,jf,VI];rw [jr (Int.ofNat_lt.2 hb)];rfl
    ·have:(c::r)[n]?=none:=List.getElem?_eq_none (by omega);rw [this];simp only [jh];rw [js (fun h=>hb (Int.ofNat_lt.1 h))];rfl
  unfold qbo qg2;rw [show ((s,(i:Int),((i+n:Nat):Int)):G1×Int×Int).1=s from rfl];simp only;rw [XO hl (by simp) (by omega)];simp only [jf,qbp,XM,GG];rw [jr (by rw [X4,hlen];omega),show (lit ((c::r).take n)).data.toList=(c::r).take n from rfl,zpw hne hall];by_cases hv:YD ((c::r).take n) < 9223372036854775808
  · rw [jr hv];simp only [jf,jj];unfold WP;rw [hN];by_cases h40:1099511627776 < YD ((c::r).take n)
    ·grind
    · simp only [jh];rw [js (by omega),X4,hlen];have hl2:=hlast (some (qn.mk 0 (lit []) 0 0,12)) (some (qn.mk 3 (lit ((c::r).take n)) (YD ((c::r).take n):Nat) i,0));simp only [jh] at hl2;have e0:Zc (lit ((c::r).take n)) 0=some (c.toNat:Int):=Xj (i:=0) hhead;by_cases h1n:1 < n
      · rw [jr (by omega),e0];simp only [jf];by_cases h48:c.toNat=48
        ·rw [jr (by omega)];have:c=48:=UInt8.toNat_inj.1 (by grind);grind
        · rw [js (by omega),hl2];have:¬ c=48:=fun h=>h48 (by rw [h];rfl)
          simp only [h40,h1n,this,jo,jm,List.head?_cons,Option.some.injEq,Bool.and_false,U8];grind
      ·rw [js (by omega),hl2];grind
  ·rw [js hv];simp only [jf,ji];unfold WP;grind
theorem zub (hs:s.size<=16384) (hl:(bs s).drop i=l) (hne:l≠[]) (hn:n<=l.length) :
    qea (s,(i:Int),((i+n:Nat):Int))=some (if 16 < n then (tk0,13) else (⟨if zbB (l.take n) then 2 else 1,lit (l.take n),0,i⟩,0)):=by
  unfold qea qh0;simp only;rw [XO hl hne hn];have hlen:(l.take n).length=n:=by grind
  simp only [jf,X4,hlen,jh,zlx];by_cases h:16 < n
  ·grind
  ·rw [js (by omega),js h];grind
theorem zcM (l:List UInt8) (a b:UInt8):q6a (lit l,lit [a,b])=some (decide (l.take 2=[a,b])):=by
 show ((q3k (lit l,lit [a,b])).bind fun y=>some y)=_;unfold q3k;simp only [X4,ju,List.length_nil,jh];by_cases h:2<=l.length
 ·rw [jr (by omega)];have:Zz (lit l) 0 ((2:Nat):Int)=some (lit (l.take 2)):=by
   have:=XO (s:=lit l) (i:=0) (n:=2) (l:=l) rfl (by grind) h;grind
  rw [show ((0+1+1:Nat):Int)=((2:Nat):Int) from rfl,this];simp only [jf];congr 1;refine decide_eq_decide.2 ⟨fun h=>?_,fun h=>by rw [h]⟩;have:=congrArg bs h;simpa [XN] using this
 ·rw [js (by omega)];have:l.take 2≠[a,b]:=by
   intro e;have:=congrArg List.length e;grind
  simp [this]
theorem Vi:∀ (l:List UInt8) (c:UInt8),(0<=Lib.indexByte l c)↔l.contains c=true
 |[],c=>by simp [Lib.indexByte]
 |b::l,c=>by
  have ih:=Vi l c;have hg:=Lib.indexByte_ge l c;unfold Lib.indexByte;by_cases h:b=c
  ·subst h;simp
  ·have h':(b == c)=false:=by simpa using h
   have h2:(c == b)=false:=by grind
   simp only [h',jg,jk,List.contains_cons,h2,U8];rw [<- ih];grind
theorem zuc (hne:l≠[]):qge (lit l)=some (lit (l.take (Yt l))):=by
 show (lpO (q9m q6a q6b) (lit l,(lit [45,62],lit [60,61],lit [61,61]),0)).bind _=_;have w1:G5 (0+1)=1:=by decide
 have w2:G5 (1+1)=2:=by decide
 have w3:G5 (2+1)=3:=by decide
 have g0:∀ A B C:G1,WW [A,B,C] 0=some A:=fun _ _ _=>rfl
 have g1:∀ A B C:G1,WW [A,B,C] 1=some B:=fun _ _ _=>rfl
 have g2:∀ A B C:G1,WW [A,B,C] 2=some C:=fun _ _ _=>rfl
 have two_take:two l=true->l.take 2=[45,62]\/l.take 2=[60,61]\/l.take 2=[61,61]:=by
  intro h;simpa [two] using h
 have loop:lpO (q9m q6a q6b) (lit l,(lit [45,62],lit [60,61],lit [61,61]),0)=some (if two l then .inl (lit (l.take 2)) else .inr (lit l)):=by
  rw [Zn];simp only [q9m,zcM,jf,g0,w1];by_cases h1:l.take 2=[45,62]
  ·simp [h1,two]
  ·simp only [h1,jm,jg,jk,jf];rw [show decide ((0:Int) < 3)=true from rfl];simp only [jl,jf];rw [Zn];simp only [q9m,zcM,jf,g1,w2];rw [show decide ((1:Int) < 3)=true from rfl];by_cases h2:l.take 2=[60,61]
   ·simp [h2,two]
   ·simp only [h2,jm,jg,jk,jf,jl];rw [Zn];simp only [q9m,zcM,jf,g2,w3];rw [show decide ((2:Int) < 3)=true from rfl];by_cases h3:l.take 2=[61,61]
    ·simp [h3,two]
    ·simp only [h3,jm,jg,jk,jf,jl];rw [Zn];simp only [q9m];grind
 rw [loop];unfold Yt;by_cases ht:two l=true
 ·grind
 ·rw [js ht,js ht]
  match l,hne with
  |c::r,_=>
   have e0:Zc (lit (c::r)) 0=some (c.toNat:Int):=Xj (i:=0) rfl;have e1:Zz (lit (c::r)) 0 1=some (lit [c]):=by
    have:=XO (s:=lit (c::r)) (i:=0) (n:=1) (l:=c::r) rfl (by simp) (by simp);grind
   simp only [jf,ji];rw [e0,e1];simp only [jf,q6b,wG,Int.toNat_natCast];have hb:(0<=Lib.indexByte (lit [123,125,40,41,91,93,44,58,59,61,43,45,38,60]).data.toList c.toNat.toUInt8)↔sgn c=true:=by
    have:c.toNat.toUInt8=c:=by simp [Nat.toUInt8]
    rw [this];exact Vi _ c
   by_cases hs:sgn c=true
   ·grind
   grind
noncomputable abbrev zbE:=qcx qa1 q8m qbl qbo q70 qan qea qge
theorem znb (hs:s.size<=16384) (hl:(bs s).drop i=l) (hne:l≠[]) (out:Sl qn) :
    zbE (s,(i:Int),out)=match nxt l with
      | .skip n=>some (.next (s,((i+n:Nat):Int),out))
      | .err e=>some (.done (.inl ((i:Int),e)))
      | .tok k n v=>(zp 40 out [⟨k,lit (l.take n),v,i⟩]).bind fun o=>some (.next (s,((i+n:Nat):Int),o)):=by
  obtain ⟨h1,h2⟩:=Wo hl hne
  match l,hne with
  |c::r,_=>
    have hc:Zc s (i:Int)=some (c.toNat:Int):=vA (n:=0) hl rfl;have hpos:=Wn (l:=c::r) (by simp);simp only [zbE,qcx];rw [jr (gc (Int.ofNat_lt.2 h1)),hc];simp only [jf];have e32:((c.toNat:Int)=32)↔c.toNat=32:=by omega
    have e10:((c.toNat:Int)=10)↔c.toNat=10:=by omega
    have e35:((c.toNat:Int)=35)↔c.toNat=35:=by omega
    have rest:∀ (k:Int) (n:Nat) (v:Int),n<=(c::r).length->(zp 40 out [⟨k,lit ((c::r).take n),v,i⟩]).bind (fun o=>some (Step.next (β:=Int×Int⊕G1×Sl qn) (s,G5 ((i:Int)+((lit ((c::r).take n)).size:Int)),o)))=(zp 40 out [⟨k,lit ((c::r).take n),v,i⟩]).bind fun o=>some (.next (s,((i+n:Nat):Int),o)):=by
      intro k n v hn;have hz:(lit ((c::r).take n)).size=n:=by rw [X4,Ul];omega
      rw [hz,Vh (by omega)]
    unfold nxt at hpos |-
    simp only at hpos |-
    by_cases hb:c.toNat=32\/c.toNat=10
    · rw [jr hb];simp only;rcases hb with hb | hb
      ·rw [jr (gc (e32.2 hb))];simp [xw (n:=i) (by omega)]
      · have:¬ c.toNat=32:=by omega
        rw [js (fun h=>this (e32.1 (Ut h)))];simp only [jf,jh];rw [jr (e10.2 hb)];simp [xw (n:=i) (by omega)]
    · rw [js hb] at hpos |-
      have n32:¬ c.toNat=32:=fun h=>hb (.inl h)
      have n10:¬ c.toNat=10:=fun h=>hb (.inr h)
      rw [js (fun h=>n32 (e32.1 (Ut h)))];simp only [jf,jh];rw [js (fun h=>n10 (e10.1 h))];by_cases h35:c.toNat=35
      ·rw [jr (e35.2 h35),jr h35,zpv (by omega) (by omega),hl];simp
      · rw [js (fun h=>h35 (e35.1 h))];rw [js h35] at hpos |-
        simp only [zbz,VI,jf];by_cases hd:isD c=true
        · rw [jr hd] at hpos;rw [jr hd,jr hd,zpu (by omega) (by omega),hl];simp only [jf];rw [zpx hs hl hd];unfold Xu at hpos |-
          by_cases hbad:WP (c::r)=true
          ·grind
          ·rw [js hbad] at hpos;rw [js hbad,js hbad];simp only [XG] at hpos;simp only [jf,ji,Uj,jp,jk,ga,jj];grind
        · rw [js hd] at hpos;rw [js hd,js hd];by_cases hL:isL c=true
          · rw [jr hL] at hpos;rw [jr hL,jr hL,zna (by omega) (by omega),hl];simp only [jf];rw [zub hs hl (by simp) (Xt _ _)];unfold xd at hpos |-
            by_cases h16:16 < Zj isW (c::r)
            ·grind
            ·rw [js h16] at hpos;rw [js h16,js h16];simp only [XG] at hpos;simp only [jf,ji,Uj,jp,jk,ga,jj];grind
          · rw [js hL] at hpos;rw [js hL,js hL];have hcut:Zz s (i:Int) (s.size:Int)=some (lit (c::r)):=by
              have:=XO (n:=(c::r).length) hl (by simp) (GL _);grind
            rw [hcut];simp only [jf];rw [zuc (by simp)];simp only [jf,jh];unfold xf at hpos |-
            by_cases h0:Yt (c::r)=0
            ·grind
            · rw [js h0] at hpos;have hx:¬ lit ((c::r).take (Yt (c::r)))=lit []:=by
                intro e;have:=congrArg (fun x=>(bs x).length) e;simp only [XN] at this;grind
              rw [js h0,js hx];simp only [XG] at hpos;simp only [jf,ji,Uj,jp,jk,ga,jj];grind
theorem zrt (hs:s.size<=16384):∀ (n i:Nat) (acc:List qn) (nn:Bool),s.size - i<=n->i<=s.size->acc.length<=i->
    lpO zbE (s,(i:Int),⟨acc,nn⟩)=some (match Wm i ((bs s).drop i) with
      | .inl x =>.inl ((x.1:Int),x.2)
      | .inr ts =>.inr (s,⟨acc++ts,nn || !ts.isEmpty⟩)):=by
  intro n
  induction n with
  |zero=>
    intro i acc nn hn hi ha;have:i=s.size:=by omega
    subst this;rw [Zn];have hd:(bs s).drop s.size=[]:=G7 (by rw [Z6];grind);rw [hd,zbD];simp [zbE,qcx]
  |succ n ih=>
    intro i acc nn hn hi ha;rcases Nat.lt_or_ge i s.size with hlt | hge
    · have hne:(bs s).drop i≠[]:=by
        intro e;have:=congrArg List.length e;rw [GR,Z6] at this;grind
      have hp:=Wn hne;have hlen:((bs s).drop i).length=s.size - i:=by rw [GR,Z6]
      rw [Zn,znb hs rfl hne,zcK _ hne];cases hx:nxt ((bs s).drop i) with
      |err e=>rfl
      |skip k=>
        rw [hx] at hp;simp only [XG] at hp;simp only [jf,List.drop_drop];rw [ih (i+k) acc nn (by omega) (by omega) (by omega)]
      |tok k m v=>
        rw [hx] at hp;simp only [XG] at hp;simp only [List.drop_drop];rw [yX (by grind) (by grind)];simp only [jf];rw [ih (i+m) _ _ (by omega) (by omega) (by grind)];grind
    grind
def ZU (s:G1):Int×Int×Sl qn:=if 16384 < s.size then (0,10,⟨[],false⟩) else match Wm 0 (bs s) with
 | .inl x=>((x.1:Int),x.2,⟨[],false⟩)
 | .inr ts=>(0,0,⟨ts++[⟨0,lit [],0,s.size⟩],true⟩)
theorem Vj:∀ (m:Nat) (l:List UInt8) (i:Nat) (ts:List qn),l.length<=m->Wm i l = .inr ts->ts.length<=l.length
 |0,l,i,ts,hm,h=>by
  have:l=[]:=GQ (by omega);subst this;rw [zbD] at h;cases h;simp
 |m+1,l,i,ts,hm,h=>by
  by_cases hne:l=[]
  ·subst hne;rw [zbD] at h;cases h;simp
  ·have hp:=Wn hne;rw [zcK _ hne] at h;cases hx:nxt l with
   |err e=>grind
   |skip k=>
    rw [hx] at h hp;simp only [XG] at hp;have:=Vj m _ _ _ (by grind) h;grind
   |tok k n v=>
    rw [hx] at h hp;simp only [XG] at hp;simp only at h;cases hr:Wm (i+n) (l.drop n) with
    |inl x=>grind
    |inr us=>
     rw [hr] at h;cases h;have:=Vj m _ _ _ (by grind) hr;grind
theorem zpy (s:G1):qa8 s=some (ZU s):=by
 unfold qa8 qg3 ZU;simp only [jh];by_cases h:16384 < s.size
 ·grind
 ·rw [js (by omega),js h];have:=zrt (s:=s) (by omega) s.size 0 [] false (by omega) (by omega) (by simp);rw [Ur] at this;rw [show ((s,0,Sl.mk [] false):G1×Int×Sl qn)=(s,((0:Nat):Int),⟨[],false⟩) from rfl,this];cases hx:Wm 0 (bs s) with
  |inl x=>rfl
  |inr ts=>
   have hl:=Vj _ _ _ _ (GL _) hx;rw [Z6] at hl;simp only [jf,ji,Uo,U8];rw [yX (by grind) (by grind)];simp
theorem zbF (b:UInt8):q2h (b.toNat:Int)=some (isL b):=VI b
theorem zcN (b:UInt8):q3g (b.toNat:Int)=some (isD b):=zbz b
theorem zru (l:List UInt8):q2z (lit l)=some (zbB l):=zlx l
theorem zud (c:UInt8) (k:Nat) (hk:k < 256):decide ((c.toNat:Int)=(k:Int))=decide (c=UInt8.ofNat k):=by
 refine decide_eq_decide.2 ⟨fun h=>UInt8.toNat_inj.1 ?_,fun h=>?_⟩
 ·rw [UInt8.toNat_ofNat_of_lt' (by grind)];omega
 ·rw [h,UInt8.toNat_ofNat_of_lt' (by grind)]
theorem zvM (c:UInt8):sgn c=(decide ((c.toNat:Int)=123) || (decide ((c.toNat:Int)=125) || (decide ((c.toNat:Int)=40) || (decide ((c.toNat:Int)=41) || (decide ((c.toNat:Int)=91) || (decide ((c.toNat:Int)=93) || (decide ((c.toNat:Int)=44) || (decide ((c.toNat:Int)=58) || (decide ((c.toNat:Int)=59) || (decide ((c.toNat:Int)=61) || (decide ((c.toNat:Int)=43) || (decide ((c.toNat:Int)=45) || (decide ((c.toNat:Int)=38) || decide ((c.toNat:Int)=60)))))))))))))):=by
 have h:∀ k:Nat,k < 256->decide ((c.toNat:Int)=(k:Int))=(c == UInt8.ofNat k):=fun k hk=>by rw [zud c k hk];rfl
 have:=h 123 (by omega);have h2:=h 125 (by omega);have h3:=h 40 (by omega);have h4:=h 41 (by omega);have h5:=h 91 (by omega);have h6:=h 93 (by omega);have h7:=h 44 (by omega);have h8:=h 58 (by omega);have h9:=h 59 (by omega);have h10:=h 61 (by omega);have h11:=h 43 (by omega);have h12:=h 45 (by omega);have h13:=h 38 (by omega);have h14:=h 60 (by omega);simp only [Int.cast_ofNat_Int] at *
 simp only [sgn,List.contains_cons,List.contains_nil,Bool.or_false];grind
theorem zpz (h:l.length < 2):two l=false:=by
 have:∀ a b:UInt8,¬ l.take 2=[a,b]:=by
  intro a b e;have:=congrArg List.length e;grind
 simp [two,this]
theorem zrv (hs:s.size<=16384) (hl:(bs s).drop i=l) (hne:l≠[]):q37 (s,(i:Int))=some (Yt l:Int):=by
  obtain ⟨h1,h2⟩:=Wo hl hne;unfold q37 qa9;simp only;rw [xw (by omega)];have e2:G5 ((i:Int)+2)=((i+2:Nat):Int):=Vh (k:=2) (by omega);rw [e2]
  have first:((if decide (((i+1:Nat):Int) < (s.size:Int))=true then
        (Zz s (i:Int) ((i+2:Nat):Int)).bind fun y0=>some (s,(i:Int),y0) else some (s,(i:Int),lit [])).bind fun (y1:G1×Int×G1)=>(if decide (y1.2.2=lit [45,62])=true then some (y1.1,y1.2.1,true) else if decide (y1.2.2=lit [60,61])=true then some (y1.1,y1.2.1,true) else some (y1.1,y1.2.1,decide (y1.2.2=lit [61,61]))))=some (s,(i:Int),two l):=by
    by_cases h:i+1 < s.size
    · rw [jr (gc (Int.ofNat_lt.2 h)),XO hl hne (by omega)];simp only [jf,zlw,XN,two];by_cases a:l.take 2=[45,62]
      ·simp [a]
      · by_cases b:l.take 2=[60,61]
        ·simp [b]
        ·simp only [a,b,jm,jg,jk,jf,U8];rfl
    · rw [js (fun x=>h (Int.ofNat_lt.1 (Ut x)))];rw [zpz (by omega)];have:∀ a b:UInt8,lit []≠lit [a,b]:=fun a b e=>by have:=congrArg bs e;simp [XN] at this
      simp [this]
  rw [<- ga,first];simp only [jf];unfold Yt;by_cases ht:two l=true
  ·grind
  · rw [js ht,js ht]
    match l,hne with
    |c::r,_=>
      have hc:Zc s (i:Int)=some (c.toNat:Int):=vA (n:=0) hl rfl;rw [hc];simp only [jf];have key:∀ {X:G4 Bool} {b:Bool},X=some b->(X.bind fun y=>if y=true then some (1:Int) else some 0)=some ((if b then 1 else 0:Nat):Int):=by
        grind
      rw [zvM];refine key ?_
      repeat (first | exact rfl | apply zjO | apply zjP)
theorem zxp (h:n<=255):IntKind.u8.wrap (n:Int)=n:=by
 simp only [G5,IntKind.wrap,IntKind.bits,IntKind.signed];simp;omega
def wM (n:Nat) (g:Bool):List UInt8->Nat×Bool
 |[]=>(n,g)
 |c::r=>let n':=if n<=1099511627776 then n * 10+(c.toNat - 48) else n
  wM n' (if 1099511627776 < n' then true else g) r
theorem zfn:∀ (l:List UInt8) (n:Nat),(wM n true l).2=true
 |[],n=>rfl
 |c::r,n=>by
  unfold wM;simp only [ite_self];exact zfn r _
theorem zly:∀ (l:List UInt8) (n:Nat),n<=1099511627776->if 1099511627776 < Wl n l then (wM n false l).2=true else wM n false l=(Wl n l,false)
 |[],n,h=>by
  rw [js (by show ¬ 1099511627776 < n;omega)];rfl
 |c::r,n,h=>by
  have e:Wl n (c::r)=Wl (n * 10+(c.toNat - 48)) r:=rfl;rw [e];unfold wM;simp only [jr h];by_cases h2:1099511627776 < n * 10+(c.toNat - 48)
  ·have:=zgu r (n * 10+(c.toNat - 48));rw [jr (by omega),jr h2];exact zfn r _
  ·rw [js h2];exact zly r _ (by omega)
abbrev RT:=q9×q9
noncomputable abbrev zgv:=q5p q2h q3g q2z q37
noncomputable abbrev zfo:=q5q q2h q3g q2z q37
theorem zhf (hs:s.size<=16384) (a:Int) (t:RT):∀ (n i:Nat),s.size - i=n->i<=s.size->lpO zgv (s,a,(i:Int),t)=some (s,a,((i+Zj isW ((bs s).drop i):Nat):Int),t)
 |0,i,hn,hi=>by
  have:i=s.size:=by omega
  subst this;rw [Zn];simp [zgv,q5p,G7,Z6,zby]
 |n+1,i,hn,hi=>by
  have hlt:i < s.size:=by omega
  obtain ⟨c,hc,hd⟩:=VH (l:=bs s) (i:=i) (by rw [Z6];exact hlt);rw [Zn];simp only [zgv,q5p,jh];rw [jr (Int.ofNat_lt.2 hlt),Xj hc];simp only [jf,zbF,zcN];rw [hd,yC];have ih:=zhf hs a t n (i+1) (by omega) (by omega);have hw:=xw (n:=i) (by omega);cases hL:isL c with
  |true=>
   simp only [isW,hL,Bool.true_or,Un,jg,jk,jl,jf,hw];grind
  |false=>
   cases hD:isD c with
   |true=>
    simp only [isW,hL,hD,Bool.or_true,Un,U2,jg,jk,jl,jf,hw];grind
   |false=>simp [isW,hL,hD]
theorem zjQ (hs:s.size<=16384) (a:Int) (t:RT):∀ (n i m:Nat) (g:Bool),m<=10995116277769->s.size - i=n->i<=s.size->
    lpO zfo (s,a,(i:Int),(m:Int),g,t)=some (s,a,((i+Zj isD ((bs s).drop i):Nat):Int),((wM m g (((bs s).drop i).take (Zj isD ((bs s).drop i)))).1:Int),(wM m g (((bs s).drop i).take (Zj isD ((bs s).drop i)))).2,t)
  |0,i,m,g,hm,hn,hi=>by
    have:i=s.size:=by omega
    subst this;rw [Zn];simp [zfo,q5q,G7,Z6,zby,wM]
  |n+1,i,m,g,hm,hn,hi=>by
    have hlt:i < s.size:=by omega
    obtain ⟨c,hc,hd⟩:=VH (l:=bs s) (i:=i) (by rw [Z6];exact hlt);rw [Zn];simp only [zfo,q5q,jh];rw [jr (Int.ofNat_lt.2 hlt),Xj hc];simp only [jf,zcN];rw [hd,yC];cases hD:isD c with
    |false=>simp [wM]
    |true=>
      have hD2:=hD;simp only [isD,g9,jh] at hD2;simp only [Un,jg,jk,jl];have e1:G5 (IntKind.u8.wrap ((c.toNat:Int) - 48))=((c.toNat - 48:Nat):Int):=by
        have:((c.toNat:Int) - 48)=((c.toNat - 48:Nat):Int):=by omega
        rw [this,zxp (by omega),zjN (by omega)]
      have e2:G5 (G5 ((m:Int) * 10)+((c.toNat - 48:Nat):Int))=((m * 10+(c.toNat - 48):Nat):Int):=by
        have:((m:Int) * 10)=((m * 10:Nat):Int):=by omega
        rw [this,zjN (by omega),Vh (by omega)]
      rw [e1,e2];have hw:=xw (n:=i) (by omega);have hn':(if m<=1099511627776 then m * 10+(c.toNat - 48) else m)<=10995116277769:=by grind
      have step:∀ (m':Nat),m'<=10995116277769->lpO zfo (s,a,((i+1:Nat):Int),(m':Int),(if 1099511627776 < m' then true else g),t)=some (s,a,((i+(Zj isD ((bs s).drop (i+1))+1):Nat):Int),((wM m' (if 1099511627776 < m' then true else g) (((bs s).drop (i+1)).take (Zj isD ((bs s).drop (i+1))))).1:Int),(wM m' (if 1099511627776 < m' then true else g) (((bs s).drop (i+1)).take (Zj isD ((bs s).drop (i+1))))).2,t):=by
        intro m' hm';refine (zjQ hs a t n (i+1) m' _ hm' (by omega) (by omega)).trans ?_;congr 4;omega
      simp only [List.take_succ_cons,wM];by_cases h40:m<=1099511627776
      · rw [jr (show (m:Int)<=1099511627776 by omega)];simp only [jr h40,jf];rw [<- step _ (by omega)];by_cases hg:1099511627776 < m * 10+(c.toNat - 48)
        ·rw [jr (show (1099511627776:Int) < ((m * 10+(c.toNat - 48):Nat):Int) by omega),jr hg];grind
        ·rw [js (show ¬ (1099511627776:Int) < ((m * 10+(c.toNat - 48):Nat):Int) by omega),js hg];grind
      · rw [js (show ¬ (m:Int)<=1099511627776 by omega)];simp only [js h40,jf];rw [<- step _ hm];have hg:1099511627776 < m:=by omega
        grind
abbrev zvN:q9:=⟨0,lit [],0,0⟩
def rNx (i:Nat) (l:List UInt8):Nx->q9×Int
 | .tok k n v=>(⟨k,lit (l.take n),v,i⟩,0)
 | .err e=>(zvN,e)
 | .skip _=>(zvN,0)
theorem zue {r:List UInt8}(hs:s.size<=16384) (hl:(bs s).drop i=c::r) :
    q4u (s,(i:Int))=some (rNx i (c::r) (if isD c then Xu (c::r) else if isL c then xd (c::r) else xf (c::r))):=by
  obtain ⟨h1,h2⟩:=Wo hl (by simp);have hc:Zc s (i:Int)=some (c.toNat:Int):=vA (n:=0) hl rfl;unfold q4u qao;simp only;rw [hc];simp only [jf,zbF,zcN];by_cases hL:isL c=true
  · have hD:isD c=false:=by
      simp only [isL,GP,g9,jh] at hL;simp only [isD,Bool.and_eq_false_imp,jh,decide_eq_false_iff_not];omega
    rw [jr hL];have hloop:=zhf hs (i:Int) ((⟨0,lit [],0,0⟩,⟨0,lit [],0,(i:Int)⟩):RT) _ i rfl (by omega);rw [hl] at hloop;rw [show lpO (q5p q2h q3g q2z q37) (s,(i:Int),(i:Int),(⟨0,lit [],0,0⟩:q9),(⟨0,lit [],0,(i:Int)⟩:q9))=_ from hloop];simp only [jf];rw [XO hl (by simp) (Xt _ _)];have hlen:((c::r).take (Zj isW (c::r))).length=Zj isW (c::r):=by rw [Ul];have:=Xt isW (c::r);omega
    simp only [jf,X4,hlen,jh,zru];rw [hD];simp only [jg,jk,hL,jl];unfold xd;by_cases h:16 < Zj isW (c::r)
    ·rw [jr (by omega),jr h];rfl
    · rw [js (by omega),js h];by_cases hk:zbB ((c::r).take (Zj isW (c::r)))=true
      ·rw [jr hk,jr hk];rfl
      ·rw [js hk,js hk];rfl
  · rw [js hL];simp only [jf,ji];by_cases hD:isD c=true
    · rw [jr hD,jr hD];have hn:=Xt isD (c::r);have hn1:1<=Zj isD (c::r):=by rw [yC];simp [hD]
      have hloop:=zjQ hs (i:Int) ((⟨0,lit [],0,0⟩,⟨0,lit [],0,(i:Int)⟩):RT) _ i 0 false (by omega) rfl (by omega);rw [hl] at hloop;rw [show lpO (q5q q2h q3g q2z q37) (s,(i:Int),(i:Int),0,false,(⟨0,lit [],0,0⟩:q9),(⟨0,lit [],0,(i:Int)⟩:q9))=_ from hloop];have hnum:=zly ((c::r).take (Zj isD (c::r))) 0 (by omega);have hN:Wl 0 ((c::r).take (Zj isD (c::r)))=YD ((c::r).take (Zj isD (c::r))):=rfl;rw [hN] at hnum;unfold Xu WP;generalize hnr:Zj isD (c::r)=n at *
      generalize hpq:wM 0 false ((c::r).take n)=pq at *
      obtain ⟨p,q⟩:=pq;simp only [jf,jh];have hlast:(if (((i+n:Nat):Int) < (s.size:Int)) then (Zc s ((i+n:Nat):Int)).bind fun y=>(q2h y).bind fun z=>some (s,(i:Int),((i+n:Nat):Int),(p:Int),q,z,((⟨0,lit [],0,0⟩,⟨0,lit [],0,(i:Int)⟩):RT)) else some (s,(i:Int),((i+n:Nat):Int),(p:Int),q,false,(((⟨0,lit [],0,0⟩,⟨0,lit [],0,(i:Int)⟩):RT):RT)))=some (s,(i:Int),((i+n:Nat):Int),(p:Int),q,zbC (c::r)[n]?,(((⟨0,lit [],0,0⟩,⟨0,lit [],0,(i:Int)⟩):RT):RT)):=by
        by_cases hb:i+n < s.size
        · have:n < (c::r).length:=by omega
          have hg:=GJ this;generalize (c::r)[n]=b at hg;rw [vA hl hg,hg];simp only [jf,zbF];rw [jr (Int.ofNat_lt.2 hb)];rfl
        ·have:(c::r)[n]?=none:=List.getElem?_eq_none (by omega);rw [this,js (fun h=>hb (Int.ofNat_lt.1 h))];rfl
      rw [show (if (((i+n:Nat):Int) < (s.size:Int)) then (Zc s ((i+n:Nat):Int)).bind fun y=>(q2h y).bind fun z=>some (s,(i:Int),((i+n:Nat):Int),(p:Int),q,z,((⟨0,lit [],0,0⟩,⟨0,lit [],0,(i:Int)⟩):RT)) else some (s,(i:Int),((i+n:Nat):Int),(p:Int),q,false,(((⟨0,lit [],0,0⟩,⟨0,lit [],0,(i:Int)⟩):RT):RT)))=_ from hlast];simp only [jf,hc];have e1:((i:Int)+1)=((i+1:Nat):Int):=by omega
      have hw:=xw (n:=i) (by omega);by_cases h40:1099511627776 < YD ((c::r).take n)
      ·rw [jr h40] at hnum;simp only at hnum;subst hnum;simp [h40,rNx]
      · rw [js h40] at hnum;simp only [Prod.mk.injEq] at hnum;obtain ⟨hp,hq⟩:=hnum;subst hp hq;simp only [jg,jk];cases hlt:zbC (c::r)[n]? with
        |true=>simp [h40,rNx]
        |false=>
          simp only [jg,jk,hw];have e48:((c.toNat:Int)=48)↔c=48:=by
            constructor
            ·intro h;exact UInt8.toNat_inj.1 (by grind)
            ·intro h;rw [h];rfl
          by_cases h48:c=48
          · rw [jr (e48.2 h48)];simp only [jf];by_cases h1n:1 < n
            · have:((i+1:Nat):Int) < ((i+n:Nat):Int):=by omega
              simp [h40,h1n,h48,this,rNx];grind
            · have:¬ ((i+1:Nat):Int) < ((i+n:Nat):Int):=by omega
              simp only [this,jm,jg,jk,h40,h1n,Bool.false_and,Bool.or_false];rw [XO hl (by simp) hn];rfl
          ·rw [js (fun h=>h48 (e48.1 h))];simp only [jf,jg,jk];rw [XO hl (by simp) hn];simp only [h40,h48,jm,List.head?_cons,Option.some.injEq,Bool.and_false,Bool.or_false,jg,jk];rfl
    · rw [js hD,js hD,js hL];simp only [jf,ji];rw [zrv hs hl (by simp)];simp only [jf,jh];unfold xf;have hle:=zfm (c::r);by_cases h0:Yt (c::r)=0
      ·rw [jr (by omega),jr h0];rfl
      ·rw [js (by omega),js h0,Vh (by omega),XO hl (by simp) hle];rfl
theorem zhg (hs:s.size<=16384) {f:G1×Int->G4 (q9×Int)}(out:Sl q9):∀ (n i:Nat),s.size - i=n->i<=s.size->lpO (q64 f) (s,(i:Int),out)=some (s,((i+Zj wK ((bs s).drop i):Nat):Int),out)
 |0,i,hn,hi=>by
  have:i=s.size:=by omega
  subst this;rw [Zn];simp [q64,G7,Z6,zby]
 |n+1,i,hn,hi=>by
  have hlt:i < s.size:=by omega
  obtain ⟨c,hc,hd⟩:=VH (l:=bs s) (i:=i) (by rw [Z6];exact hlt);rw [Zn];simp only [q64,jh];rw [jr (Int.ofNat_lt.2 hlt),Xj hc];have hw:=xw (n:=i) (by omega);simp only [jf,hw];rw [hd,yC];have e10:((c.toNat:Int)≠10)↔wK c=true:=by simp only [wK,jh];omega
  by_cases h:wK c=true
  ·rw [jr (gc (e10.2 h)),jr h];simp only [jf];refine (zhg hs out n (i+1) (by omega) (by omega)).trans ?_;congr 3;omega
  grind
abbrev toR (t:qn):q9:=⟨t.k_,t.T_,t.N_,t.a_⟩
noncomputable abbrev zdk:=q65 q4u
theorem zvO (hne:l≠[]) {e:Int}(h:nxt l = .err e):e≠0:=by
 match l,hne with
 |c::r,_=>
  unfold nxt at h;simp only at h;split at h
  ·cases h
  ·split at h
   ·cases h
   ·split at h
    ·unfold Xu at h;grind
    ·split at h
     ·unfold xd at h;grind
     ·unfold xf at h;grind
theorem zrw (hs:s.size<=16384) (hl:(bs s).drop i=l) (hne:l≠[]) (out:Sl q9) :
    zdk (s,(i:Int),out)=match nxt l with
      | .skip n=>some (.next (s,((i+n:Nat):Int),out))
      | .err e=>some (.done (.inl ((i:Int),e)))
      | .tok k n v=>(zp 40 out [⟨k,lit (l.take n),v,i⟩]).bind fun o=>some (.next (s,((i+n:Nat):Int),o)):=by
  obtain ⟨h1,h2⟩:=Wo hl hne
  match l,hne with
  |c::r,hne=>
    have hc:Zc s (i:Int)=some (c.toNat:Int):=vA (n:=0) hl rfl;have hpos:=Wn (l:=c::r) (by simp);have herr:=fun e=>zvO (l:=c::r) (by simp) (e:=e)
    simp only [zdk,q65];rw [jr (gc (Int.ofNat_lt.2 h1)),hc];have hw:=xw (n:=i) (by omega);simp only [jf];have e32:((c.toNat:Int)=32)↔c.toNat=32:=by omega
    have e10:((c.toNat:Int)=10)↔c.toNat=10:=by omega
    have e35:((c.toNat:Int)=35)↔c.toNat=35:=by omega
    unfold nxt at hpos herr |-
    simp only at hpos herr |-
    by_cases hb:c.toNat=32\/c.toNat=10
    · rw [jr hb];simp only;rcases hb with hb | hb
      ·grind
      · have:¬ c.toNat=32:=by omega
        rw [js (fun h=>this (e32.1 (Ut h)))];grind
    · rw [js hb] at hpos herr |-
      have n32:¬ c.toNat=32:=fun h=>hb (.inl h)
      have n10:¬ c.toNat=10:=fun h=>hb (.inr h)
      rw [js (fun h=>n32 (e32.1 (Ut h)))];simp only [jf,jh];rw [js (fun h=>n10 (e10.1 h)),hc];simp only [jf];by_cases h35:c.toNat=35
      ·have hsk:=zhg hs (f:=q4u) out _ i rfl (by omega);grind
      · rw [js (fun h=>h35 (e35.1 h))];rw [js h35] at hpos herr |-
        rw [zue hs hl];have hns:∀ n,(if isD c=true then Xu (c::r) else if isL c=true then xd (c::r) else xf (c::r)) ≠.skip n:=by
          intro n h;split at h
          ·unfold Xu at h;grind
          · split at h
            ·unfold xd at h;grind
            ·unfold xf at h;grind
        generalize (if isD c=true then Xu (c::r) else if isL c=true then xd (c::r) else xf (c::r))=x at hpos herr hns;cases x with
        |skip n=>
          grind
        |err e=>
          have:=herr e rfl;simp only [rNx,jf];grind
        |tok k n v=>
          simp only [XG] at hpos;simp only [rNx,jf,Uj,jp,jk,ga,jj];have hz:(lit ((c::r).take n)).size=n:=by rw [X4,Ul];omega
          rw [hz,Vh (by omega)]
theorem zpA (hs:s.size<=16384):∀ (n i:Nat) (acc:List q9) (nn:Bool),s.size - i<=n->i<=s.size->acc.length<=i->
    lpO zdk (s,(i:Int),⟨acc,nn⟩)=some (match Wm i ((bs s).drop i) with
      | .inl x =>.inl ((x.1:Int),x.2)
      | .inr ts =>.inr (s,⟨acc++ts.map toR,nn || !ts.isEmpty⟩)):=by
  intro n
  induction n with
  |zero=>
    intro i acc nn hn hi ha;have:i=s.size:=by omega
    subst this;rw [Zn];have hd:(bs s).drop s.size=[]:=G7 (by rw [Z6];grind);rw [hd,zbD];simp [zdk,q65]
  |succ n ih=>
    intro i acc nn hn hi ha;rcases Nat.lt_or_ge i s.size with hlt | hge
    · have hne:(bs s).drop i≠[]:=by
        intro e;have:=congrArg List.length e;rw [GR,Z6] at this;grind
      have hp:=Wn hne;have hlen:((bs s).drop i).length=s.size - i:=by rw [GR,Z6]
      rw [Zn,zrw hs rfl hne,zcK _ hne];cases hx:nxt ((bs s).drop i) with
      |err e=>rfl
      |skip k=>
        rw [hx] at hp;simp only [XG] at hp;simp only [jf,List.drop_drop];rw [ih (i+k) acc nn (by omega) (by omega) (by omega)]
      |tok k m v=>
        rw [hx] at hp;simp only [XG] at hp;simp only [List.drop_drop];rw [yX (by grind) (by grind)];simp only [jf];rw [ih (i+m) _ _ (by omega) (by omega) (by grind)];grind
    grind
theorem znc (s:G1):q50 s=some ((ZU s).1,(ZU s).2.1,⟨(ZU s).2.2.xs.map toR,(ZU s).2.2.nn⟩):=by
 unfold q50 q91 ZU;simp only [jh];by_cases h:16384 < s.size
 ·grind
 ·rw [js (by omega),js h];have:=zpA (s:=s) (by omega) s.size 0 [] false (by omega) (by omega) (by simp);rw [Ur] at this;rw [show ((s,0,Sl.mk [] false):G1×Int×Sl q9)=(s,((0:Nat):Int),⟨[],false⟩) from rfl,this];cases hx:Wm 0 (bs s) with
  |inl x=>rfl
  |inr ts=>
   have hl:=Vj _ _ _ _ (GL _) hx;rw [Z6] at hl;simp only [jf,ji,Uo,U8];rw [yX (by grind) (by grind)];simp
end Go.Px
