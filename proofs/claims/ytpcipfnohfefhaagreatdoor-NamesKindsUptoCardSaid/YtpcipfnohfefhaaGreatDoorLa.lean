/- Part La: Px01A Px01B Px01C Px01D Px22TE Px22TF. -/
import Derived.Test.YtpcipfnohfefhaaGreatDoorA9
set_option linter.unusedVariables false
set_option linter.unusedSimpArgs false
namespace Go.Px
variable{X:G3 Bool}{b:Bool}{c:UInt8}{i n:Nat}{l:List UInt8}{s:G0}
abbrev bs (s:G0):List UInt8:=s.data.toList
theorem Z7 (s:G0):(bs s).length=s.size:=by cases s;simp [bs,ByteArray.size]
theorem zpe {t:G0}(h:bs s=bs t):s=t:=by
 cases s;cases t;congr 1;exact Array.toList_inj.1 h
theorem XO (l:List UInt8):bs (lit l)=l:=rfl
theorem Zn {s β:Type}(f:s->G3 (Step s β)) (x:s):lpO f x=(f x).bind fun | .next x'=>lpO f x' | .done y=>some y:=zpU f x
theorem Xk (h:(bs s)[i]?=some c):Zb s (i:Int)=some (c.toNat:Int):=by
 unfold Zb;grind
theorem VD (h:i < l.length):∃ c,l[i]?=some c/\l.drop i=c::l.drop (i+1):=
 ⟨l[i],GI h,Uo h⟩
theorem zmV (s:G0) (i j:Nat):bs (s.extract i j)=((bs s).take j).drop i:=by
 show (s.extract i j).data.toList=_;rw [ByteArray.data_extract];simp [Array.toList_extract,List.extract,List.take_drop];by_cases h:i<=j
 ·grind
 ·have h1:j - i=0:=by omega
  rw [h1];simp;omega
theorem zkO {j:Nat}(h1:i<=j) (h2:j<=s.size):ZB s (i:Int) (j:Int)=some (s.extract i j):=by
 unfold ZB;grind
theorem zjC (h:n < 9223372036854775808):G4 (n:Int)=n:=zM (by omega) (by omega)
theorem Va {k:Nat}(h:n+k < 9223372036854775808):G4 ((n:Int)+(k:Int))=((n+k:Nat):Int):=by
 rw [zM (by omega) (by omega)];simp
theorem xx (h:n+1 < 9223372036854775808):G4 ((n:Int)+1)=((n+1:Nat):Int):=by
 rw [zM (by omega) (by omega)];simp
def Zj (p:UInt8->Bool) (l:List UInt8):Nat:=(l.takeWhile p).length
theorem zbt (p:UInt8->Bool):Zj p []=0:=rfl
theorem yD (p:UInt8->Bool) (c:UInt8) (l:List UInt8):Zj p (c::l)=if p c then Zj p l+1 else 0:=by
 unfold Zj;rw [List.takeWhile_cons];split <;> simp
theorem Xu (p:UInt8->Bool):∀ l:List UInt8,Zj p l<=l.length
 |[]=>GJ _
 |c::l=>by rw [yD];split <;> simp;exact Xu p l
def isL (b:UInt8):Bool:=(decide (97<=b.toNat) && decide (b.toNat<=122)) || decide (b.toNat=95)
def isD (b:UInt8):Bool:=decide (48<=b.toNat) && decide (b.toNat<=57)
def isW (b:UInt8):Bool:=isL b || isD b
def wI (b:UInt8):Bool:=decide (b.toNat≠10)
theorem zbu (b:UInt8):q8m (b.toNat:Int)=some (isD b):=by
 simp only [q8m,qgi,isD,jh];split
 ·rename_i h;have:48<=b.toNat:=by omega
  simp [this];omega
 grind
theorem VE (b:UInt8):q70 (b.toNat:Int)=some (isL b):=by
 simp only [q70,qg0,isL,jh];have e1:(97<=(b.toNat:Int))↔97<=b.toNat:=by omega
 have e2:((b.toNat:Int)<=122)↔b.toNat<=122:=by omega
 have e3:((b.toNat:Int)=95)↔b.toNat=95:=by omega
 grind
theorem zpf (b:UInt8):qbn (b.toNat:Int)=some (isW b):=by
 simp only [qbn,qg1,VE,zbu,isW,jf];grind
theorem zrg (b:UInt8):qa7 (b.toNat:Int)=some (wI b):=by
 simp only [qa7,qe9,wI];congr 1;grind
theorem zbv {f:Int->G3 Bool}{p:UInt8->Bool}(hf:∀ c:UInt8,f (c.toNat:Int)=some (p c)) (hs:s.size < 4611686018427387904) :
    ∀ (n i:Nat),s.size - i=n->i<=s.size->lpO (q56 f) (s,(i:Int))=some ((i+Zj p ((bs s).drop i):Nat):Int)
  |0,i,hn,hi=>by
    have:i=s.size:=by omega
    subst this;rw [Zn];simp [q56,G6,Z7,zbt]
  |n+1,i,hn,hi=>by
    have hlt:i < s.size:=by omega
    obtain ⟨c,hc,hd⟩:=VD (l:=bs s) (i:=i) (by rw [Z7];exact hlt);rw [Zn];simp only [q56,jh];rw [jr (Int.ofNat_lt.2 hlt),Xk hc];simp only [jf,hf];rw [hd,yD];cases hp:p c with
    |true=>
      simp only [jl,jf];rw [xx (by omega),zbv hf hs n (i+1) (by omega) (by omega)];grind
    |false=>simp
theorem zpg (hs:s.size < 4611686018427387904) (hi:i<=s.size):qbl (s,(i:Int))=some ((i+Zj isD ((bs s).drop i):Nat):Int):=by
 show (lpO (q56 q8m) (s,(i:Int))).bind some=_;rw [zbv zbu hs _ i rfl hi];rfl
theorem zmW (hs:s.size < 4611686018427387904) (hi:i<=s.size):qan (s,(i:Int))=some ((i+Zj isW ((bs s).drop i):Nat):Int):=by
 show (lpO (q56 qbn) (s,(i:Int))).bind some=_;rw [zbv zpf hs _ i rfl hi];rfl
theorem zph (hs:s.size < 4611686018427387904) (hi:i<=s.size):qa1 (s,(i:Int))=some ((i+Zj wI ((bs s).drop i):Nat):Int):=by
 show (lpO (q56 qa7) (s,(i:Int))).bind some=_;rw [zbv zrg hs _ i rfl hi];rfl
def zbw (l:List UInt8):Bool:=decide (l=[116,121,112,101]) || (decide (l=[102,110]) || (decide (l=[111,119,110]) || (decide (l=[99,101,108,108]) || (decide (l=[99,111,117,110,116,101,100]) || (decide (l=[108,111,99,107]) || (decide (l=[103,117,97,114,100]) || (decide (l=[119,104,101,114,101]) || (decide (l=[105,110,116]) || (decide (l=[109,117,116]) || (decide (l=[102,114,101,101]) || (decide (l=[117,110,108,111,99,107]) || (decide (l=[105,102]) || (decide (l=[101,108,115,101]) || (decide (l=[119,104,105,108,101]) || (decide (l=[114,101,116,117,114,110]) || (decide (l=[97,98,111,114,116]) || (decide (l=[102,111,114,107]) || (decide (l=[110,101,119]) || (decide (l=[97,114,114,97,121]))))))))))))))))))))
theorem zjD {p:Prop}[Decidable p] (h:X=some b):(if decide p=true then some (decide p) else X)=some (decide p || b):=by
 grind
theorem zjE (h:X=some b):(X.bind fun y=>some y)=some b:=by subst h;rfl
theorem ztV (h:X=some b):(X.bind fun y=>if y=true then some true else some false)=some b:=by grind
theorem zlj (s:G0) (l:List UInt8):decide (s=lit l)=decide (bs s=l):=by
 refine decide_eq_decide.2 ⟨fun h=>by rw [h];rfl,fun h=>zpe h⟩
theorem zvu (s:G0):qca s=some (zbw (bs s)):=by
 simp only [qca,qgj,zbw,<- zlj];refine ztV ?_
 repeat (first | exact rfl | apply zjD | apply zjE)
theorem zlk (l:List UInt8):qca (lit l)=some (zbw l):=zvu (lit l)
def Wh (a:Nat):List UInt8->Nat
 |[]=>a
 |c::r=>Wh (a * 10+(c.toNat - 48)) r
def YD (l:List UInt8):Nat:=Wh 0 l
theorem zgo:∀ (l:List UInt8) (a:Nat),a<=Wh a l
 |[],a=>GJ _
 |c::r,a=>GM (by omega) (zgo r _)
def sgn (c:UInt8):Bool:=[123,125,40,41,91,93,44,58,59,61,43,45,38,60].contains c
def two (l:List UInt8):Bool:=decide (l.take 2=[45,62]) || (decide (l.take 2=[60,61]) || decide (l.take 2=[61,61]))
def Yt (l:List UInt8):Nat:=if two l then 2 else match l with
 |[]=>0
 |c::_=>if sgn c then 1 else 0
inductive Nx where
 |skip (n:Nat)
 |tok (k:Int) (n:Nat) (v:Int)
 |err (e:Int)
def zbx:G3 UInt8->Bool
 |some c=>isL c
 |none=>false
def WM (l:List UInt8):Bool:=decide (1099511627776 < YD (l.take (Zj isD l))) || ((decide (1 < Zj isD l) && decide (l.head?=some 48)) || zbx l[Zj isD l]?)
def Xv (l:List UInt8):Nx:=if WM l then .err 12 else .tok 3 (Zj isD l) (YD (l.take (Zj isD l)))
def xf (l:List UInt8):Nx:=if 16 < Zj isW l then .err 13 else .tok (if zbw (l.take (Zj isW l)) then 2 else 1) (Zj isW l) 0
def xg (l:List UInt8):Nx:=if Yt l=0 then .err 11 else .tok 4 (Yt l) 0
def nxt (l:List UInt8):Nx:=match l with
 |[] =>.err 11
 |c::r=>if c.toNat=32\/c.toNat=10 then .skip 1 else if c.toNat=35 then .skip (Zj wI (c::r)) else if isD c then Xv (c::r) else if isL c then xf (c::r) else xg (c::r)
def wJ:Nat->Nat->List UInt8->(Nat×Int)⊕List qn
 |0,_,_ =>.inr []
 |f+1,at_,l=>if l.isEmpty then .inr [] else match nxt l with
  | .skip n=>wJ f (at_+n) (l.drop n)
  | .err e =>.inl (at_,e)
  | .tok k n v=>match wJ f (at_+n) (l.drop n) with
   | .inl x =>.inl x
   | .inr ts =>.inr (⟨k,lit (l.take n),v,at_⟩::ts)
def Wi (at_:Nat) (l:List UInt8):(Nat×Int)⊕List qn:=wJ l.length at_ l
theorem zfg (l:List UInt8):Yt l<=l.length:=by
 unfold Yt;split
 ·rename_i h;unfold two at h
  match l with
  |[]=>simp at h
  |[a]=>simp at h
  |a::b::r=>simp
 grind
def XH (m:Nat):Nx->Prop
 | .skip n=>1<=n/\n<=m
 | .tok _ n _=>1<=n/\n<=m
 | .err _=>True
theorem Wj (h:l≠[]):XH l.length (nxt l):=by
 match l,h with
 |c::r,_=>
  show XH (c::r).length (if c.toNat=32\/c.toNat=10 then .skip 1 else if c.toNat=35 then .skip (Zj wI (c::r)) else if isD c then Xv (c::r) else if isL c then xf (c::r) else xg (c::r));split
  ·exact ⟨by omega,by simp⟩
  ·rename_i h1;split
   ·rename_i h2;refine ⟨?_,Xu _ _⟩;rw [yD];have:wI c=true:=by unfold wI;simp;omega
    simp [this]
   ·split
    ·rename_i hd;unfold Xv;cases WM (c::r) with
     |true=>trivial
     |false=>
      refine ⟨?_,Xu _ _⟩;rw [yD];simp [hd]
    ·split
     ·rename_i hl;unfold xf;split
      ·trivial
      ·refine ⟨?_,Xu _ _⟩;rw [yD];simp [isW,hl]
     ·unfold xg;split
      ·trivial
      ·exact ⟨by omega,zfg _⟩
theorem VF:∀ (f:Nat) (l:List UInt8) (at_:Nat) (g:Nat),l.length<=f->l.length<=g->wJ f at_ l=wJ g at_ l
 |0,l,at_,g,h,hg=>by
  have:l=[]:=GP (by omega);subst this;cases g <;> rfl
 |f+1,l,at_,g,h,hg=>by
  match l with
  |[]=>cases g <;> rfl
  |c::r=>
   match g,hg with
   |g+1,hg=>
    have hp:=Wj (l:=c::r) (by simp);unfold wJ;simp only [List.isEmpty_cons,jg,jk];cases hn:nxt (c::r) with
    |err e=>rfl
    |skip n=>
     rw [hn] at hp;simp only [XH] at hp |-
     exact VF f _ _ g (by grind) (by grind)
    |tok k n v=>
     rw [hn] at hp;simp only [XH] at hp |-
     rw [VF f ((c::r).drop n) _ g (by grind) (by grind)]
theorem zby (at_:Nat):Wi at_ [] = .inr []:=rfl
theorem zcF (at_:Nat) (h:l≠[]):Wi at_ l=match nxt l with
    | .skip n=>Wi (at_+n) (l.drop n)
    | .err e =>.inl (at_,e)
    | .tok k n v=>match Wi (at_+n) (l.drop n) with
      | .inl x =>.inl x
      | .inr ts =>.inr (⟨k,lit (l.take n),v,at_⟩::ts):=by
  match l,h with
  |c::r,_=>
    have hp:=Wj (l:=c::r) (by simp);unfold Wi;show wJ (r.length+1) at_ (c::r)=_;rw [wJ];simp only [List.isEmpty_cons,jg,jk];cases hn:nxt (c::r) with
    |err e=>rfl
    |skip n=>
      rw [hn] at hp;simp only [XH] at hp |-
      exact VF _ _ _ _ (by grind) (GJ _)
    |tok k n v=>
      rw [hn] at hp;simp only [XH] at hp |-
      rw [VF r.length ((c::r).drop n) _ ((c::r).drop n).length (by grind) (GJ _)]
theorem zg8 (p:UInt8->Bool):∀ l:List UInt8,l.take (Zj p l)=l.takeWhile p
 |[]=>rfl
 |c::l=>by
  rw [yD,List.takeWhile_cons];cases p c with
  |true=>simp [zg8 p l]
  |false=>simp
theorem ztW (p:UInt8->Bool) (l:List UInt8):∀ c∈l.take (Zj p l),p c=true:=by
 rw [zg8]
 induction l with
 |nil=>simp
 |cons a l ih=>
  rw [List.takeWhile_cons];grind
theorem Wk (h:(bs s).drop i=l) (hl:l≠[]):i < s.size/\l.length=s.size - i:=by
 subst h;rw [GQ,Z7];refine ⟨?_,rfl⟩;rcases Nat.lt_or_ge i s.size with h | h
 ·exact h
 ·exact absurd (G6 (by rw [Z7];exact h)) hl
theorem XP (h:(bs s).drop i=l) (hl:l≠[]) (hn:n<=l.length):ZB s (i:Int) ((i+n:Nat):Int)=some (lit (l.take n)):=by
 obtain ⟨h1,h2⟩:=Wk h hl;rw [zkO (by omega) (by omega)];congr 1;apply zpe;rw [zmV,XO,<- h,List.take_drop]
theorem vx (h:(bs s).drop i=l) (hc:l[n]?=some c):Zb s ((i+n:Nat):Int)=some (c.toNat:Int):=by
 apply Xk;grind
theorem X3 (l:List UInt8):(lit l).size=l.length:=by rw [<- Z7,XO]
theorem zcG {M:Nat}(hM:M=18446744073709551615):∀ (l:List UInt8) (a:Nat),(∀ c∈l,isD c=true)->a<=M->Lib.parseUintM M a l=if Wh a l<=M then .ok (Wh a l) else .range
 |[],a,_,ha=>by rw [jr (show Wh a []<=M from ha)];rfl
 |c::r,a,h,ha=>by
  have hc:=h c (by simp);simp only [isD,g9,jh] at hc;have hge:=zgo r (a * 10+(c.toNat - 48));have e:Wh a (c::r)=Wh (a * 10+(c.toNat - 48)) r:=rfl;rw [e];unfold Lib.parseUintM;rw [jr hc];split
  ·grind
  ·split
   ·grind
   ·exact zcG hM r _ (fun x hx=>h x (by simp [hx])) (by omega)
theorem zpi (hl:l≠[]) (h:∀ c∈l,isD c=true):Lib.parseIntB 64 l=if YD l < 9223372036854775808 then .ok (YD l:Int) else .range:=by
 match l,hl with
 |c::r,_=>
  have hc:=h c (by simp);simp only [isD,g9,jh] at hc;have e43:¬ (c.toNat=43\/c.toNat=45):=by omega
  have e45:¬ c.toNat=45:=by omega
  unfold Lib.parseIntB Lib.parseUintB;simp only;rw [js e43,js (by simp)];generalize hM:(2 ^ 64 - 1:Nat)=M;generalize hB:(2 ^ (64 - 1):Nat)=B;have hM:M=18446744073709551615:=by rw [<- hM]
  have hB:B=9223372036854775808:=by rw [<- hB]
  rw [zcG hM _ _ h (by omega)];simp only [e45,false_and,jq,GF,jk]
  show (match (if YD (c::r)<=M then Lib.NumEnd.ok (YD (c::r)) else .range) with
   | .syntax=>Lib.NumEnd.syntax
   | .range =>.range
   | .ok u=>if B<=u then .range else .ok (u:Int))=_
  by_cases h1:YD (c::r)<=M
  ·rw [jr h1];simp only;by_cases h2:YD (c::r) < 9223372036854775808
   all_goals grind
  grind
abbrev tk0:qn:=⟨0,lit [],0,0⟩
theorem zpj {r:List UInt8}(hs:s.size<=16384) (hl:(bs s).drop i=c::r) (hd:isD c=true) :
    qbo (s,(i:Int),((i+Zj isD (c::r):Nat):Int))=some (if WM (c::r) then (tk0,12) else (⟨3,lit ((c::r).take (Zj isD (c::r))),(YD ((c::r).take (Zj isD (c::r))):Nat),i⟩,0)):=by
  obtain ⟨h1,h2⟩:=Wk hl (by simp);have hn:=Xu isD (c::r);have hn1:1<=Zj isD (c::r):=by rw [yD];simp [hd]
  generalize hN:Zj isD (c::r)=n at *
  have hall:=ztW isD (c::r);rw [hN] at hall;have hne:(c::r).take n≠[]:=by
    match n,hn1 with
    |n+1,_=>simp
  have hlen:((c::r).take n).length=n:=by grind
  have hhead:((c::r).take n)[0]?=some c:=by
    grind
  have hlast:∀ (X Y:G3 (qn×Int)),(if decide (((i+n:Nat):Int) < (s.size:Int))=true then (Zb s ((i+n:Nat):Int)).bind fun y=>(q70 y).bind fun z=>if z=true then X else Y else Y)=if zbx (c::r)[n]?=true then X else Y:=by
    intro X Y;by_cases hb:i+n < s.size
    · have:n < (c::r).length:=by omega
      have hg:=GI this;generalize (c::r)[n]=b at hg;rw [vx hl hg,hg];simp only [jh,jf,VE];rw [jr (Int.ofNat_lt.2 hb)];rfl
    ·have:(c::r)[n]?=none:=List.getElem?_eq_none (by omega);rw [this];simp only [jh];rw [js (fun h=>hb (Int.ofNat_lt.1 h))];rfl
  unfold qbo qg2;rw [show ((s,(i:Int),((i+n:Nat):Int)):G0×Int×Int).1=s from rfl];simp only;rw [XP hl (by simp) (by omega)];simp only [jf,qbp,XN,GF];rw [jr (by rw [X3,hlen];omega),show (lit ((c::r).take n)).data.toList=(c::r).take n from rfl,zpi hne hall];by_cases hv:YD ((c::r).take n) < 9223372036854775808
  · rw [jr hv];simp only [jf,jj];unfold WM;rw [hN];by_cases h40:1099511627776 < YD ((c::r).take n)
    ·grind
    · simp only [jh];rw [js (by omega),X3,hlen];have hl2:=hlast (some (qn.mk 0 (lit []) 0 0,12)) (some (qn.mk 3 (lit ((c::r).take n)) (YD ((c::r).take n):Nat) i,0));simp only [jh] at hl2;have e0:Zb (lit ((c::r).take n)) 0=some (c.toNat:Int):=Xk (i:=0) hhead;by_cases h1n:1 < n
      · rw [jr (by omega),e0];simp only [jf];by_cases h48:c.toNat=48
        ·rw [jr (by omega)];have:c=48:=UInt8.toNat_inj.1 (by grind);grind
        · rw [js (by omega),hl2];have:¬ c=48:=fun h=>h48 (by rw [h];rfl)
          simp only [h40,h1n,this,jo,jm,List.head?_cons,Option.some.injEq,Bool.and_false,U7];grind
      ·rw [js (by omega),hl2];grind
  ·rw [js hv];simp only [jf,ji];unfold WM;grind
theorem ztX (hs:s.size<=16384) (hl:(bs s).drop i=l) (hne:l≠[]) (hn:n<=l.length) :
    qea (s,(i:Int),((i+n:Nat):Int))=some (if 16 < n then (tk0,13) else (⟨if zbw (l.take n) then 2 else 1,lit (l.take n),0,i⟩,0)):=by
  unfold qea qh0;simp only;rw [XP hl hne hn];have hlen:(l.take n).length=n:=by grind
  simp only [jf,X3,hlen,jh,zlk];by_cases h:16 < n
  ·grind
  ·rw [js (by omega),js h];grind
theorem zcH (l:List UInt8) (a b:UInt8):q6a (lit l,lit [a,b])=some (decide (l.take 2=[a,b])):=by
 show ((q3k (lit l,lit [a,b])).bind fun y=>some y)=_;unfold q3k;simp only [X3,ju,List.length_nil,jh];by_cases h:2<=l.length
 ·rw [jr (by omega)];have:ZB (lit l) 0 ((2:Nat):Int)=some (lit (l.take 2)):=by
   have:=XP (s:=lit l) (i:=0) (n:=2) (l:=l) rfl (by grind) h;grind
  rw [show ((0+1+1:Nat):Int)=((2:Nat):Int) from rfl,this];simp only [jf];congr 1;refine decide_eq_decide.2 ⟨fun h=>?_,fun h=>by rw [h]⟩;have:=congrArg bs h;simpa [XO] using this
 ·rw [js (by omega)];have:l.take 2≠[a,b]:=by
   intro e;have:=congrArg List.length e;grind
  simp [this]
theorem Vb:∀ (l:List UInt8) (c:UInt8),(0<=Lib.indexByte l c)↔l.contains c=true
 |[],c=>by simp [Lib.indexByte]
 |b::l,c=>by
  have ih:=Vb l c;have hg:=Lib.indexByte_ge l c;unfold Lib.indexByte;by_cases h:b=c
  ·subst h;simp
  ·have h':(b == c)=false:=by simpa using h
   have h2:(c == b)=false:=by grind
   simp only [h',jg,jk,List.contains_cons,h2,U7];rw [<- ih];grind
theorem ztY (hne:l≠[]):qge (lit l)=some (lit (l.take (Yt l))):=by
 show (lpO (q9m q6a q6b) (lit l,(lit [45,62],lit [60,61],lit [61,61]),0)).bind _=_;have w1:G4 (0+1)=1:=by decide
 have w2:G4 (1+1)=2:=by decide
 have w3:G4 (2+1)=3:=by decide
 have g0:∀ A B C:G0,WS [A,B,C] 0=some A:=fun _ _ _=>rfl
 have g1:∀ A B C:G0,WS [A,B,C] 1=some B:=fun _ _ _=>rfl
 have g2:∀ A B C:G0,WS [A,B,C] 2=some C:=fun _ _ _=>rfl
 have two_take:two l=true->l.take 2=[45,62]\/l.take 2=[60,61]\/l.take 2=[61,61]:=by
  intro h;simpa [two] using h
 have loop:lpO (q9m q6a q6b) (lit l,(lit [45,62],lit [60,61],lit [61,61]),0)=some (if two l then .inl (lit (l.take 2)) else .inr (lit l)):=by
  rw [Zn];simp only [q9m,zcH,jf,g0,w1];by_cases h1:l.take 2=[45,62]
  ·simp [h1,two]
  ·simp only [h1,jm,jg,jk,jf];rw [show decide ((0:Int) < 3)=true from rfl];simp only [jl,jf];rw [Zn];simp only [q9m,zcH,jf,g1,w2];rw [show decide ((1:Int) < 3)=true from rfl];by_cases h2:l.take 2=[60,61]
   ·simp [h2,two]
   ·simp only [h2,jm,jg,jk,jf,jl];rw [Zn];simp only [q9m,zcH,jf,g2,w3];rw [show decide ((2:Int) < 3)=true from rfl];by_cases h3:l.take 2=[61,61]
    ·simp [h3,two]
    ·simp only [h3,jm,jg,jk,jf,jl];rw [Zn];simp only [q9m];grind
 rw [loop];unfold Yt;by_cases ht:two l=true
 ·grind
 ·rw [js ht,js ht]
  match l,hne with
  |c::r,_=>
   have e0:Zb (lit (c::r)) 0=some (c.toNat:Int):=Xk (i:=0) rfl;have e1:ZB (lit (c::r)) 0 1=some (lit [c]):=by
    have:=XP (s:=lit (c::r)) (i:=0) (n:=1) (l:=c::r) rfl (by simp) (by simp);grind
   simp only [jf,ji];rw [e0,e1];simp only [jf,q6b,wE,Int.toNat_natCast];have hb:(0<=Lib.indexByte (lit [123,125,40,41,91,93,44,58,59,61,43,45,38,60]).data.toList c.toNat.toUInt8)↔sgn c=true:=by
    have:c.toNat.toUInt8=c:=by simp [Nat.toUInt8]
    rw [this];exact Vb _ c
   by_cases hs:sgn c=true
   ·grind
   grind
noncomputable abbrev zbz:=qcx qa1 q8m qbl qbo q70 qan qea qge
theorem zmX (hs:s.size<=16384) (hl:(bs s).drop i=l) (hne:l≠[]) (out:Sl qn) :
    zbz (s,(i:Int),out)=match nxt l with
      | .skip n=>some (.next (s,((i+n:Nat):Int),out))
      | .err e=>some (.done (.inl ((i:Int),e)))
      | .tok k n v=>(zp 40 out [⟨k,lit (l.take n),v,i⟩]).bind fun o=>some (.next (s,((i+n:Nat):Int),o)):=by
  obtain ⟨h1,h2⟩:=Wk hl hne
  match l,hne with
  |c::r,_=>
    have hc:Zb s (i:Int)=some (c.toNat:Int):=vx (n:=0) hl rfl;have hpos:=Wj (l:=c::r) (by simp);simp only [zbz,qcx];rw [jr (gc (Int.ofNat_lt.2 h1)),hc];simp only [jf];have e32:((c.toNat:Int)=32)↔c.toNat=32:=by omega
    have e10:((c.toNat:Int)=10)↔c.toNat=10:=by omega
    have e35:((c.toNat:Int)=35)↔c.toNat=35:=by omega
    have rest:∀ (k:Int) (n:Nat) (v:Int),n<=(c::r).length->(zp 40 out [⟨k,lit ((c::r).take n),v,i⟩]).bind (fun o=>some (Step.next (β:=Int×Int⊕G0×Sl qn) (s,G4 ((i:Int)+((lit ((c::r).take n)).size:Int)),o)))=(zp 40 out [⟨k,lit ((c::r).take n),v,i⟩]).bind fun o=>some (.next (s,((i+n:Nat):Int),o)):=by
      intro k n v hn;have hz:(lit ((c::r).take n)).size=n:=by rw [X3,Uk];omega
      rw [hz,Va (by omega)]
    unfold nxt at hpos |-
    simp only at hpos |-
    by_cases hb:c.toNat=32\/c.toNat=10
    · rw [jr hb];simp only;rcases hb with hb | hb
      ·rw [jr (gc (e32.2 hb))];simp [xx (n:=i) (by omega)]
      · have:¬ c.toNat=32:=by omega
        rw [js (fun h=>this (e32.1 (Us h)))];simp only [jf,jh];rw [jr (e10.2 hb)];simp [xx (n:=i) (by omega)]
    · rw [js hb] at hpos |-
      have n32:¬ c.toNat=32:=fun h=>hb (.inl h)
      have n10:¬ c.toNat=10:=fun h=>hb (.inr h)
      rw [js (fun h=>n32 (e32.1 (Us h)))];simp only [jf,jh];rw [js (fun h=>n10 (e10.1 h))];by_cases h35:c.toNat=35
      ·rw [jr (e35.2 h35),jr h35,zph (by omega) (by omega),hl];simp
      · rw [js (fun h=>h35 (e35.1 h))];rw [js h35] at hpos |-
        simp only [zbu,VE,jf];by_cases hd:isD c=true
        · rw [jr hd] at hpos;rw [jr hd,jr hd,zpg (by omega) (by omega),hl];simp only [jf];rw [zpj hs hl hd];unfold Xv at hpos |-
          by_cases hbad:WM (c::r)=true
          ·grind
          ·rw [js hbad] at hpos;rw [js hbad,js hbad];simp only [XH] at hpos;simp only [jf,ji,Ui,jp,jk,ga,jj];grind
        · rw [js hd] at hpos;rw [js hd,js hd];by_cases hL:isL c=true
          · rw [jr hL] at hpos;rw [jr hL,jr hL,zmW (by omega) (by omega),hl];simp only [jf];rw [ztX hs hl (by simp) (Xu _ _)];unfold xf at hpos |-
            by_cases h16:16 < Zj isW (c::r)
            ·grind
            ·rw [js h16] at hpos;rw [js h16,js h16];simp only [XH] at hpos;simp only [jf,ji,Ui,jp,jk,ga,jj];grind
          · rw [js hL] at hpos;rw [js hL,js hL];have hcut:ZB s (i:Int) (s.size:Int)=some (lit (c::r)):=by
              have:=XP (n:=(c::r).length) hl (by simp) (GJ _);grind
            rw [hcut];simp only [jf];rw [ztY (by simp)];simp only [jf,jh];unfold xg at hpos |-
            by_cases h0:Yt (c::r)=0
            ·grind
            · rw [js h0] at hpos;have hx:¬ lit ((c::r).take (Yt (c::r)))=lit []:=by
                intro e;have:=congrArg (fun x=>(bs x).length) e;simp only [XO] at this;grind
              rw [js h0,js hx];simp only [XH] at hpos;simp only [jf,ji,Ui,jp,jk,ga,jj];grind
theorem zrh (hs:s.size<=16384):∀ (n i:Nat) (acc:List qn) (nn:Bool),s.size - i<=n->i<=s.size->acc.length<=i->
    lpO zbz (s,(i:Int),⟨acc,nn⟩)=some (match Wi i ((bs s).drop i) with
      | .inl x =>.inl ((x.1:Int),x.2)
      | .inr ts =>.inr (s,⟨acc++ts,nn || !ts.isEmpty⟩)):=by
  intro n
  induction n with
  |zero=>
    intro i acc nn hn hi ha;have:i=s.size:=by omega
    subst this;rw [Zn];have hd:(bs s).drop s.size=[]:=G6 (by rw [Z7];grind);rw [hd,zby];simp [zbz,qcx]
  |succ n ih=>
    intro i acc nn hn hi ha;rcases Nat.lt_or_ge i s.size with hlt | hge
    · have hne:(bs s).drop i≠[]:=by
        intro e;have:=congrArg List.length e;rw [GQ,Z7] at this;grind
      have hp:=Wj hne;have hlen:((bs s).drop i).length=s.size - i:=by rw [GQ,Z7]
      rw [Zn,zmX hs rfl hne,zcF _ hne];cases hx:nxt ((bs s).drop i) with
      |err e=>rfl
      |skip k=>
        rw [hx] at hp;simp only [XH] at hp;simp only [jf,List.drop_drop];rw [ih (i+k) acc nn (by omega) (by omega) (by omega)]
      |tok k m v=>
        rw [hx] at hp;simp only [XH] at hp;simp only [List.drop_drop];rw [yY (by grind) (by grind)];simp only [jf];rw [ih (i+m) _ _ (by omega) (by omega) (by grind)];grind
    grind
def ZU (s:G0):Int×Int×Sl qn:=if 16384 < s.size then (0,10,⟨[],false⟩) else match Wi 0 (bs s) with
 | .inl x=>((x.1:Int),x.2,⟨[],false⟩)
 | .inr ts=>(0,0,⟨ts++[⟨0,lit [],0,s.size⟩],true⟩)
theorem Ve:∀ (m:Nat) (l:List UInt8) (i:Nat) (ts:List qn),l.length<=m->Wi i l = .inr ts->ts.length<=l.length
 |0,l,i,ts,hm,h=>by
  have:l=[]:=GP (by omega);subst this;rw [zby] at h;cases h;simp
 |m+1,l,i,ts,hm,h=>by
  by_cases hne:l=[]
  ·subst hne;rw [zby] at h;cases h;simp
  ·have hp:=Wj hne;rw [zcF _ hne] at h;cases hx:nxt l with
   |err e=>grind
   |skip k=>
    rw [hx] at h hp;simp only [XH] at hp;have:=Ve m _ _ _ (by grind) h;grind
   |tok k n v=>
    rw [hx] at h hp;simp only [XH] at hp;simp only at h;cases hr:Wi (i+n) (l.drop n) with
    |inl x=>grind
    |inr us=>
     rw [hr] at h;cases h;have:=Ve m _ _ _ (by grind) hr;grind
theorem zpk (s:G0):qa8 s=some (ZU s):=by
 unfold qa8 qg3 ZU;simp only [jh];by_cases h:16384 < s.size
 ·grind
 ·rw [js (by omega),js h];have:=zrh (s:=s) (by omega) s.size 0 [] false (by omega) (by omega) (by simp);rw [Uq] at this;rw [show ((s,0,Sl.mk [] false):G0×Int×Sl qn)=(s,((0:Nat):Int),⟨[],false⟩) from rfl,this];cases hx:Wi 0 (bs s) with
  |inl x=>rfl
  |inr ts=>
   have hl:=Ve _ _ _ _ (GJ _) hx;rw [Z7] at hl;simp only [jf,ji,Un,U7];rw [yY (by grind) (by grind)];simp
theorem zbA (b:UInt8):q2h (b.toNat:Int)=some (isL b):=VE b
theorem zcI (b:UInt8):q3g (b.toNat:Int)=some (isD b):=zbu b
theorem zri (l:List UInt8):q2z (lit l)=some (zbw l):=zlk l
theorem ztZ (c:UInt8) (k:Nat) (hk:k < 256):decide ((c.toNat:Int)=(k:Int))=decide (c=UInt8.ofNat k):=by
 refine decide_eq_decide.2 ⟨fun h=>UInt8.toNat_inj.1 ?_,fun h=>?_⟩
 ·rw [UInt8.toNat_ofNat_of_lt' (by grind)];omega
 ·rw [h,UInt8.toNat_ofNat_of_lt' (by grind)]
theorem zvv (c:UInt8):sgn c=(decide ((c.toNat:Int)=123) || (decide ((c.toNat:Int)=125) || (decide ((c.toNat:Int)=40) || (decide ((c.toNat:Int)=41) || (decide ((c.toNat:Int)=91) || (decide ((c.toNat:Int)=93) || (decide ((c.toNat:Int)=44) || (decide ((c.toNat:Int)=58) || (decide ((c.toNat:Int)=59) || (decide ((c.toNat:Int)=61) || (decide ((c.toNat:Int)=43) || (decide ((c.toNat:Int)=45) || (decide ((c.toNat:Int)=38) || decide ((c.toNat:Int)=60)))))))))))))):=by
 have h:∀ k:Nat,k < 256->decide ((c.toNat:Int)=(k:Int))=(c == UInt8.ofNat k):=fun k hk=>by rw [ztZ c k hk];rfl
 have:=h 123 (by omega);have h2:=h 125 (by omega);have h3:=h 40 (by omega);have h4:=h 41 (by omega);have h5:=h 91 (by omega);have h6:=h 93 (by omega);have h7:=h 44 (by omega);have h8:=h 58 (by omega);have h9:=h 59 (by omega);have h10:=h 61 (by omega);have h11:=h 43 (by omega);have h12:=h 45 (by omega);have h13:=h 38 (by omega);have h14:=h 60 (by omega);simp only [Int.cast_ofNat_Int] at *
 simp only [sgn,List.contains_cons,List.contains_nil,Bool.or_false];grind
theorem zpl (h:l.length < 2):two l=false:=by
 have:∀ a b:UInt8,¬ l.take 2=[a,b]:=by
  intro a b e;have:=congrArg List.length e;grind
 simp [two,this]
theorem zrj (hs:s.size<=16384) (hl:(bs s).drop i=l) (hne:l≠[]):q37 (s,(i:Int))=some (Yt l:Int):=by
  obtain ⟨h1,h2⟩:=Wk hl hne;unfold q37 qa9;simp only;rw [xx (by omega)];have e2:G4 ((i:Int)+2)=((i+2:Nat):Int):=Va (k:=2) (by omega);rw [e2]
  have first:((if decide (((i+1:Nat):Int) < (s.size:Int))=true then
        (ZB s (i:Int) ((i+2:Nat):Int)).bind fun y0=>some (s,(i:Int),y0) else some (s,(i:Int),lit [])).bind fun (y1:G0×Int×G0)=>(if decide (y1.2.2=lit [45,62])=true then some (y1.1,y1.2.1,true) else if decide (y1.2.2=lit [60,61])=true then some (y1.1,y1.2.1,true) else some (y1.1,y1.2.1,decide (y1.2.2=lit [61,61]))))=some (s,(i:Int),two l):=by
    by_cases h:i+1 < s.size
    · rw [jr (gc (Int.ofNat_lt.2 h)),XP hl hne (by omega)];simp only [jf,zlj,XO,two];by_cases a:l.take 2=[45,62]
      ·simp [a]
      · by_cases b:l.take 2=[60,61]
        ·simp [b]
        ·simp only [a,b,jm,jg,jk,jf,U7];rfl
    · rw [js (fun x=>h (Int.ofNat_lt.1 (Us x)))];rw [zpl (by omega)];have:∀ a b:UInt8,lit []≠lit [a,b]:=fun a b e=>by have:=congrArg bs e;simp [XO] at this
      simp [this]
  rw [<- ga,first];simp only [jf];unfold Yt;by_cases ht:two l=true
  ·grind
  · rw [js ht,js ht]
    match l,hne with
    |c::r,_=>
      have hc:Zb s (i:Int)=some (c.toNat:Int):=vx (n:=0) hl rfl;rw [hc];simp only [jf];have key:∀ {X:G3 Bool} {b:Bool},X=some b->(X.bind fun y=>if y=true then some (1:Int) else some 0)=some ((if b then 1 else 0:Nat):Int):=by
        grind
      rw [zvv];refine key ?_
      repeat (first | exact rfl | apply zjD | apply zjE)
theorem zw4 (h:n<=255):IntKind.u8.wrap (n:Int)=n:=by
 simp only [G4,IntKind.wrap,IntKind.bits,IntKind.signed];simp;omega
def wK (n:Nat) (g:Bool):List UInt8->Nat×Bool
 |[]=>(n,g)
 |c::r=>let n':=if n<=1099511627776 then n * 10+(c.toNat - 48) else n
  wK n' (if 1099511627776 < n' then true else g) r
theorem zfh:∀ (l:List UInt8) (n:Nat),(wK n true l).2=true
 |[],n=>rfl
 |c::r,n=>by
  unfold wK;simp only [ite_self];exact zfh r _
theorem zll:∀ (l:List UInt8) (n:Nat),n<=1099511627776->if 1099511627776 < Wh n l then (wK n false l).2=true else wK n false l=(Wh n l,false)
 |[],n,h=>by
  rw [js (by show ¬ 1099511627776 < n;omega)];rfl
 |c::r,n,h=>by
  have e:Wh n (c::r)=Wh (n * 10+(c.toNat - 48)) r:=rfl;rw [e];unfold wK;simp only [jr h];by_cases h2:1099511627776 < n * 10+(c.toNat - 48)
  ·have:=zgo r (n * 10+(c.toNat - 48));rw [jr (by omega),jr h2];exact zfh r _
  ·rw [js h2];exact zll r _ (by omega)
abbrev RT:=q9×q9
noncomputable abbrev zgp:=q5p q2h q3g q2z q37
noncomputable abbrev zfi:=q5q q2h q3g q2z q37
theorem zg9 (hs:s.size<=16384) (a:Int) (t:RT):∀ (n i:Nat),s.size - i=n->i<=s.size->lpO zgp (s,a,(i:Int),t)=some (s,a,((i+Zj isW ((bs s).drop i):Nat):Int),t)
 |0,i,hn,hi=>by
  have:i=s.size:=by omega
  subst this;rw [Zn];simp [zgp,q5p,G6,Z7,zbt]
 |n+1,i,hn,hi=>by
  have hlt:i < s.size:=by omega
  obtain ⟨c,hc,hd⟩:=VD (l:=bs s) (i:=i) (by rw [Z7];exact hlt);rw [Zn];simp only [zgp,q5p,jh];rw [jr (Int.ofNat_lt.2 hlt),Xk hc];simp only [jf,zbA,zcI];rw [hd,yD];have ih:=zg9 hs a t n (i+1) (by omega) (by omega);have hw:=xx (n:=i) (by omega);cases hL:isL c with
  |true=>
   simp only [isW,hL,Bool.true_or,Um,jg,jk,jl,jf,hw];grind
  |false=>
   cases hD:isD c with
   |true=>
    simp only [isW,hL,hD,Bool.or_true,Um,U1,jg,jk,jl,jf,hw];grind
   |false=>simp [isW,hL,hD]
theorem zjF (hs:s.size<=16384) (a:Int) (t:RT):∀ (n i m:Nat) (g:Bool),m<=10995116277769->s.size - i=n->i<=s.size->
    lpO zfi (s,a,(i:Int),(m:Int),g,t)=some (s,a,((i+Zj isD ((bs s).drop i):Nat):Int),((wK m g (((bs s).drop i).take (Zj isD ((bs s).drop i)))).1:Int),(wK m g (((bs s).drop i).take (Zj isD ((bs s).drop i)))).2,t)
  |0,i,m,g,hm,hn,hi=>by
    have:i=s.size:=by omega
    subst this;rw [Zn];simp [zfi,q5q,G6,Z7,zbt,wK]
  |n+1,i,m,g,hm,hn,hi=>by
    have hlt:i < s.size:=by omega
    obtain ⟨c,hc,hd⟩:=VD (l:=bs s) (i:=i) (by rw [Z7];exact hlt);rw [Zn];simp only [zfi,q5q,jh];rw [jr (Int.ofNat_lt.2 hlt),Xk hc];simp only [jf,zcI];rw [hd,yD];cases hD:isD c with
    |false=>simp [wK]
    |true=>
      have hD2:=hD;simp only [isD,g9,jh] at hD2;simp only [Um,jg,jk,jl];have e1:G4 (IntKind.u8.wrap ((c.toNat:Int) - 48))=((c.toNat - 48:Nat):Int):=by
        have:((c.toNat:Int) - 48)=((c.toNat - 48:Nat):Int):=by omega
        rw [this,zw4 (by omega),zjC (by omega)]
      have e2:G4 (G4 ((m:Int) * 10)+((c.toNat - 48:Nat):Int))=((m * 10+(c.toNat - 48):Nat):Int):=by
        have:((m:Int) * 10)=((m * 10:Nat):Int):=by omega
        rw [this,zjC (by omega),Va (by omega)]
      rw [e1,e2];have hw:=xx (n:=i) (by omega);have hn':(if m<=1099511627776 then m * 10+(c.toNat - 48) else m)<=10995116277769:=by grind
      have step:∀ (m':Nat),m'<=10995116277769->lpO zfi (s,a,((i+1:Nat):Int),(m':Int),(if 1099511627776 < m' then true else g),t)=some (s,a,((i+(Zj isD ((bs s).drop (i+1))+1):Nat):Int),((wK m' (if 1099511627776 < m' then true else g) (((bs s).drop (i+1)).take (Zj isD ((bs s).drop (i+1))))).1:Int),(wK m' (if 1099511627776 < m' then true else g) (((bs s).drop (i+1)).take (Zj isD ((bs s).drop (i+1))))).2,t):=by
        intro m' hm';refine (zjF hs a t n (i+1) m' _ hm' (by omega) (by omega)).trans ?_;congr 4;omega
      simp only [List.take_succ_cons,wK];by_cases h40:m<=1099511627776
      · rw [jr (show (m:Int)<=1099511627776 by omega)];simp only [jr h40,jf];rw [<- step _ (by omega)];by_cases hg:1099511627776 < m * 10+(c.toNat - 48)
        ·rw [jr (show (1099511627776:Int) < ((m * 10+(c.toNat - 48):Nat):Int) by omega),jr hg];grind
        ·rw [js (show ¬ (1099511627776:Int) < ((m * 10+(c.toNat - 48):Nat):Int) by omega),js hg];grind
      · rw [js (show ¬ (m:Int)<=1099511627776 by omega)];simp only [js h40,jf];rw [<- step _ hm];have hg:1099511627776 < m:=by omega
        grind
abbrev zvw:q9:=⟨0,lit [],0,0⟩
def rNx (i:Nat) (l:List UInt8):Nx->q9×Int
 | .tok k n v=>(⟨k,lit (l.take n),v,i⟩,0)
 | .err e=>(zvw,e)
 | .skip _=>(zvw,0)
theorem zt0 {r:List UInt8}(hs:s.size<=16384) (hl:(bs s).drop i=c::r) :
    q4u (s,(i:Int))=some (rNx i (c::r) (if isD c then Xv (c::r) else if isL c then xf (c::r) else xg (c::r))):=by
  obtain ⟨h1,h2⟩:=Wk hl (by simp);have hc:Zb s (i:Int)=some (c.toNat:Int):=vx (n:=0) hl rfl;unfold q4u qao;simp only;rw [hc];simp only [jf,zbA,zcI];by_cases hL:isL c=true
  · have hD:isD c=false:=by
      simp only [isL,GO,g9,jh] at hL;simp only [isD,Bool.and_eq_false_imp,jh,decide_eq_false_iff_not];omega
    rw [jr hL];have hloop:=zg9 hs (i:Int) ((⟨0,lit [],0,0⟩,⟨0,lit [],0,(i:Int)⟩):RT) _ i rfl (by omega);rw [hl] at hloop;rw [show lpO (q5p q2h q3g q2z q37) (s,(i:Int),(i:Int),(⟨0,lit [],0,0⟩:q9),(⟨0,lit [],0,(i:Int)⟩:q9))=_ from hloop];simp only [jf];rw [XP hl (by simp) (Xu _ _)];have hlen:((c::r).take (Zj isW (c::r))).length=Zj isW (c::r):=by rw [Uk];have:=Xu isW (c::r);omega
    simp only [jf,X3,hlen,jh,zri];rw [hD];simp only [jg,jk,hL,jl];unfold xf;by_cases h:16 < Zj isW (c::r)
    ·rw [jr (by omega),jr h];rfl
    · rw [js (by omega),js h];by_cases hk:zbw ((c::r).take (Zj isW (c::r)))=true
      ·rw [jr hk,jr hk];rfl
      ·rw [js hk,js hk];rfl
  · rw [js hL];simp only [jf,ji];by_cases hD:isD c=true
    · rw [jr hD,jr hD];have hn:=Xu isD (c::r);have hn1:1<=Zj isD (c::r):=by rw [yD];simp [hD]
      have hloop:=zjF hs (i:Int) ((⟨0,lit [],0,0⟩,⟨0,lit [],0,(i:Int)⟩):RT) _ i 0 false (by omega) rfl (by omega);rw [hl] at hloop;rw [show lpO (q5q q2h q3g q2z q37) (s,(i:Int),(i:Int),0,false,(⟨0,lit [],0,0⟩:q9),(⟨0,lit [],0,(i:Int)⟩:q9))=_ from hloop];have hnum:=zll ((c::r).take (Zj isD (c::r))) 0 (by omega);have hN:Wh 0 ((c::r).take (Zj isD (c::r)))=YD ((c::r).take (Zj isD (c::r))):=rfl;rw [hN] at hnum;unfold Xv WM;generalize hnr:Zj isD (c::r)=n at *
      generalize hpq:wK 0 false ((c::r).take n)=pq at *
      obtain ⟨p,q⟩:=pq;simp only [jf,jh];have hlast:(if (((i+n:Nat):Int) < (s.size:Int)) then (Zb s ((i+n:Nat):Int)).bind fun y=>(q2h y).bind fun z=>some (s,(i:Int),((i+n:Nat):Int),(p:Int),q,z,((⟨0,lit [],0,0⟩,⟨0,lit [],0,(i:Int)⟩):RT)) else some (s,(i:Int),((i+n:Nat):Int),(p:Int),q,false,(((⟨0,lit [],0,0⟩,⟨0,lit [],0,(i:Int)⟩):RT):RT)))=some (s,(i:Int),((i+n:Nat):Int),(p:Int),q,zbx (c::r)[n]?,(((⟨0,lit [],0,0⟩,⟨0,lit [],0,(i:Int)⟩):RT):RT)):=by
        by_cases hb:i+n < s.size
        · have:n < (c::r).length:=by omega
          have hg:=GI this;generalize (c::r)[n]=b at hg;rw [vx hl hg,hg];simp only [jf,zbA];rw [jr (Int.ofNat_lt.2 hb)];rfl
        ·have:(c::r)[n]?=none:=List.getElem?_eq_none (by omega);rw [this,js (fun h=>hb (Int.ofNat_lt.1 h))];rfl
      rw [show (if (((i+n:Nat):Int) < (s.size:Int)) then (Zb s ((i+n:Nat):Int)).bind fun y=>(q2h y).bind fun z=>some (s,(i:Int),((i+n:Nat):Int),(p:Int),q,z,((⟨0,lit [],0,0⟩,⟨0,lit [],0,(i:Int)⟩):RT)) else some (s,(i:Int),((i+n:Nat):Int),(p:Int),q,false,(((⟨0,lit [],0,0⟩,⟨0,lit [],0,(i:Int)⟩):RT):RT)))=_ from hlast];simp only [jf,hc];have e1:((i:Int)+1)=((i+1:Nat):Int):=by omega
      have hw:=xx (n:=i) (by omega);by_cases h40:1099511627776 < YD ((c::r).take n)
      ·rw [jr h40] at hnum;simp only at hnum;subst hnum;simp [h40,rNx]
      · rw [js h40] at hnum;simp only [Prod.mk.injEq] at hnum;obtain ⟨hp,hq⟩:=hnum;subst hp hq;simp only [jg,jk];cases hlt:zbx (c::r)[n]? with
        |true=>simp [h40,rNx]
        |false=>
          simp only [jg,jk,hw];have e48:((c.toNat:Int)=48)↔c=48:=by
            constructor
            ·intro h;exact UInt8.toNat_inj.1 (by grind)
            ·intro h;rw [h];rfl
          by_cases h48:c=48
          · rw [jr (e48.2 h48)];simp only [jf];by_cases h1n:1 < n
            · have:((i+1:Nat):Int) < ((i+n:Nat):Int):=by omega
              simp [h40,h1n,h48,this,rNx];grind
            · have:¬ ((i+1:Nat):Int) < ((i+n:Nat):Int):=by omega
              simp only [this,jm,jg,jk,h40,h1n,Bool.false_and,Bool.or_false];rw [XP hl (by simp) hn];rfl
          ·rw [js (fun h=>h48 (e48.1 h))];simp only [jf,jg,jk];rw [XP hl (by simp) hn];simp only [h40,h48,jm,List.head?_cons,Option.some.injEq,Bool.and_false,Bool.or_false,jg,jk];rfl
    · rw [js hD,js hD,js hL];simp only [jf,ji];rw [zrj hs hl (by simp)];simp only [jf,jh];unfold xg;have hle:=zfg (c::r);by_cases h0:Yt (c::r)=0
      ·rw [jr (by omega),jr h0];rfl
      ·rw [js (by omega),js h0,Va (by omega),XP hl (by simp) hle];rfl
theorem zha (hs:s.size<=16384) {f:G0×Int->G3 (q9×Int)}(out:Sl q9):∀ (n i:Nat),s.size - i=n->i<=s.size->lpO (q64 f) (s,(i:Int),out)=some (s,((i+Zj wI ((bs s).drop i):Nat):Int),out)
 |0,i,hn,hi=>by
  have:i=s.size:=by omega
  subst this;rw [Zn];simp [q64,G6,Z7,zbt]
 |n+1,i,hn,hi=>by
  have hlt:i < s.size:=by omega
  obtain ⟨c,hc,hd⟩:=VD (l:=bs s) (i:=i) (by rw [Z7];exact hlt);rw [Zn];simp only [q64,jh];rw [jr (Int.ofNat_lt.2 hlt),Xk hc];have hw:=xx (n:=i) (by omega);simp only [jf,hw];rw [hd,yD];have e10:((c.toNat:Int)≠10)↔wI c=true:=by simp only [wI,jh];omega
  by_cases h:wI c=true
  ·rw [jr (gc (e10.2 h)),jr h];simp only [jf];refine (zha hs out n (i+1) (by omega) (by omega)).trans ?_;congr 3;omega
  grind
abbrev toR (t:qn):q9:=⟨t.k_,t.T_,t.n_,t.a_⟩
noncomputable abbrev zdg:=q65 q4u
theorem zvx (hne:l≠[]) {e:Int}(h:nxt l = .err e):e≠0:=by
 match l,hne with
 |c::r,_=>
  unfold nxt at h;simp only at h;split at h
  ·cases h
  ·split at h
   ·cases h
   ·split at h
    ·unfold Xv at h;grind
    ·split at h
     ·unfold xf at h;grind
     ·unfold xg at h;grind
theorem zrk (hs:s.size<=16384) (hl:(bs s).drop i=l) (hne:l≠[]) (out:Sl q9) :
    zdg (s,(i:Int),out)=match nxt l with
      | .skip n=>some (.next (s,((i+n:Nat):Int),out))
      | .err e=>some (.done (.inl ((i:Int),e)))
      | .tok k n v=>(zp 40 out [⟨k,lit (l.take n),v,i⟩]).bind fun o=>some (.next (s,((i+n:Nat):Int),o)):=by
  obtain ⟨h1,h2⟩:=Wk hl hne
  match l,hne with
  |c::r,hne=>
    have hc:Zb s (i:Int)=some (c.toNat:Int):=vx (n:=0) hl rfl;have hpos:=Wj (l:=c::r) (by simp);have herr:=fun e=>zvx (l:=c::r) (by simp) (e:=e)
    simp only [zdg,q65];rw [jr (gc (Int.ofNat_lt.2 h1)),hc];have hw:=xx (n:=i) (by omega);simp only [jf];have e32:((c.toNat:Int)=32)↔c.toNat=32:=by omega
    have e10:((c.toNat:Int)=10)↔c.toNat=10:=by omega
    have e35:((c.toNat:Int)=35)↔c.toNat=35:=by omega
    unfold nxt at hpos herr |-
    simp only at hpos herr |-
    by_cases hb:c.toNat=32\/c.toNat=10
    · rw [jr hb];simp only;rcases hb with hb | hb
      ·grind
      · have:¬ c.toNat=32:=by omega
        rw [js (fun h=>this (e32.1 (Us h)))];grind
    · rw [js hb] at hpos herr |-
      have n32:¬ c.toNat=32:=fun h=>hb (.inl h)
      have n10:¬ c.toNat=10:=fun h=>hb (.inr h)
      rw [js (fun h=>n32 (e32.1 (Us h)))];simp only [jf,jh];rw [js (fun h=>n10 (e10.1 h)),hc];simp only [jf];by_cases h35:c.toNat=35
      ·have hsk:=zha hs (f:=q4u) out _ i rfl (by omega);grind
      · rw [js (fun h=>h35 (e35.1 h))];rw [js h35] at hpos herr |-
        rw [zt0 hs hl];have hns:∀ n,(if isD c=true then Xv (c::r) else if isL c=true then xf (c::r) else xg (c::r)) ≠.skip n:=by
          intro n h;split at h
          ·unfold Xv at h;grind
          · split at h
            ·unfold xf at h;grind
            ·unfold xg at h;grind
        generalize (if isD c=true then Xv (c::r) else if isL c=true then xf (c::r) else xg (c::r))=x at hpos herr hns;cases x with
        |skip n=>
          grind
        |err e=>
          have:=herr e rfl;simp only [rNx,jf];grind
        |tok k n v=>
          simp only [XH] at hpos;simp only [rNx,jf,Ui,jp,jk,ga,jj];have hz:(lit ((c::r).take n)).size=n:=by rw [X3,Uk];omega
          rw [hz,Va (by omega)]
theorem zpm (hs:s.size<=16384):∀ (n i:Nat) (acc:List q9) (nn:Bool),s.size - i<=n->i<=s.size->acc.length<=i->
    lpO zdg (s,(i:Int),⟨acc,nn⟩)=some (match Wi i ((bs s).drop i) with
      | .inl x =>.inl ((x.1:Int),x.2)
      | .inr ts =>.inr (s,⟨acc++ts.map toR,nn || !ts.isEmpty⟩)):=by
  intro n
  induction n with
  |zero=>
    intro i acc nn hn hi ha;have:i=s.size:=by omega
    subst this;rw [Zn];have hd:(bs s).drop s.size=[]:=G6 (by rw [Z7];grind);rw [hd,zby];simp [zdg,q65]
  |succ n ih=>
    intro i acc nn hn hi ha;rcases Nat.lt_or_ge i s.size with hlt | hge
    · have hne:(bs s).drop i≠[]:=by
        intro e;have:=congrArg List.length e;rw [GQ,Z7] at this;grind
      have hp:=Wj hne;have hlen:((bs s).drop i).length=s.size - i:=by rw [GQ,Z7]
      rw [Zn,zrk hs rfl hne,zcF _ hne];cases hx:nxt ((bs s).drop i) with
      |err e=>rfl
      |skip k=>
        rw [hx] at hp;simp only [XH] at hp;simp only [jf,List.drop_drop];rw [ih (i+k) acc nn (by omega) (by omega) (by omega)]
      |tok k m v=>
        rw [hx] at hp;simp only [XH] at hp;simp only [List.drop_drop];rw [yY (by grind) (by grind)];simp only [jf];rw [ih (i+m) _ _ (by omega) (by omega) (by grind)];grind
    grind
theorem zmY (s:G0):q50 s=some ((ZU s).1,(ZU s).2.1,⟨(ZU s).2.2.xs.map toR,(ZU s).2.2.nn⟩):=by
 unfold q50 q91 ZU;simp only [jh];by_cases h:16384 < s.size
 ·grind
 ·rw [js (by omega),js h];have:=zpm (s:=s) (by omega) s.size 0 [] false (by omega) (by omega) (by simp);rw [Uq] at this;rw [show ((s,0,Sl.mk [] false):G0×Int×Sl q9)=(s,((0:Nat):Int),⟨[],false⟩) from rfl,this];cases hx:Wi 0 (bs s) with
  |inl x=>rfl
  |inr ts=>
   have hl:=Ve _ _ _ _ (GJ _) hx;rw [Z7] at hl;simp only [jf,ji,Un,U7];rw [yY (by grind) (by grind)];simp
end Go.Px
