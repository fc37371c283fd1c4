/- Part La. -/
import Derived.Test.YtepembddmcabhaaGreatDoorA9
set_option linter.unusedVariables false
set_option linter.unusedSimpArgs false
namespace Go.Px
variable{X:Uc Bool}{b:Bool}{c:UInt8}{i n:Nat}{l:List UInt8}{s:Ua}
abbrev bs (s:Ua):List UInt8:=s.data.toList
theorem yc (s:Ua):(bs s).length=s.size:=by cases s;simp [bs,ByteArray.size]
theorem zqf {t:Ua}(h:bs s=bs t):s=t:=by
 cases s;cases t;congr 1;exact Array.toList_inj.1 h
theorem XZ (l:List UInt8):bs (lit l)=l:=rfl
theorem Zr {s β:Type}(f:s->Uc (Step s β)) (x:s):lpO f x=(f x).bind fun | .next x'=>lpO f x' | .done y=>some y:=zqT f x
theorem Xv (h:(bs s)[i]?=some c):Zf s (i:Int)=some (c.toNat:Int):=by
 unfold Zf;grind
theorem VH (h:i < l.length):∃ c,l[i]?=some c/\l.drop i=c::l.drop (i+1):=
 ⟨l[i],Uq h,UL h⟩
theorem znH (s:Ua) (i j:Nat):bs (s.extract i j)=((bs s).take j).drop i:=by
 show (s.extract i j).data.toList=_;rw [ByteArray.data_extract];simp [Array.toList_extract,List.extract,List.take_drop];by_cases h:i<=j
 ·grind
 ·have h1:j - i=0:=by omega
  rw [h1];simp;omega
theorem zlo {j:Nat}(h1:i<=j) (h2:j<=s.size):ZI s (i:Int) (j:Int)=some (s.extract i j):=by
 unfold ZI;grind
theorem zka (h:n < 9223372036854775808):Ud (n:Int)=n:=zM (by omega) (by omega)
theorem Vh {k:Nat}(h:n+k < 9223372036854775808):Ud ((n:Int)+(k:Int))=((n+k:Nat):Int):=by
 rw [zM (by omega) (by omega)];simp
theorem xI (h:n+1 < 9223372036854775808):Ud ((n:Int)+1)=((n+1:Nat):Int):=by
 rw [zM (by omega) (by omega)];simp
def Zn (p:UInt8->Bool) (l:List UInt8):Nat:=(l.takeWhile p).length
theorem zby (p:UInt8->Bool):Zn p []=0:=rfl
theorem yL (p:UInt8->Bool) (c:UInt8) (l:List UInt8):Zn p (c::l)=if p c then Zn p l+1 else 0:=by
 unfold Zn;rw [List.takeWhile_cons];split <;> simp
theorem XF (p:UInt8->Bool):∀ l:List UInt8,Zn p l<=l.length
 |[]=>Ur _
 |c::l=>by rw [yL];split <;> simp;exact XF p l
def isL (b:UInt8):Bool:=(decide (97<=b.toNat) && decide (b.toNat<=122)) || decide (b.toNat=95)
def isD (b:UInt8):Bool:=decide (48<=b.toNat) && decide (b.toNat<=57)
def isW (b:UInt8):Bool:=isL b || isD b
def wO (b:UInt8):Bool:=decide (b.toNat≠10)
theorem zbz (b:UInt8):qa2 (b.toNat:Int)=some (isD b):=by
 simp only [qa2,qg2,isD,jh];split
 ·rename_i h;have:48<=b.toNat:=by omega
  simp [this];omega
 grind
theorem VI (b:UInt8):q8d (b.toNat:Int)=some (isL b):=by
 simp only [q8d,qfq,isL,jh];have e1:(97<=(b.toNat:Int))↔97<=b.toNat:=by omega
 have e2:((b.toNat:Int)<=122)↔b.toNat<=122:=by omega
 have e3:((b.toNat:Int)=95)↔b.toNat=95:=by omega
 grind
theorem zqg (b:UInt8):qcy (b.toNat:Int)=some (isW b):=by
 simp only [qcy,qfr,VI,zbz,isW,jf];grind
theorem zsr (b:UInt8):qbk (b.toNat:Int)=some (wO b):=by
 simp only [qbk,qer,wO];congr 1;grind
theorem zbA {f:Int->Uc Bool}{p:UInt8->Bool}(hf:∀ c:UInt8,f (c.toNat:Int)=some (p c)) (hs:s.size < 4611686018427387904) :
    ∀ (n i:Nat),s.size - i=n->i<=s.size->lpO (q6c f) (s,(i:Int))=some ((i+Zn p ((bs s).drop i):Nat):Int)
  |0,i,hn,hi=>by
    have:i=s.size:=by omega
    subst this;rw [Zr];simp [q6c,Uf,yc,zby]
  |n+1,i,hn,hi=>by
    have hlt:i < s.size:=by omega
    obtain ⟨c,hc,hd⟩:=VH (l:=bs s) (i:=i) (by rw [yc];exact hlt);rw [Zr];simp only [q6c,jh];rw [jr (Int.ofNat_lt.2 hlt),Xv hc];simp only [jf,hf];rw [hd,yL];cases hp:p c with
    |true=>
      simp only [jl,jf];rw [xI (by omega),zbA hf hs n (i+1) (by omega) (by omega)];grind
    |false=>simp
theorem zqh (hs:s.size < 4611686018427387904) (hi:i<=s.size):qcx (s,(i:Int))=some ((i+Zn isD ((bs s).drop i):Nat):Int):=by
 show (lpO (q6c qa2) (s,(i:Int))).bind some=_;rw [zbA zbz hs _ i rfl hi];rfl
theorem znI (hs:s.size < 4611686018427387904) (hi:i<=s.size):qc0 (s,(i:Int))=some ((i+Zn isW ((bs s).drop i):Nat):Int):=by
 show (lpO (q6c qcy) (s,(i:Int))).bind some=_;rw [zbA zqg hs _ i rfl hi];rfl
theorem zqi (hs:s.size < 4611686018427387904) (hi:i<=s.size):qbe (s,(i:Int))=some ((i+Zn wO ((bs s).drop i):Nat):Int):=by
 show (lpO (q6c qbk) (s,(i:Int))).bind some=_;rw [zbA zsr hs _ i rfl hi];rfl
def zbB (l:List UInt8):Bool:=decide (l=[116,121,112,101]) || (decide (l=[102,110]) || (decide (l=[111,119,110]) || (decide (l=[99,101,108,108]) || (decide (l=[99,111,117,110,116,101,100]) || (decide (l=[108,111,99,107]) || (decide (l=[103,117,97,114,100]) || (decide (l=[119,104,101,114,101]) || (decide (l=[105,110,116]) || (decide (l=[109,117,116]) || (decide (l=[102,114,101,101]) || (decide (l=[117,110,108,111,99,107]) || (decide (l=[105,102]) || (decide (l=[101,108,115,101]) || (decide (l=[119,104,105,108,101]) || (decide (l=[114,101,116,117,114,110]) || (decide (l=[97,98,111,114,116]) || (decide (l=[102,111,114,107]) || (decide (l=[110,101,119]) || (decide (l=[97,114,114,97,121]))))))))))))))))))))
theorem zkb {p:Prop}[Decidable p] (h:X=some b):(if decide p=true then some (decide p) else X)=some (decide p || b):=by
 grind
theorem zkc (h:X=some b):(X.bind fun y=>some y)=some b:=by subst h;rfl
theorem zvw (h:X=some b):(X.bind fun y=>if y=true then some true else some false)=some b:=by grind
theorem zlS (s:Ua) (l:List UInt8):decide (s=lit l)=decide (bs s=l):=by
 refine decide_eq_decide.2 ⟨fun h=>by rw [h];rfl,fun h=>zqf h⟩
theorem zxq (s:Ua):qdj s=some (zbB (bs s)):=by
 simp only [qdj,qg3,zbB,<- zlS];refine zvw ?_
 repeat (first | exact rfl | apply zkb | apply zkc)
theorem zlT (l:List UInt8):qdj (lit l)=some (zbB l):=zxq (lit l)
def Wp (a:Nat):List UInt8->Nat
 |[]=>a
 |c::r=>Wp (a * 10+(c.toNat - 48)) r
def YL (l:List UInt8):Nat:=Wp 0 l
theorem zgL:∀ (l:List UInt8) (a:Nat),a<=Wp a l
 |[],a=>Ur _
 |c::r,a=>Ut (by omega) (zgL r _)
def sgn (c:UInt8):Bool:=[123,125,40,41,91,93,44,58,59,61,43,45,38,60].contains c
def two (l:List UInt8):Bool:=decide (l.take 2=[45,62]) || (decide (l.take 2=[60,61]) || decide (l.take 2=[61,61]))
def YB (l:List UInt8):Nat:=if two l then 2 else match l with
 |[]=>0
 |c::_=>if sgn c then 1 else 0
inductive Nx where
 |skip (n:Nat)
 |tok (k:Int) (n:Nat) (v:Int)
 |err (e:Int)
def zbC:Uc UInt8->Bool
 |some c=>isL c
 |none=>false
def WS (l:List UInt8):Bool:=decide (1099511627776 < YL (l.take (Zn isD l))) || ((decide (1 < Zn isD l) && decide (l.head?=some 48)) || zbC l[Zn isD l]?)
def XG (l:List UInt8):Nx:=if WS l then .err 12 else .tok 3 (Zn isD l) (YL (l.take (Zn isD l)))
def xq (l:List UInt8):Nx:=if 16 < Zn isW l then .err 13 else .tok (if zbB (l.take (Zn isW l)) then 2 else 1) (Zn isW l) 0
def xr (l:List UInt8):Nx:=if YB l=0 then .err 11 else .tok 4 (YB l) 0
def nxt (l:List UInt8):Nx:=match l with
 |[] =>.err 11
 |c::r=>if c.toNat=32\/c.toNat=10 then .skip 1 else if c.toNat=35 then .skip (Zn wO (c::r)) else if isD c then XG (c::r) else if isL c then xq (c::r) else xr (c::r)
def wP:Nat->Nat->List UInt8->(Nat×Int)⊕List qm
 |0,_,_ =>.inr []
 |f+1,at_,l=>if l.isEmpty then .inr [] else match nxt l with
  | .skip n=>wP f (at_+n) (l.drop n)
  | .err e =>.inl (at_,e)
  | .tok k n v=>match wP f (at_+n) (l.drop n) with
   | .inl x =>.inl x
   | .inr ts =>.inr (⟨k,lit (l.take n),v,at_⟩::ts)
def Wq (at_:Nat) (l:List UInt8):(Nat×Int)⊕List qm:=wP l.length at_ l
theorem zfC (l:List UInt8):YB l<=l.length:=by
 unfold YB;split
 ·rename_i h;unfold two at h
  match l with
  |[]=>simp at h
  |[a]=>simp at h
  |a::b::r=>simp
 grind
def XS (m:Nat):Nx->Prop
 | .skip n=>1<=n/\n<=m
 | .tok _ n _=>1<=n/\n<=m
 | .err _=>True
theorem Wr (h:l≠[]):XS l.length (nxt l):=by
 match l,h with
 |c::r,_=>
  show XS (c::r).length (if c.toNat=32\/c.toNat=10 then .skip 1 else if c.toNat=35 then .skip (Zn wO (c::r)) else if isD c then XG (c::r) else if isL c then xq (c::r) else xr (c::r));split
  ·exact ⟨by omega,by simp⟩
  ·rename_i h1;split
   ·rename_i h2;refine ⟨?_,XF _ _⟩;rw [yL];have:wO c=true:=by unfold wO;simp;omega
    simp [this]
   ·split
    ·rename_i hd;unfold XG;cases WS (c::r) with
     |true=>trivial
     |false=>
      refine ⟨?_,XF _ _⟩;rw [yL];simp [hd]
    ·split
     ·rename_i hl;unfold xq;split
      ·trivial
      ·refine ⟨?_,XF _ _⟩;rw [yL];simp [isW,hl]
     ·unfold xr;split
      ·trivial
      ·exact ⟨by omega,zfC _⟩
theorem VJ:∀ (f:Nat) (l:List UInt8) (at_:Nat) (g:Nat),l.length<=f->l.length<=g->wP f at_ l=wP g at_ l
 |0,l,at_,g,h,hg=>by
  have:l=[]:=Uw (by omega);subst this;cases g <;> rfl
 |f+1,l,at_,g,h,hg=>by
  match l with
  |[]=>cases g <;> rfl
  |c::r=>
   match g,hg with
   |g+1,hg=>
    have hp:=Wr (l:=c::r) (by simp);unfold wP;simp only [List.isEmpty_cons,jg,jk];cases hn:nxt (c::r) with
    |err e=>rfl
    |skip n=>
     rw [hn] at hp;simp only [XS] at hp |-
     exact VJ f _ _ g (by grind) (by grind)
    |tok k n v=>
     rw [hn] at hp;simp only [XS] at hp |-
     rw [VJ f ((c::r).drop n) _ g (by grind) (by grind)]
theorem zbD (at_:Nat):Wq at_ [] = .inr []:=rfl
theorem zcO (at_:Nat) (h:l≠[]):Wq at_ l=match nxt l with
    | .skip n=>Wq (at_+n) (l.drop n)
    | .err e =>.inl (at_,e)
    | .tok k n v=>match Wq (at_+n) (l.drop n) with
      | .inl x =>.inl x
      | .inr ts =>.inr (⟨k,lit (l.take n),v,at_⟩::ts):=by
  match l,h with
  |c::r,_=>
    have hp:=Wr (l:=c::r) (by simp);unfold Wq;show wP (r.length+1) at_ (c::r)=_;rw [wP];simp only [List.isEmpty_cons,jg,jk];cases hn:nxt (c::r) with
    |err e=>rfl
    |skip n=>
      rw [hn] at hp;simp only [XS] at hp |-
      exact VJ _ _ _ _ (by grind) (Ur _)
    |tok k n v=>
      rw [hn] at hp;simp only [XS] at hp |-
      rw [VJ r.length ((c::r).drop n) _ ((c::r).drop n).length (by grind) (Ur _)]
theorem zhw (p:UInt8->Bool):∀ l:List UInt8,l.take (Zn p l)=l.takeWhile p
 |[]=>rfl
 |c::l=>by
  rw [yL,List.takeWhile_cons];cases p c with
  |true=>simp [zhw p l]
  |false=>simp
theorem zvx (p:UInt8->Bool) (l:List UInt8):∀ c∈l.take (Zn p l),p c=true:=by
 rw [zhw]
 induction l with
 |nil=>simp
 |cons a l ih=>
  rw [List.takeWhile_cons];grind
theorem Ws (h:(bs s).drop i=l) (hl:l≠[]):i < s.size/\l.length=s.size - i:=by
 subst h;rw [Ux,yc];refine ⟨?_,rfl⟩;rcases Nat.lt_or_ge i s.size with h | h
 ·exact h
 ·exact absurd (Uf (by rw [yc];exact h)) hl
theorem X0 (h:(bs s).drop i=l) (hl:l≠[]) (hn:n<=l.length):ZI s (i:Int) ((i+n:Nat):Int)=some (lit (l.take n)):=by
 obtain ⟨h1,h2⟩:=Ws h hl;rw [zlo (by omega) (by omega)];congr 1;apply zqf;rw [znH,XZ,<- h,List.take_drop]
theorem vC (h:(bs s).drop i=l) (hc:l[n]?=some c):Zf s ((i+n:Nat):Int)=some (c.toNat:Int):=by
 apply Xv;grind
theorem wg (l:List UInt8):(lit l).size=l.length:=by rw [<- yc,XZ]
theorem zcP {M:Nat}(hM:M=18446744073709551615):∀ (l:List UInt8) (a:Nat),(∀ c∈l,isD c=true)->a<=M->Lib.parseUintM M a l=if Wp a l<=M then .ok (Wp a l) else .range
 |[],a,_,ha=>by rw [jr (show Wp a []<=M from ha)];rfl
 |c::r,a,h,ha=>by
  have hc:=h c (by simp);simp only [isD,g9,jh] at hc;have hge:=zgL r (a * 10+(c.toNat - 48));have e:Wp a (c::r)=Wp (a * 10+(c.toNat - 48)) r:=rfl;rw [e];unfold Lib.parseUintM;rw [jr hc];split
  ·grind
  ·split
   ·grind
   ·exact zcP hM r _ (fun x hx=>h x (by simp [hx])) (by omega)
theorem zqj (hl:l≠[]) (h:∀ c∈l,isD c=true):Lib.parseIntB 64 l=if YL l < 9223372036854775808 then .ok (YL l:Int) else .range:=by
 match l,hl with
 |c::r,_=>
  have hc:=h c (by simp);simp only [isD,g9,jh] at hc;have e43:¬ (c.toNat=43\/c.toNat=45):=by omega
  have e45:¬ c.toNat=45:=by omega
  unfold Lib.parseIntB Lib.parseUintB;simp only;rw [js e43,js (by simp)];generalize hM:(2 ^ 64 - 1:Nat)=M;generalize hB:(2 ^ (64 - 1):Nat)=B;have hM:M=18446744073709551615:=by rw [<- hM]
  have hB:B=9223372036854775808:=by rw [<- hB]
  rw [zcP hM _ _ h (by omega)];simp only [e45,false_and,jq,Uo,jk]
  show (match (if YL (c::r)<=M then Lib.NumEnd.ok (YL (c::r)) else .range) with
   | .syntax=>Lib.NumEnd.syntax
   | .range =>.range
   | .ok u=>if B<=u then .range else .ok (u:Int))=_
  by_cases h1:YL (c::r)<=M
  ·rw [jr h1];simp only;by_cases h2:YL (c::r) < 9223372036854775808
   all_goals grind
  grind
abbrev tk0:qm:=⟨0,lit [],0,0⟩
theorem zqk {r:List UInt8}(hs:s.size<=16384) (hl:(bs s).drop i=c::r) (hd:isD c=true) :
    qcz (s,(i:Int),((i+Zn isD (c::r):Nat):Int))=some (if WS (c::r) then (tk0,12) else (⟨3,lit ((c::r).take (Zn isD (c::r))),(YL ((c::r).take (Zn isD (c::r))):Nat),i⟩,0)):=by
  obtain ⟨h1,h2⟩:=Ws hl (by simp);have hn:=XF isD (c::r);have hn1:1<=Zn isD (c::r):=by rw [yL];simp [hd]
  generalize hN:Zn isD (c::r)=n at *
  have hall:=zvx isD (c::r);rw [hN] at hall;have hne:(c::r).take n≠[]:=by
    match n,hn1 with
    |n+1,_=>simp
  have hlen:((c::r).take n).length=n:=by grind
  have hhead:((c::r).take n)[0]?=some c:=by
    grind
  have hlast:∀ (X Y:Uc (qm×Int)),(if decide (((i+n:Nat):Int) < (s.size:Int))=true then (Zf s ((i+n:Nat):Int)).bind fun y=>(q8d y).bind fun z=>if z=true then X else Y else Y)=if zbC (c::r)[n]?=true then X else Y:=by
    intro X Y;by_cases hb:i+n < s.size
    · have:n < (c::r).length:=by omega
      have hg:=Uq this;generalize (c::r)[n]=b at hg;rw [vC hl hg,hg];simp only [jh,jf,VI];rw [jr (Int.ofNat_lt.2 hb)];rfl
    ·have:(c::r)[n]?=none:=List.getElem?_eq_none (by omega);rw [this];simp only [jh];rw [js (fun h=>hb (Int.ofNat_lt.1 h))];rfl
  unfold qcz qfs;rw [show ((s,(i:Int),((i+n:Nat):Int)):Ua×Int×Int).1=s from rfl];simp only;rw [X0 hl (by simp) (by omega)];simp only [jf,qd0,XY,Uo];rw [jr (by rw [wg,hlen];omega),show (lit ((c::r).take n)).data.toList=(c::r).take n from rfl,zqj hne hall];by_cases hv:YL ((c::r).take n) < 9223372036854775808
  · rw [jr hv];simp only [jf,jj];unfold WS;rw [hN];by_cases h40:1099511627776 < YL ((c::r).take n)
    ·grind
    · simp only [jh];rw [js (by omega),wg,hlen];have hl2:=hlast (some (qm.mk 0 (lit []) 0 0,12)) (some (qm.mk 3 (lit ((c::r).take n)) (YL ((c::r).take n):Nat) i,0));simp only [jh] at hl2;have e0:Zf (lit ((c::r).take n)) 0=some (c.toNat:Int):=Xv (i:=0) hhead;by_cases h1n:1 < n
      · rw [jr (by omega),e0];simp only [jf];by_cases h48:c.toNat=48
        ·rw [jr (by omega)];have:c=48:=UInt8.toNat_inj.1 (by grind);grind
        · rw [js (by omega),hl2];have:¬ c=48:=fun h=>h48 (by rw [h];rfl)
          simp only [h40,h1n,this,jo,jm,List.head?_cons,Option.some.injEq,Bool.and_false,De];grind
      ·rw [js (by omega),hl2];grind
  ·rw [js hv];simp only [jf,ji];unfold WS;grind
theorem zvy (hs:s.size<=16384) (hl:(bs s).drop i=l) (hne:l≠[]) (hn:n<=l.length) :
    qes (s,(i:Int),((i+n:Nat):Int))=some (if 16 < n then (tk0,13) else (⟨if zbB (l.take n) then 2 else 1,lit (l.take n),0,i⟩,0)):=by
  unfold qes qge;simp only;rw [X0 hl hne hn];have hlen:(l.take n).length=n:=by grind
  simp only [jf,wg,hlen,jh,zlT];by_cases h:16 < n
  ·grind
  ·rw [js (by omega),js h];grind
theorem zcQ (l:List UInt8) (a b:UInt8):q7j (lit l,lit [a,b])=some (decide (l.take 2=[a,b])):=by
 show ((q47 (lit l,lit [a,b])).bind fun y=>some y)=_;unfold q47;simp only [wg,ju,List.length_nil,jh];by_cases h:2<=l.length
 ·rw [jr (by omega)];have:ZI (lit l) 0 ((2:Nat):Int)=some (lit (l.take 2)):=by
   have:=X0 (s:=lit l) (i:=0) (n:=2) (l:=l) rfl (by grind) h;grind
  rw [show ((0+1+1:Nat):Int)=((2:Nat):Int) from rfl,this];simp only [jf];congr 1;refine decide_eq_decide.2 ⟨fun h=>?_,fun h=>by rw [h]⟩;have:=congrArg bs h;simpa [XZ] using this
 ·rw [js (by omega)];have:l.take 2≠[a,b]:=by
   intro e;have:=congrArg List.length e;grind
  simp [this]
theorem Vi:∀ (l:List UInt8) (c:UInt8),(0<=Lib.indexByte l c)↔l.contains c=true
 |[],c=>by simp [Lib.indexByte]
 |b::l,c=>by
  have ih:=Vi l c;have hg:=Lib.indexByte_ge l c;unfold Lib.indexByte;by_cases h:b=c
  ·subst h;simp
  ·have h':(b == c)=false:=by simpa using h
   have h2:(c == b)=false:=by grind
   simp only [h',jg,jk,List.contains_cons,h2,De];rw [<- ih];grind
theorem zvz (hne:l≠[]):qfz (lit l)=some (lit (l.take (YB l))):=by
 show (lpO (qb0 q7j q7k) (lit l,(lit [45,62],lit [60,61],lit [61,61]),0)).bind _=_;have w1:Ud (0+1)=1:=by decide
 have w2:Ud (1+1)=2:=by decide
 have w3:Ud (2+1)=3:=by decide
 have g0:∀ A B C:Ua,WY [A,B,C] 0=some A:=fun _ _ _=>rfl
 have g1:∀ A B C:Ua,WY [A,B,C] 1=some B:=fun _ _ _=>rfl
 have g2:∀ A B C:Ua,WY [A,B,C] 2=some C:=fun _ _ _=>rfl
 have two_take:two l=true->l.take 2=[45,62]\/l.take 2=[60,61]\/l.take 2=[61,61]:=by
  intro h;simpa [two] using h
 have loop:lpO (qb0 q7j q7k) (lit l,(lit [45,62],lit [60,61],lit [61,61]),0)=some (if two l then .inl (lit (l.take 2)) else .inr (lit l)):=by
  rw [Zr];simp only [qb0,zcQ,jf,g0,w1];by_cases h1:l.take 2=[45,62]
  ·simp [h1,two]
  ·simp only [h1,jm,jg,jk,jf];rw [show decide ((0:Int) < 3)=true from rfl];simp only [jl,jf];rw [Zr];simp only [qb0,zcQ,jf,g1,w2];rw [show decide ((1:Int) < 3)=true from rfl];by_cases h2:l.take 2=[60,61]
   ·simp [h2,two]
   ·simp only [h2,jm,jg,jk,jf,jl];rw [Zr];simp only [qb0,zcQ,jf,g2,w3];rw [show decide ((2:Int) < 3)=true from rfl];by_cases h3:l.take 2=[61,61]
    ·simp [h3,two]
    ·simp only [h3,jm,jg,jk,jf,jl];rw [Zr];simp only [qb0];grind
 rw [loop];unfold YB;by_cases ht:two l=true
 ·grind
 ·rw [js ht,js ht]
  match l,hne with
  |c::r,_=>
   have e0:Zf (lit (c::r)) 0=some (c.toNat:Int):=Xv (i:=0) rfl;have e1:ZI (lit (c::r)) 0 1=some (lit [c]):=by
    have:=X0 (s:=lit (c::r)) (i:=0) (n:=1) (l:=c::r) rfl (by simp) (by simp);grind
   simp only [jf,ji];rw [e0,e1];simp only [jf,q7k,wK,Int.toNat_natCast];have hb:(0<=Lib.indexByte (lit [123,125,40,41,91,93,44,58,59,61,43,45,38,60]).data.toList c.toNat.toUInt8)↔sgn c=true:=by
    have:c.toNat.toUInt8=c:=by simp [Nat.toUInt8]
    rw [this];exact Vi _ c
   by_cases hs:sgn c=true
   ·grind
   grind
noncomputable abbrev zbE:=qdx qbe qa2 qcx qcz q8d qc0 qes qfz
theorem znJ (hs:s.size<=16384) (hl:(bs s).drop i=l) (hne:l≠[]) (out:Sl qm) :
    zbE (s,(i:Int),out)=match nxt l with
      | .skip n=>some (.next (s,((i+n:Nat):Int),out))
      | .err e=>some (.done (.inl ((i:Int),e)))
      | .tok k n v=>(zp 40 out [⟨k,lit (l.take n),v,i⟩]).bind fun o=>some (.next (s,((i+n:Nat):Int),o)):=by
  obtain ⟨h1,h2⟩:=Ws hl hne
  match l,hne with
  |c::r,_=>
    have hc:Zf s (i:Int)=some (c.toNat:Int):=vC (n:=0) hl rfl;have hpos:=Wr (l:=c::r) (by simp);simp only [zbE,qdx];rw [jr (gc (Int.ofNat_lt.2 h1)),hc];simp only [jf];have e32:((c.toNat:Int)=32)↔c.toNat=32:=by omega
    have e10:((c.toNat:Int)=10)↔c.toNat=10:=by omega
    have e35:((c.toNat:Int)=35)↔c.toNat=35:=by omega
    have rest:∀ (k:Int) (n:Nat) (v:Int),n<=(c::r).length->(zp 40 out [⟨k,lit ((c::r).take n),v,i⟩]).bind (fun o=>some (Step.next (β:=Int×Int⊕Ua×Sl qm) (s,Ud ((i:Int)+((lit ((c::r).take n)).size:Int)),o)))=(zp 40 out [⟨k,lit ((c::r).take n),v,i⟩]).bind fun o=>some (.next (s,((i+n:Nat):Int),o)):=by
      intro k n v hn;have hz:(lit ((c::r).take n)).size=n:=by rw [wg,UH];omega
      rw [hz,Vh (by omega)]
    unfold nxt at hpos |-
    simp only at hpos |-
    by_cases hb:c.toNat=32\/c.toNat=10
    · rw [jr hb];simp only;rcases hb with hb | hb
      ·rw [jr (gc (e32.2 hb))];simp [xI (n:=i) (by omega)]
      · have:¬ c.toNat=32:=by omega
        rw [js (fun h=>this (e32.1 (UP h)))];simp only [jf,jh];rw [jr (e10.2 hb)];simp [xI (n:=i) (by omega)]
    · rw [js hb] at hpos |-
      have n32:¬ c.toNat=32:=fun h=>hb (.inl h)
      have n10:¬ c.toNat=10:=fun h=>hb (.inr h)
      rw [js (fun h=>n32 (e32.1 (UP h)))];simp only [jf,jh];rw [js (fun h=>n10 (e10.1 h))];by_cases h35:c.toNat=35
      ·rw [jr (e35.2 h35),jr h35,zqi (by omega) (by omega),hl];simp
      · rw [js (fun h=>h35 (e35.1 h))];rw [js h35] at hpos |-
        simp only [zbz,VI,jf];by_cases hd:isD c=true
        · rw [jr hd] at hpos;rw [jr hd,jr hd,zqh (by omega) (by omega),hl];simp only [jf];rw [zqk hs hl hd];unfold XG at hpos |-
          by_cases hbad:WS (c::r)=true
          ·grind
          ·rw [js hbad] at hpos;rw [js hbad,js hbad];simp only [XS] at hpos;simp only [jf,ji,UF,jp,jk,ga,jj];grind
        · rw [js hd] at hpos;rw [js hd,js hd];by_cases hL:isL c=true
          · rw [jr hL] at hpos;rw [jr hL,jr hL,znI (by omega) (by omega),hl];simp only [jf];rw [zvy hs hl (by simp) (XF _ _)];unfold xq at hpos |-
            by_cases h16:16 < Zn isW (c::r)
            ·grind
            ·rw [js h16] at hpos;rw [js h16,js h16];simp only [XS] at hpos;simp only [jf,ji,UF,jp,jk,ga,jj];grind
          · rw [js hL] at hpos;rw [js hL,js hL];have hcut:ZI s (i:Int) (s.size:Int)=some (lit (c::r)):=by
              have:=X0 (n:=(c::r).length) hl (by simp) (Ur _);grind
            rw [hcut];simp only [jf];rw [zvz (by simp)];simp only [jf,jh];unfold xr at hpos |-
            by_cases h0:YB (c::r)=0
            ·grind
            · rw [js h0] at hpos;have hx:¬ lit ((c::r).take (YB (c::r)))=lit []:=by
                intro e;have:=congrArg (fun x=>(bs x).length) e;simp only [XZ] at this;grind
              rw [js h0,js hx];simp only [XS] at hpos;simp only [jf,ji,UF,jp,jk,ga,jj];grind
theorem zss (hs:s.size<=16384):∀ (n i:Nat) (acc:List qm) (nn:Bool),s.size - i<=n->i<=s.size->acc.length<=i->
    lpO zbE (s,(i:Int),⟨acc,nn⟩)=some (match Wq i ((bs s).drop i) with
      | .inl x =>.inl ((x.1:Int),x.2)
      | .inr ts =>.inr (s,⟨acc++ts,nn || !ts.isEmpty⟩)):=by
  intro n
  induction n with
  |zero=>
    intro i acc nn hn hi ha;have:i=s.size:=by omega
    subst this;rw [Zr];have hd:(bs s).drop s.size=[]:=Uf (by rw [yc];grind);rw [hd,zbD];simp [zbE,qdx]
  |succ n ih=>
    intro i acc nn hn hi ha;rcases Nat.lt_or_ge i s.size with hlt | hge
    · have hne:(bs s).drop i≠[]:=by
        intro e;have:=congrArg List.length e;rw [Ux,yc] at this;grind
      have hp:=Wr hne;have hlen:((bs s).drop i).length=s.size - i:=by rw [Ux,yc]
      rw [Zr,znJ hs rfl hne,zcO _ hne];cases hx:nxt ((bs s).drop i) with
      |err e=>rfl
      |skip k=>
        rw [hx] at hp;simp only [XS] at hp;simp only [jf,List.drop_drop];rw [ih (i+k) acc nn (by omega) (by omega) (by omega)]
      |tok k m v=>
        rw [hx] at hp;simp only [XS] at hp;simp only [List.drop_drop];rw [Yg (by grind) (by grind)];simp only [jf];rw [ih (i+m) _ _ (by omega) (by omega) (by grind)];grind
    grind
def ZY (s:Ua):Int×Int×Sl qm:=if 16384 < s.size then (0,10,⟨[],false⟩) else match Wq 0 (bs s) with
 | .inl x=>((x.1:Int),x.2,⟨[],false⟩)
 | .inr ts=>(0,0,⟨ts++[⟨0,lit [],0,s.size⟩],true⟩)
theorem Vj:∀ (m:Nat) (l:List UInt8) (i:Nat) (ts:List qm),l.length<=m->Wq i l = .inr ts->ts.length<=l.length
 |0,l,i,ts,hm,h=>by
  have:l=[]:=Uw (by omega);subst this;rw [zbD] at h;cases h;simp
 |m+1,l,i,ts,hm,h=>by
  by_cases hne:l=[]
  ·subst hne;rw [zbD] at h;cases h;simp
  ·have hp:=Wr hne;rw [zcO _ hne] at h;cases hx:nxt l with
   |err e=>grind
   |skip k=>
    rw [hx] at h hp;simp only [XS] at hp;have:=Vj m _ _ _ (by grind) h;grind
   |tok k n v=>
    rw [hx] at h hp;simp only [XS] at hp;simp only at h;cases hr:Wq (i+n) (l.drop n) with
    |inl x=>grind
    |inr us=>
     rw [hr] at h;cases h;have:=Vj m _ _ _ (by grind) hr;grind
theorem zql (s:Ua):qbl s=some (ZY s):=by
 unfold qbl qft ZY;simp only [jh];by_cases h:16384 < s.size
 ·grind
 ·rw [js (by omega),js h];have:=zss (s:=s) (by omega) s.size 0 [] false (by omega) (by omega) (by simp);rw [UN] at this;rw [show ((s,0,Sl.mk [] false):Ua×Int×Sl qm)=(s,((0:Nat):Int),⟨[],false⟩) from rfl,this];cases hx:Wq 0 (bs s) with
  |inl x=>rfl
  |inr ts=>
   have hl:=Vj _ _ _ _ (Ur _) hx;rw [yc] at hl;simp only [jf,ji,UK,De];rw [Yg (by grind) (by grind)];simp
theorem zbF (b:UInt8):q2i (b.toNat:Int)=some (isL b):=VI b
theorem zcR (b:UInt8):q3z (b.toNat:Int)=some (isD b):=zbz b
theorem zst (l:List UInt8):q3d (lit l)=some (zbB l):=zlT l
theorem zvA (c:UInt8) (k:Nat) (hk:k < 256):decide ((c.toNat:Int)=(k:Int))=decide (c=UInt8.ofNat k):=by
 refine decide_eq_decide.2 ⟨fun h=>UInt8.toNat_inj.1 ?_,fun h=>?_⟩
 ·rw [UInt8.toNat_ofNat_of_lt' (by grind)];omega
 ·rw [h,UInt8.toNat_ofNat_of_lt' (by grind)]
theorem zxr (c:UInt8):sgn c=(decide ((c.toNat:Int)=123) || (decide ((c.toNat:Int)=125) || (decide ((c.toNat:Int)=40) || (decide ((c.toNat:Int)=41) || (decide ((c.toNat:Int)=91) || (decide ((c.toNat:Int)=93) || (decide ((c.toNat:Int)=44) || (decide ((c.toNat:Int)=58) || (decide ((c.toNat:Int)=59) || (decide ((c.toNat:Int)=61) || (decide ((c.toNat:Int)=43) || (decide ((c.toNat:Int)=45) || (decide ((c.toNat:Int)=38) || decide ((c.toNat:Int)=60)))))))))))))):=by
 have h:∀ k:Nat,k < 256->decide ((c.toNat:Int)=(k:Int))=(c == UInt8.ofNat k):=fun k hk=>by rw [zvA c k hk];rfl
 have:=h 123 (by omega);have h2:=h 125 (by omega);have h3:=h 40 (by omega);have h4:=h 41 (by omega);have h5:=h 91 (by omega);have h6:=h 93 (by omega);have h7:=h 44 (by omega);have h8:=h 58 (by omega);have h9:=h 59 (by omega);have h10:=h 61 (by omega);have h11:=h 43 (by omega);have h12:=h 45 (by omega);have h13:=h 38 (by omega);have h14:=h 60 (by omega);simp only [Int.cast_ofNat_Int] at *
 simp only [sgn,List.contains_cons,List.contains_nil,Bool.or_false];grind
theorem zqm (h:l.length < 2):two l=false:=by
 have:∀ a b:UInt8,¬ l.take 2=[a,b]:=by
  intro a b e;have:=congrArg List.length e;grind
 simp [two,this]
theorem zsu (hs:s.size<=16384) (hl:(bs s).drop i=l) (hne:l≠[]):q3n (s,(i:Int))=some (YB l:Int):=by
  obtain ⟨h1,h2⟩:=Ws hl hne;unfold q3n qbm;simp only;rw [xI (by omega)];have e2:Ud ((i:Int)+2)=((i+2:Nat):Int):=Vh (k:=2) (by omega);rw [e2]
  have first:((if decide (((i+1:Nat):Int) < (s.size:Int))=true then
        (ZI s (i:Int) ((i+2:Nat):Int)).bind fun y0=>some (s,(i:Int),y0) else some (s,(i:Int),lit [])).bind fun (y1:Ua×Int×Ua)=>(if decide (y1.2.2=lit [45,62])=true then some (y1.1,y1.2.1,true) else if decide (y1.2.2=lit [60,61])=true then some (y1.1,y1.2.1,true) else some (y1.1,y1.2.1,decide (y1.2.2=lit [61,61]))))=some (s,(i:Int),two l):=by
    by_cases h:i+1 < s.size
    · rw [jr (gc (Int.ofNat_lt.2 h)),X0 hl hne (by omega)];simp only [jf,zlS,XZ,two];by_cases a:l.take 2=[45,62]
      ·simp [a]
      · by_cases b:l.take 2=[60,61]
        ·simp [b]
        ·simp only [a,b,jm,jg,jk,jf,De];rfl
    · rw [js (fun x=>h (Int.ofNat_lt.1 (UP x)))];rw [zqm (by omega)];have:∀ a b:UInt8,lit []≠lit [a,b]:=fun a b e=>by have:=congrArg bs e;simp [XZ] at this
      simp [this]
  rw [<- ga,first];simp only [jf];unfold YB;by_cases ht:two l=true
  ·grind
  · rw [js ht,js ht]
    match l,hne with
    |c::r,_=>
      have hc:Zf s (i:Int)=some (c.toNat:Int):=vC (n:=0) hl rfl;rw [hc];simp only [jf];have key:∀ {X:Uc Bool} {b:Bool},X=some b->(X.bind fun y=>if y=true then some (1:Int) else some 0)=some ((if b then 1 else 0:Nat):Int):=by
        grind
      rw [zxr];refine key ?_
      repeat (first | exact rfl | apply zkb | apply zkc)
theorem zy7 (h:n<=255):IntKind.u8.wrap (n:Int)=n:=by
 simp only [Ud,IntKind.wrap,IntKind.bits,IntKind.signed];simp;omega
def wQ (n:Nat) (g:Bool):List UInt8->Nat×Bool
 |[]=>(n,g)
 |c::r=>let n':=if n<=1099511627776 then n * 10+(c.toNat - 48) else n
  wQ n' (if 1099511627776 < n' then true else g) r
theorem zfD:∀ (l:List UInt8) (n:Nat),(wQ n true l).2=true
 |[],n=>rfl
 |c::r,n=>by
  unfold wQ;simp only [ite_self];exact zfD r _
theorem zlU:∀ (l:List UInt8) (n:Nat),n<=1099511627776->if 1099511627776 < Wp n l then (wQ n false l).2=true else wQ n false l=(Wp n l,false)
 |[],n,h=>by
  rw [js (by show ¬ 1099511627776 < n;omega)];rfl
 |c::r,n,h=>by
  have e:Wp n (c::r)=Wp (n * 10+(c.toNat - 48)) r:=rfl;rw [e];unfold wQ;simp only [jr h];by_cases h2:1099511627776 < n * 10+(c.toNat - 48)
  ·have:=zgL r (n * 10+(c.toNat - 48));rw [jr (by omega),jr h2];exact zfD r _
  ·rw [js h2];exact zlU r _ (by omega)
abbrev RT:=q9×q9
noncomputable abbrev zgM:=q6v q2i q3z q3d q3n
noncomputable abbrev zfE:=q6w q2i q3z q3d q3n
theorem zhx (hs:s.size<=16384) (a:Int) (t:RT):∀ (n i:Nat),s.size - i=n->i<=s.size->lpO zgM (s,a,(i:Int),t)=some (s,a,((i+Zn isW ((bs s).drop i):Nat):Int),t)
 |0,i,hn,hi=>by
  have:i=s.size:=by omega
  subst this;rw [Zr];simp [zgM,q6v,Uf,yc,zby]
 |n+1,i,hn,hi=>by
  have hlt:i < s.size:=by omega
  obtain ⟨c,hc,hd⟩:=VH (l:=bs s) (i:=i) (by rw [yc];exact hlt);rw [Zr];simp only [zgM,q6v,jh];rw [jr (Int.ofNat_lt.2 hlt),Xv hc];simp only [jf,zbF,zcR];rw [hd,yL];have ih:=zhx hs a t n (i+1) (by omega) (by omega);have hw:=xI (n:=i) (by omega);cases hL:isL c with
  |true=>
   simp only [isW,hL,Bool.true_or,UJ,jg,jk,jl,jf,hw];grind
  |false=>
   cases hD:isD c with
   |true=>
    simp only [isW,hL,hD,Bool.or_true,UJ,UY,jg,jk,jl,jf,hw];grind
   |false=>simp [isW,hL,hD]
theorem zkd (hs:s.size<=16384) (a:Int) (t:RT):∀ (n i m:Nat) (g:Bool),m<=10995116277769->s.size - i=n->i<=s.size->
    lpO zfE (s,a,(i:Int),(m:Int),g,t)=some (s,a,((i+Zn isD ((bs s).drop i):Nat):Int),((wQ m g (((bs s).drop i).take (Zn isD ((bs s).drop i)))).1:Int),(wQ m g (((bs s).drop i).take (Zn isD ((bs s).drop i)))).2,t)
  |0,i,m,g,hm,hn,hi=>by
    have:i=s.size:=by omega
    subst this;rw [Zr];simp [zfE,q6w,Uf,yc,zby,wQ]
  |n+1,i,m,g,hm,hn,hi=>by
    have hlt:i < s.size:=by omega
    obtain ⟨c,hc,hd⟩:=VH (l:=bs s) (i:=i) (by rw [yc];exact hlt);rw [Zr];simp only [zfE,q6w,jh];rw [jr (Int.ofNat_lt.2 hlt),Xv hc];simp only [jf,zcR];rw [hd,yL];cases hD:isD c with
    |false=>simp [wQ]
    |true=>
      have hD2:=hD;simp only [isD,g9,jh] at hD2;simp only [UJ,jg,jk,jl];have e1:Ud (IntKind.u8.wrap ((c.toNat:Int) - 48))=((c.toNat - 48:Nat):Int):=by
        have:((c.toNat:Int) - 48)=((c.toNat - 48:Nat):Int):=by omega
        rw [this,zy7 (by omega),zka (by omega)]
      have e2:Ud (Ud ((m:Int) * 10)+((c.toNat - 48:Nat):Int))=((m * 10+(c.toNat - 48):Nat):Int):=by
        have:((m:Int) * 10)=((m * 10:Nat):Int):=by omega
        rw [this,zka (by omega),Vh (by omega)]
      rw [e1,e2];have hw:=xI (n:=i) (by omega);have hn':(if m<=1099511627776 then m * 10+(c.toNat - 48) else m)<=10995116277769:=by grind
      have step:∀ (m':Nat),m'<=10995116277769->lpO zfE (s,a,((i+1:Nat):Int),(m':Int),(if 1099511627776 < m' then true else g),t)=some (s,a,((i+(Zn isD ((bs s).drop (i+1))+1):Nat):Int),((wQ m' (if 1099511627776 < m' then true else g) (((bs s).drop (i+1)).take (Zn isD ((bs s).drop (i+1))))).1:Int),(wQ m' (if 1099511627776 < m' then true else g) (((bs s).drop (i+1)).take (Zn isD ((bs s).drop (i+1))))).2,t):=by
        intro m' hm';refine (zkd hs a t n (i+1) m' _ hm' (by omega) (by omega)).trans ?_;congr 4;omega
      simp only [List.take_succ_cons,wQ];by_cases h40:m<=1099511627776
      · rw [jr (show (m:Int)<=1099511627776 by omega)];simp only [jr h40,jf];rw [<- step _ (by omega)];by_cases hg:1099511627776 < m * 10+(c.toNat - 48)
        ·rw [jr (show (1099511627776:Int) < ((m * 10+(c.toNat - 48):Nat):Int) by omega),jr hg];grind
        ·rw [js (show ¬ (1099511627776:Int) < ((m * 10+(c.toNat - 48):Nat):Int) by omega),js hg];grind
      · rw [js (show ¬ (m:Int)<=1099511627776 by omega)];simp only [js h40,jf];rw [<- step _ hm];have hg:1099511627776 < m:=by omega
        grind
abbrev zxs:q9:=⟨0,lit [],0,0⟩
def rNx (i:Nat) (l:List UInt8):Nx->q9×Int
 | .tok k n v=>(⟨k,lit (l.take n),v,i⟩,0)
 | .err e=>(zxs,e)
 | .skip _=>(zxs,0)
theorem zvB {r:List UInt8}(hs:s.size<=16384) (hl:(bs s).drop i=c::r) :
    q5v (s,(i:Int))=some (rNx i (c::r) (if isD c then XG (c::r) else if isL c then xq (c::r) else xr (c::r))):=by
  obtain ⟨h1,h2⟩:=Ws hl (by simp);have hc:Zf s (i:Int)=some (c.toNat:Int):=vC (n:=0) hl rfl;unfold q5v qc1;simp only;rw [hc];simp only [jf,zbF,zcR];by_cases hL:isL c=true
  · have hD:isD c=false:=by
      simp only [isL,Uv,g9,jh] at hL;simp only [isD,Bool.and_eq_false_imp,jh,decide_eq_false_iff_not];omega
    rw [jr hL];have hloop:=zhx hs (i:Int) ((⟨0,lit [],0,0⟩,⟨0,lit [],0,(i:Int)⟩):RT) _ i rfl (by omega);rw [hl] at hloop;rw [show lpO (q6v q2i q3z q3d q3n) (s,(i:Int),(i:Int),(⟨0,lit [],0,0⟩:q9),(⟨0,lit [],0,(i:Int)⟩:q9))=_ from hloop];simp only [jf];rw [X0 hl (by simp) (XF _ _)];have hlen:((c::r).take (Zn isW (c::r))).length=Zn isW (c::r):=by rw [UH];have:=XF isW (c::r);omega
    simp only [jf,wg,hlen,jh,zst];rw [hD];simp only [jg,jk,hL,jl];unfold xq;by_cases h:16 < Zn isW (c::r)
    ·rw [jr (by omega),jr h];rfl
    · rw [js (by omega),js h];by_cases hk:zbB ((c::r).take (Zn isW (c::r)))=true
      ·rw [jr hk,jr hk];rfl
      ·rw [js hk,js hk];rfl
  · rw [js hL];simp only [jf,ji];by_cases hD:isD c=true
    · rw [jr hD,jr hD];have hn:=XF isD (c::r);have hn1:1<=Zn isD (c::r):=by rw [yL];simp [hD]
      have hloop:=zkd hs (i:Int) ((⟨0,lit [],0,0⟩,⟨0,lit [],0,(i:Int)⟩):RT) _ i 0 false (by omega) rfl (by omega);rw [hl] at hloop;rw [show lpO (q6w q2i q3z q3d q3n) (s,(i:Int),(i:Int),0,false,(⟨0,lit [],0,0⟩:q9),(⟨0,lit [],0,(i:Int)⟩:q9))=_ from hloop];have hnum:=zlU ((c::r).take (Zn isD (c::r))) 0 (by omega);have hN:Wp 0 ((c::r).take (Zn isD (c::r)))=YL ((c::r).take (Zn isD (c::r))):=rfl;rw [hN] at hnum;unfold XG WS;generalize hnr:Zn isD (c::r)=n at *
      generalize hpq:wQ 0 false ((c::r).take n)=pq at *
      obtain ⟨p,q⟩:=pq;simp only [jf,jh];have hlast:(if (((i+n:Nat):Int) < (s.size:Int)) then (Zf s ((i+n:Nat):Int)).bind fun y=>(q2i y).bind fun z=>some (s,(i:Int),((i+n:Nat):Int),(p:Int),q,z,((⟨0,lit [],0,0⟩,⟨0,lit [],0,(i:Int)⟩):RT)) else some (s,(i:Int),((i+n:Nat):Int),(p:Int),q,false,(((⟨0,lit [],0,0⟩,⟨0,lit [],0,(i:Int)⟩):RT):RT)))=some (s,(i:Int),((i+n:Nat):Int),(p:Int),q,zbC (c::r)[n]?,(((⟨0,lit [],0,0⟩,⟨0,lit [],0,(i:Int)⟩):RT):RT)):=by
        by_cases hb:i+n < s.size
        · have:n < (c::r).length:=by omega
          have hg:=Uq this;generalize (c::r)[n]=b at hg;rw [vC hl hg,hg];simp only [jf,zbF];rw [jr (Int.ofNat_lt.2 hb)];rfl
        ·have:(c::r)[n]?=none:=List.getElem?_eq_none (by omega);rw [this,js (fun h=>hb (Int.ofNat_lt.1 h))];rfl
      rw [show (if (((i+n:Nat):Int) < (s.size:Int)) then (Zf s ((i+n:Nat):Int)).bind fun y=>(q2i y).bind fun z=>some (s,(i:Int),((i+n:Nat):Int),(p:Int),q,z,((⟨0,lit [],0,0⟩,⟨0,lit [],0,(i:Int)⟩):RT)) else some (s,(i:Int),((i+n:Nat):Int),(p:Int),q,false,(((⟨0,lit [],0,0⟩,⟨0,lit [],0,(i:Int)⟩):RT):RT)))=_ from hlast];simp only [jf,hc];have e1:((i:Int)+1)=((i+1:Nat):Int):=by omega
      have hw:=xI (n:=i) (by omega);by_cases h40:1099511627776 < YL ((c::r).take n)
      ·rw [jr h40] at hnum;simp only at hnum;subst hnum;simp [h40,rNx]
      · rw [js h40] at hnum;simp only [Prod.mk.injEq] at hnum;obtain ⟨hp,hq⟩:=hnum;subst hp hq;simp only [jg,jk];cases hlt:zbC (c::r)[n]? with
        |true=>simp [h40,rNx]
        |false=>
          simp only [jg,jk,hw];have e48:((c.toNat:Int)=48)↔c=48:=by
            constructor
            ·intro h;exact UInt8.toNat_inj.1 (by grind)
            ·intro h;rw [h];rfl
          by_cases h48:c=48
          · rw [jr (e48.2 h48)];simp only [jf];by_cases h1n:1 < n
            · have:((i+1:Nat):Int) < ((i+n:Nat):Int):=by omega
              simp [h40,h1n,h48,this,rNx];grind
            · have:¬ ((i+1:Nat):Int) < ((i+n:Nat):Int):=by omega
              simp only [this,jm,jg,jk,h40,h1n,Bool.false_and,Bool.or_false];rw [X0 hl (by simp) hn];rfl
          ·rw [js (fun h=>h48 (e48.1 h))];simp only [jf,jg,jk];rw [X0 hl (by simp) hn];simp only [h40,h48,jm,List.head?_cons,Option.some.injEq,Bool.and_false,Bool.or_false,jg,jk];rfl
    · rw [js hD,js hD,js hL];simp only [jf,ji];rw [zsu hs hl (by simp)];simp only [jf,jh];unfold xr;have hle:=zfC (c::r);by_cases h0:YB (c::r)=0
      ·rw [jr (by omega),jr h0];rfl
      ·rw [js (by omega),js h0,Vh (by omega),X0 hl (by simp) hle];rfl
theorem zhy (hs:s.size<=16384) {f:Ua×Int->Uc (q9×Int)}(out:Sl q9):∀ (n i:Nat),s.size - i=n->i<=s.size->lpO (q7b f) (s,(i:Int),out)=some (s,((i+Zn wO ((bs s).drop i):Nat):Int),out)
 |0,i,hn,hi=>by
  have:i=s.size:=by omega
  subst this;rw [Zr];simp [q7b,Uf,yc,zby]
 |n+1,i,hn,hi=>by
  have hlt:i < s.size:=by omega
  obtain ⟨c,hc,hd⟩:=VH (l:=bs s) (i:=i) (by rw [yc];exact hlt);rw [Zr];simp only [q7b,jh];rw [jr (Int.ofNat_lt.2 hlt),Xv hc];have hw:=xI (n:=i) (by omega);simp only [jf,hw];rw [hd,yL];have e10:((c.toNat:Int)≠10)↔wO c=true:=by simp only [wO,jh];omega
  by_cases h:wO c=true
  ·rw [jr (gc (e10.2 h)),jr h];simp only [jf];refine (zhy hs out n (i+1) (by omega) (by omega)).trans ?_;congr 3;omega
  grind
abbrev toR (t:qm):q9:=⟨t.k_,t.T_,t.N_,t.a_⟩
noncomputable abbrev zdp:=q7c q5v
theorem zxt (hne:l≠[]) {e:Int}(h:nxt l = .err e):e≠0:=by
 match l,hne with
 |c::r,_=>
  unfold nxt at h;simp only at h;split at h
  ·cases h
  ·split at h
   ·cases h
   ·split at h
    ·unfold XG at h;grind
    ·split at h
     ·unfold xq at h;grind
     ·unfold xr at h;grind
theorem zsv (hs:s.size<=16384) (hl:(bs s).drop i=l) (hne:l≠[]) (out:Sl q9) :
    zdp (s,(i:Int),out)=match nxt l with
      | .skip n=>some (.next (s,((i+n:Nat):Int),out))
      | .err e=>some (.done (.inl ((i:Int),e)))
      | .tok k n v=>(zp 40 out [⟨k,lit (l.take n),v,i⟩]).bind fun o=>some (.next (s,((i+n:Nat):Int),o)):=by
  obtain ⟨h1,h2⟩:=Ws hl hne
  match l,hne with
  |c::r,hne=>
    have hc:Zf s (i:Int)=some (c.toNat:Int):=vC (n:=0) hl rfl;have hpos:=Wr (l:=c::r) (by simp);have herr:=fun e=>zxt (l:=c::r) (by simp) (e:=e)
    simp only [zdp,q7c];rw [jr (gc (Int.ofNat_lt.2 h1)),hc];have hw:=xI (n:=i) (by omega);simp only [jf];have e32:((c.toNat:Int)=32)↔c.toNat=32:=by omega
    have e10:((c.toNat:Int)=10)↔c.toNat=10:=by omega
    have e35:((c.toNat:Int)=35)↔c.toNat=35:=by omega
    unfold nxt at hpos herr |-
    simp only at hpos herr |-
    by_cases hb:c.toNat=32\/c.toNat=10
    · rw [jr hb];simp only;rcases hb with hb | hb
      ·grind
      · have:¬ c.toNat=32:=by omega
        rw [js (fun h=>this (e32.1 (UP h)))];grind
    · rw [js hb] at hpos herr |-
      have n32:¬ c.toNat=32:=fun h=>hb (.inl h)
      have n10:¬ c.toNat=10:=fun h=>hb (.inr h)
      rw [js (fun h=>n32 (e32.1 (UP h)))];simp only [jf,jh];rw [js (fun h=>n10 (e10.1 h)),hc];simp only [jf];by_cases h35:c.toNat=35
      ·have hsk:=zhy hs (f:=q5v) out _ i rfl (by omega);grind
      · rw [js (fun h=>h35 (e35.1 h))];rw [js h35] at hpos herr |-
        rw [zvB hs hl];have hns:∀ n,(if isD c=true then XG (c::r) else if isL c=true then xq (c::r) else xr (c::r)) ≠.skip n:=by
          intro n h;split at h
          ·unfold XG at h;grind
          · split at h
            ·unfold xq at h;grind
            ·unfold xr at h;grind
        generalize (if isD c=true then XG (c::r) else if isL c=true then xq (c::r) else xr (c::r))=x at hpos herr hns;cases x with
        |skip n=>
          grind
        |err e=>
          have:=herr e rfl;simp only [rNx,jf];grind
        |tok k n v=>
          simp only [XS] at hpos;simp only [rNx,jf,UF,jp,jk,ga,jj];have hz:(lit ((c::r).take n)).size=n:=by rw [wg,UH];omega
          rw [hz,Vh (by omega)]
theorem zqn (hs:s.size<=16384):∀ (n i:Nat) (acc:List q9) (nn:Bool),s.size - i<=n->i<=s.size->acc.length<=i->
    lpO zdp (s,(i:Int),⟨acc,nn⟩)=some (match Wq i ((bs s).drop i) with
      | .inl x =>.inl ((x.1:Int),x.2)
      | .inr ts =>.inr (s,⟨acc++ts.map toR,nn || !ts.isEmpty⟩)):=by
  intro n
  induction n with
  |zero=>
    intro i acc nn hn hi ha;have:i=s.size:=by omega
    subst this;rw [Zr];have hd:(bs s).drop s.size=[]:=Uf (by rw [yc];grind);rw [hd,zbD];simp [zdp,q7c]
  |succ n ih=>
    intro i acc nn hn hi ha;rcases Nat.lt_or_ge i s.size with hlt | hge
    · have hne:(bs s).drop i≠[]:=by
        intro e;have:=congrArg List.length e;rw [Ux,yc] at this;grind
      have hp:=Wr hne;have hlen:((bs s).drop i).length=s.size - i:=by rw [Ux,yc]
      rw [Zr,zsv hs rfl hne,zcO _ hne];cases hx:nxt ((bs s).drop i) with
      |err e=>rfl
      |skip k=>
        rw [hx] at hp;simp only [XS] at hp;simp only [jf,List.drop_drop];rw [ih (i+k) acc nn (by omega) (by omega) (by omega)]
      |tok k m v=>
        rw [hx] at hp;simp only [XS] at hp;simp only [List.drop_drop];rw [Yg (by grind) (by grind)];simp only [jf];rw [ih (i+m) _ _ (by omega) (by omega) (by grind)];grind
    grind
theorem znK (s:Ua):q62 s=some ((ZY s).1,(ZY s).2.1,⟨(ZY s).2.2.xs.map toR,(ZY s).2.2.nn⟩):=by
 unfold q62 qaf ZY;simp only [jh];by_cases h:16384 < s.size
 ·grind
 ·rw [js (by omega),js h];have:=zqn (s:=s) (by omega) s.size 0 [] false (by omega) (by omega) (by simp);rw [UN] at this;rw [show ((s,0,Sl.mk [] false):Ua×Int×Sl q9)=(s,((0:Nat):Int),⟨[],false⟩) from rfl,this];cases hx:Wq 0 (bs s) with
  |inl x=>rfl
  |inr ts=>
   have hl:=Vj _ _ _ _ (Ur _) hx;rw [yc] at hl;simp only [jf,ji,UK,De];rw [Yg (by grind) (by grind)];simp
end Go.Px
