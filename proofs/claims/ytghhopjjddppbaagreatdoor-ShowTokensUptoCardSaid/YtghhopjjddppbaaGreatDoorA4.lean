/- Part A4: PxM11 PxM12 PxM13 PxM14 PxM15 PxM16 PxM17 PxM -/
import Derived.Test.YtghhopjjddppbaaGreatDoorA3
import Derived.Scope
namespace Go.Px
set_option linter.unusedSectionVars false
variable [Dfr]
set_option linter.unusedVariables false
inductive Sh where
 |int (k:IntKind)
 |bool
 |str
 |val (T:Nat)
 |sl (T:Nat)
 |row (k:Nat)
 |pc (k off:Nat)
 |pr (k T off:Nat)
 |pz (T off:Nat)
 |pnil
 |nils
 |nilf
 |nili
 |und
 |clo (f:Nat) (l:List Sh)
 |agg (l:List Sh)
 |tup (l:List Sh)
 |ifc (t:Nat) (s:Sh)
mutual
def Sh.unit:Sh→Bool
 | .row _=>true
 | .pc _ _=>true
 | .pnil=>true
 | .nils=>true
 | .nilf=>true
 | .nili=>true
 | .und=>true
 | .clo _ l=>Sh.units l
 | .agg l=>Sh.units l
 | .tup l=>Sh.units l
 | .ifc _ s=>s.unit
 |_=>false
def Sh.units:List Sh→Bool
 |[]=>true
 |s::l=>s.unit && Sh.units l
end
def Pty (u v:Bool) (A B:Type):Type:=match u,v with
 |true,_=>B
 |false,true=>A
 |false,false=>A×B
def Pty.mk {u v:Bool}{A B:Type}(x:A) (y:B):Pty u v A B:=match u,v with
 |true,_=>y
 |false,true=>x
 |false,false=>(x,y)
def Pty.fst {u v:Bool}{A B:Type}(d:u=true→A) (p:Pty u v A B):A:=match u,v,d,p with
 |true,_,d,_=>d rfl
 |false,true,_,x=>x
 |false,false,_,x=>x.1
def Pty.snd {u v:Bool}{A B:Type}(d:v=true→B) (p:Pty u v A B):B:=match u,v,d,p with
 |true,_,_,y=>y
 |false,true,d,_=>d rfl
 |false,false,_,x=>x.2
omit [Dfr] in
theorem Pty.fst_mk {u v:Bool}{A B:Type}{d:u=true→A} {x:A}{y:B}(h:∀ e,d e=x):Pty.fst d (Pty.mk (u:=u) (v:=v) x y)=x:=by
 cases u <;> cases v <;> first | exact h rfl | rfl
omit [Dfr] in
theorem Pty.snd_mk {u v:Bool}{A B:Type}{d:v=true→B} {x:A}{y:B}(h:∀ e,d e=y):Pty.snd d (Pty.mk (u:=u) (v:=v) x y)=y:=by
 cases u <;> cases v <;> first | exact h rfl | rfl
mutual
def Sh.ty (C:Cod):Sh→Type
 | .int _=>Int
 | .bool=>Bool
 | .str=>ByteArray
 | .val T=>C.D T
 | .sl T=>Sl (C.D T)
 | .pr _ _ _=>Int
 | .pz T _=>C.D T
 | .clo _ l=>Sh.tys C l
 | .agg l=>Sh.tys C l
 | .tup l=>Sh.tys C l
 | .ifc _ s=>s.ty C
 | .row _=>Unit
 | .pc _ _=>Unit
 | .pnil=>Unit
 | .nils=>Unit
 | .nilf=>Unit
 | .nili=>Unit
 | .und=>Unit
def Sh.tys (C:Cod):List Sh→Type
 |[]=>Unit
 |s::l=>Pty s.unit (Sh.units l) (s.ty C) (Sh.tys C l)
end
mutual
def Sh.dflt (C:Cod):(s:Sh)→s.unit=true→s.ty C
 | .row _,_=>()
 | .pc _ _,_=>()
 | .pnil,_=>()
 | .nils,_=>()
 | .nilf,_=>()
 | .nili,_=>()
 | .und,_=>()
 | .clo _ l,h=>Sh.dflts C l h
 | .agg l,h=>Sh.dflts C l h
 | .tup l,h=>Sh.dflts C l h
 | .ifc _ s,h=>s.dflt C h
def Sh.dflts (C:Cod):(l:List Sh)→Sh.units l=true→Sh.tys C l
 |[],_=>()
 |s::l,h=>Pty.mk (s.dflt C (Bool.and_eq_true_iff.1 h).1) (Sh.dflts C l (Bool.and_eq_true_iff.1 h).2)
end
section
variable {C:Cod}
omit [Dfr] in
theorem Pty.unique {u v:Bool}{A B:Type}(hu:u=true) (hB:v=true→∀ x y:B,x=y) (hv:v=true):∀ x y:Pty u v A B,x=y:=by
 subst hu;subst hv;exact hB rfl
omit [Dfr] in
mutual
theorem Sh.unique:∀ (s:Sh),s.unit=true→∀ x y:s.ty C,x=y
 | .row _,_=>fun _ _=>rfl
 | .pc _ _,_=>fun _ _=>rfl
 | .pnil,_=>fun _ _=>rfl
 | .nils,_=>fun _ _=>rfl
 | .nilf,_=>fun _ _=>rfl
 | .nili,_=>fun _ _=>rfl
 | .und,_=>fun _ _=>rfl
 | .clo _ l,h=>Sh.uniques l h
 | .agg l,h=>Sh.uniques l h
 | .tup l,h=>Sh.uniques l h
 | .ifc _ s,h=>s.unique h
theorem Sh.uniques:∀ (l:List Sh),Sh.units l=true→∀ x y:Sh.tys C l,x=y
 |[],_=>fun _ _=>rfl
 |s::l,h=>Pty.unique (Bool.and_eq_true_iff.1 h).1 (fun hv=>Sh.uniques l hv) (Bool.and_eq_true_iff.1 h).2
end
abbrev Sh.hd {s:Sh}{l:List Sh}(p:Sh.tys C (s::l)):s.ty C:=Pty.fst (s.dflt C) p
abbrev Sh.tl {s:Sh}{l:List Sh}(p:Sh.tys C (s::l)):Sh.tys C l:=Pty.snd (Sh.dflts C l) p
abbrev Sh.pk {s:Sh}{l:List Sh}(x:s.ty C) (y:Sh.tys C l):Sh.tys C (s::l):=Pty.mk x y
omit [Dfr] in
theorem Sh.hd_pk {s:Sh}{l:List Sh}{x:s.ty C}{y:Sh.tys C l}:Sh.hd (Sh.pk x y:Sh.tys C (s::l))=x:=Pty.fst_mk fun e=>s.unique e _ _
omit [Dfr] in
theorem Sh.tl_pk {s:Sh}{l:List Sh}{x:s.ty C}{y:Sh.tys C l}:Sh.tl (Sh.pk x y:Sh.tys C (s::l))=y:=Pty.snd_mk fun e=>Sh.uniques l e _ _
def zjD {D:Nat→Type}:AV D→Bool
 | .agg _=>true
 |_=>false
def zct {T T':Nat}(s:Sl (C.D T')):Option (Sl (C.D T)):=if h:T'=T then some (h ▸ s) else none
def zeJ {T T':Nat}(s:C.D T'):Option (C.D T):=if h:T'=T then some (h ▸ s) else none
def zcu:Option Nat→Nat→Bool
 |some a,b=>Nat.beq a b
 |none,_=>false
def Sh.isVal:Sh→Option Nat
 | .val T=>some T
 |_=>none
def zpD (s:Sh) {T:Nat}(z:C.D T):Option (s.ty C):=match s with
 | .val T'=>zeJ z
 |_=>none
def Sh.vcells {C:Cod}(s:Sh) (x:s.ty C):List (AV C.D):=match s,x with
 | .val T,x=>C.emb T x
 |_,_=>[]
mutual
def Sh.get (B:Nat→Option Nat):(s:Sh)→AV C.D→Option (s.ty C)
 | .int k,A=>(match A with
  | .int k' n=>chk (decide (k=k')) (some n)
  |_=>none)
 | .bool,A=>(match A with
  | .bool b=>some b
  |_=>none)
 | .str,A=>(match A with
  | .str s=>some s
  |_=>none)
 | .val T,A=>chk (x8 A && (zjD A == C.agg T)) (C.imp T (Zk A))
 | .sl T,A=>(match A with
  | .sl _ s _=>zct s
  | .nils=>some ⟨[],false⟩
  |_=>none)
 | .pr k T off,A=>(match A with
  | .pr id T' i off'=>chk (zcu (B k) id && (Nat.beq T T' && Nat.beq off off')) (some i)
  |_=>none)
 | .pz T off,A=>(match A with
  | .pz _ x off'=>chk (Nat.beq off off') (zeJ x)
  |_=>none)
 | .row k,A=>(match A with
  | .row id=>chk (zcu (B k) id) (some ())
  |_=>none)
 | .pc k off,A=>(match A with
  | .pc id off'=>chk (zcu (B k) id && Nat.beq off off') (some ())
  |_=>none)
 | .pnil,A=>(match A with
  | .pnil=>some ()
  |_=>none)
 | .nils,A=>(match A with
  | .nils=>some ()
  |_=>none)
 | .nilf,A=>(match A with
  | .nilf=>some ()
  |_=>none)
 | .nili,A=>(match A with
  | .nili=>some ()
  |_=>none)
 | .und,_=>some ()
 | .clo f l,A=>(match A with
  | .clo f' cs=>chk (Nat.beq f f') (Sh.gets B l cs)
  |_=>none)
 | .agg l,A=>(match A with
  | .agg cs=>Sh.getc B l cs
  |_=>none)
 | .tup l,A=>(match A with
  | .tup cs=>Sh.gets B l cs
  |_=>none)
 | .ifc t s,A=>(match A with
  | .ifc t' A=>chk (Nat.beq t t') (Sh.get B s A)
  |_=>none)
def Sh.gets (B:Nat→Option Nat):(l:List Sh)→List (AV C.D)→Option (Sh.tys C l)
 |[],As=>(match As with
  |[]=>some ()
  |_::_=>none)
 |s::l,As=>(match As with
  |A::As=>(Sh.get B s A).bind fun x=>(Sh.gets B l As).bind fun y=>some (Sh.pk x y)
  |[]=>none)
def Sh.getc (B:Nat→Option Nat):(l:List Sh)→List (AV C.D)→Option (Sh.tys C l)
 |[],As=>(match As with
  |[]=>some ()
  |_::_=>none)
 |s::l,As=>(match Sh.isVal s with
  |some T=>(C.imp T (As.take (C.size T))).bind fun z=>(zpD s z).bind fun x=>(Sh.getc B l (As.drop (C.size T))).bind fun y=>some (Sh.pk x y)
  |none=>(match As with
   |A::As=>chk A.leaf ((Sh.get B s A).bind fun x=>(Sh.getc B l As).bind fun y=>some (Sh.pk x y))
   |[]=>none))
end
mutual
def Sh.put (ρ:Nat→Nat):(s:Sh)→s.ty C→AV C.D
 | .int k,n =>.int k n
 | .bool,b =>.bool b
 | .str,s =>.str s
 | .val T,x=>vT (C.agg T) (C.emb T x)
 | .sl T,s =>.sl T s false
 | .pr k T off,i =>.pr (ρ k) T i off
 | .pz T off,x =>.pz T x off
 | .row k,_ =>.row (ρ k)
 | .pc k off,_ =>.pc (ρ k) off
 | .pnil,_ =>.pnil
 | .nils,_ =>.nils
 | .nilf,_ =>.nilf
 | .nili,_ =>.nili
 | .und,_ =>.und
 | .clo f l,x =>.clo f (Sh.puts ρ l x)
 | .agg l,x =>.agg (Sh.putc ρ l x)
 | .tup l,x =>.tup (Sh.puts ρ l x)
 | .ifc t s,x =>.ifc t (Sh.put ρ s x)
def Sh.puts (ρ:Nat→Nat):(l:List Sh)→Sh.tys C l→List (AV C.D)
 |[],_=>[]
 |s::l,x=>Sh.put ρ s (Sh.hd x)::Sh.puts ρ l (Sh.tl x)
def Sh.putc (ρ:Nat→Nat):(l:List Sh)→Sh.tys C l→List (AV C.D)
 |[],_=>[]
 |s::l,x=>match Sh.isVal s with
  |some _=>Sh.vcells s (Sh.hd x)++Sh.putc ρ l (Sh.tl x)
  |none=>Sh.put ρ s (Sh.hd x)::Sh.putc ρ l (Sh.tl x)
end
end
end Go.Px
namespace Go.Px
set_option linter.unusedSectionVars false
variable [Dfr]
set_option linter.unusedVariables false
section
variable {C:Cod}{σ:FS}{ν ν':Val}{B:Nat→Option Nat}{ρ:Nat→Nat}
omit [Dfr] in
theorem Vd {T T':Nat}{s:Sl (C.D T')}{s':Sl (C.D T)}(h:zct s=some s'):∃ e:T'=T,e ▸ s=s':=by
 unfold zct at h
 split at h
 ·rename_i e;exact ⟨e,Option.some.inj h⟩
 ·cases h
omit [Dfr] in
theorem zcv {T T':Nat}{s:C.D T'}{s':C.D T}(h:zeJ s=some s'):∃ e:T'=T,e ▸ s=s':=by
 unfold zeJ at h
 split at h
 ·rename_i e;exact ⟨e,Option.some.inj h⟩
 ·cases h
omit [Dfr] in
theorem Xz {x:Option Nat}{a:Nat}(h:zcu x a=true):x=some a:=by
 cases x with
 |none=>cases h
 |some b=>rw [Nat.eq_of_beq_eq_true h]
omit [Dfr] in
theorem zd9 {us:List Value}{cs ds:List (AV C.D)}(h:VRs C σ ν us cs) (l:ze0 cs ds) (hb:∀ A∈ds,A.base=true):VRs C σ ν' us ds:=
 .of (by rw [(Va h l).len]) fun j u A h1 h2=>((Va h l).rel h1 h2 |>.rv (hb A (List.mem_of_getElem? h2))).vr
structure Rn (B:Nat→Option Nat) (ρ:Nat→Nat) (ν ν':Val):Prop where
 eq:∀ k id,B k=some id→ν'.hdr (ρ k)=ν.hdr id∧ν'.adr (ρ k)=ν.adr id
 one:∀ i,(ν.hdr i).oneCell'=true
omit [Dfr] in
mutual
theorem Sh.get_put (hν:Rn B ρ ν ν'):∀ (s:Sh) {A:AV C.D}{x:s.ty C},Sh.get B s A=some x→∀ {v:Value},VR C σ ν v A→VR C σ ν' v (Sh.put ρ s x)
 | .int k,A,x,h,v,r=>by
  cases A <;> first | (cases h;done) | skip
  obtain ⟨hk,h⟩:=zc h;cases h;obtain rfl:=of_decide_eq_true hk;exact (r:Rv C σ v _)
 | .bool,A,x,h,v,r=>by
  cases A <;> first | (cases h;done) | skip
  cases h;exact (r:Rv C σ v _)
 | .str,A,x,h,v,r=>by
  cases A <;> first | (cases h;done) | skip
  cases h;exact (r:Rv C σ v _)
 | .val T,A,x,h,v,r=>by
  obtain ⟨hc,h⟩:=zc h
  simp only [Bool.and_eq_true,beq_iff_eq] at hc
  obtain ⟨hr,_⟩:=YP r hc.1 hν.one
  have h2:VRs C σ ν' v.cells.toList (C.emb T x):=zd9 hr (C.imp_ok T _ x h) (C.base T x)
  have hv:v=Z4 (C.agg T) v.cells.toList:=by
   rcases zaa hc.1 with hl | ⟨cs,rfl,_⟩
   ·have h1:=r.one hl hν.one
    have:zjD A=false:=by cases A <;> first | rfl | cases hl
    rw [← hc.2,this]
    cases v <;> simp_all [Value.oneCell',Value.cells,Z4]
   ·obtain ⟨vs,rfl,_⟩:=r
    rw [← hc.2];rfl
  rw [hv]
  exact h2.val
 | .sl T,A,x,h,v,r=>by
  cases A <;> first | (cases h;done) | skip
  ·obtain ⟨e,rfl⟩:=Vd h
   subst e
   exact (Rv.of_vrel (r.sl_vrel)).vr
  ·cases h
   exact zjw (A :=.nils) r (.inr (.inr ⟨T,false,rfl,rfl⟩))
 | .pr k T off,A,x,h,v,r=>by
  cases A <;> first | (cases h;done) | skip
  obtain ⟨hc,h⟩:=zc h
  simp only [Bool.and_eq_true] at hc
  cases h
  obtain rfl:=Nat.eq_of_beq_eq_true hc.2.1
  obtain rfl:=Nat.eq_of_beq_eq_true hc.2.2
  show v = .pointer (some (zp (ν'.hdr (ρ k)) _))
  rw [(hν.eq k _ (Xz hc.1)).1];exact r
 | .pz T off,A,x,h,v,r=>by
  cases A <;> first | (cases h;done) | skip
  obtain ⟨hc,h2⟩:=zc h
  obtain rfl:=Nat.eq_of_beq_eq_true hc
  obtain ⟨e,rfl⟩:=zcv h2
  subst e
  exact (r:Rv C σ v _)
 | .row k,A,x,h,v,r=>by
  cases A <;> first | (cases h;done) | skip
  obtain ⟨hc,h⟩:=zc h
  show v=ν'.hdr (ρ k)
  rw [(hν.eq k _ (Xz hc)).1];exact r
 | .pc k off,A,x,h,v,r=>by
  cases A <;> first | (cases h;done) | skip
  obtain ⟨hc,h⟩:=zc h
  simp only [Bool.and_eq_true] at hc
  obtain rfl:=Nat.eq_of_beq_eq_true hc.2
  show v = .pointer (some ((ν'.adr (ρ k)).add _))
  rw [(hν.eq k _ (Xz hc.1)).2];exact r
 | .pnil,A,x,h,v,r=>by
  cases A <;> first | (cases h;done) | exact (r:Rv C σ v _)
 | .nils,A,x,h,v,r=>by
  cases A <;> first | (cases h;done) | exact r
 | .nilf,A,x,h,v,r=>by
  cases A <;> first | (cases h;done) | exact (r:Rv C σ v _)
 | .nili,A,x,h,v,r=>by
  cases A <;> first | (cases h;done) | exact (r:Rv C σ v _)
 | .und,A,x,h,v,r=>trivial
 | .clo f l,A,x,h,v,r=>by
  cases A <;> first | (cases h;done) | skip
  obtain ⟨hc,h2⟩:=zc h
  obtain rfl:=Nat.eq_of_beq_eq_true hc
  obtain ⟨vs,e,r⟩:=r
  exact ⟨vs,e,Sh.gets_puts hν l h2 r⟩
 | .agg l,A,x,h,v,r=>by
  cases A <;> first | (cases h;done) | skip
  obtain ⟨vs,e,r⟩:=r
  exact ⟨vs,e,Sh.getc_putc hν l h r⟩
 | .tup l,A,x,h,v,r=>by
  cases A <;> first | (cases h;done) | skip
  obtain ⟨vs,e,r⟩:=r
  exact ⟨vs,e,Sh.gets_puts hν l h r⟩
 | .ifc t s,A,x,h,v,r=>by
  cases A <;> first | (cases h;done) | skip
  obtain ⟨hc,h2⟩:=zc h
  obtain rfl:=Nat.eq_of_beq_eq_true hc
  obtain ⟨u,e,r⟩:=r
  exact ⟨u,e,Sh.get_put hν s h2 r⟩
theorem Sh.gets_puts (hν:Rn B ρ ν ν'):∀ (l:List Sh) {As:List (AV C.D)}{x:Sh.tys C l},Sh.gets B l As=some x→∀ {vs:List Value},VRs C σ ν vs As→VRs C σ ν' vs (Sh.puts ρ l x)
 |[],[],x,h,[],r=>trivial
 |s::l,A::As,x,h,v::vs,r=>by
  obtain ⟨y,hy,h⟩:=Option.bind_eq_some_iff.1 h
  obtain ⟨z,hz,h⟩:=Option.bind_eq_some_iff.1 h
  cases h
  simp only [Sh.puts,Sh.hd_pk,Sh.tl_pk]
  exact ⟨Sh.get_put hν s hy r.1,Sh.gets_puts hν l hz r.2⟩
 |[],_::_,x,h,_,r=>by cases h
 |_::_,[],x,h,_,r=>by cases h
 |[],[],x,h,_::_,r=>r.elim
 |_::_,_::_,x,h,[],r=>r.elim
theorem Sh.getc_putc (hν:Rn B ρ ν ν'):∀ (l:List Sh) {As:List (AV C.D)}{x:Sh.tys C l},Sh.getc B l As=some x→∀ {vs:List Value},VRs C σ ν vs As→VRs C σ ν' vs (Sh.putc ρ l x)
 |[],As,x,h,vs,r=>by
  cases As with
  |nil=>cases vs with
   |nil=>trivial
   |cons=>exact r.elim
  |cons=>cases h
 |s::l,As,x,h,vs,r=>by
  have gen:∀ {A:AV C.D} {As:List (AV C.D)},(chk A.leaf ((Sh.get B s A).bind fun x=>(Sh.getc B l As).bind fun y=>some (Sh.pk x y)))=some x→VRs C σ ν vs (A::As)→VRs C σ ν' vs (Sh.put ρ s (Sh.hd x)::Sh.putc ρ l (Sh.tl x)):=by
   intro A As h r
   obtain ⟨_,h⟩:=zc h
   obtain ⟨y,hy,h⟩:=Option.bind_eq_some_iff.1 h
   obtain ⟨z,hz,h⟩:=Option.bind_eq_some_iff.1 h
   cases h
   cases vs with
   |nil=>exact r.elim
   |cons v vs=>
    simp only [Sh.hd_pk,Sh.tl_pk]
    exact ⟨Sh.get_put hν s hy r.1,Sh.getc_putc hν l hz r.2⟩
  unfold Sh.getc at h
  unfold Sh.putc
  cases hs:Sh.isVal s with
  |some T=>
   obtain rfl:s = .val T:=by cases s <;> first | cases hs;rfl | cases hs
   simp only [hs] at h ⊢
   obtain ⟨w,hw,h⟩:=Option.bind_eq_some_iff.1 h
   obtain ⟨y,hy,h⟩:=Option.bind_eq_some_iff.1 h
   obtain ⟨z,hz,h⟩:=Option.bind_eq_some_iff.1 h
   obtain ⟨e,rfl⟩:=zcv hy
   cases h
   rw [show Sh.hd (s :=.val T) (l:=l) (Sh.pk (s :=.val T) w z)=w from Sh.hd_pk,show Sh.tl (s :=.val T) (l:=l) (Sh.pk (s :=.val T) w z)=z from Sh.tl_pk]
   rw [← List.take_append_drop (C.size T) vs]
   exact (zd9 (r.take _) (C.imp_ok T _ w hw) (C.base T w)).append (Sh.getc_putc hν l hz (r.drop _))
  |none=>
   simp only [hs] at h ⊢
   cases As with
   |nil=>cases h
   |cons A As=>exact gen h r
end
def InB (B:Nat→Option Nat) (ρ:Nat→Nat) (j:Nat):Prop:=∃ k id,B k=some id∧j=ρ k
omit [Dfr] in
mutual
theorem Sh.put_ok:∀ (s:Sh) {A:AV C.D}{x:s.ty C},Sh.get B s A=some x→(Sh.put ρ s x).ok (InB B ρ)
 | .int k,A,x,h=>trivial
 | .bool,A,x,h=>trivial
 | .str,A,x,h=>trivial
 | .val T,A,x,h=>zgP zbc
 | .sl T,A,x,h=>trivial
 | .pr k T off,A,x,h=>by
  cases A <;> first | (cases h;done) | skip
  obtain ⟨hc,h⟩:=zc h
  simp only [Bool.and_eq_true] at hc
  exact ⟨k,_,Xz hc.1,rfl⟩
 | .pz T off,A,x,h=>trivial
 | .row k,A,x,h=>by
  cases A <;> first | (cases h;done) | skip
  obtain ⟨hc,h⟩:=zc h
  exact ⟨k,_,Xz hc,rfl⟩
 | .pc k off,A,x,h=>by
  cases A <;> first | (cases h;done) | skip
  obtain ⟨hc,h⟩:=zc h
  simp only [Bool.and_eq_true] at hc
  exact ⟨k,_,Xz hc.1,rfl⟩
 | .pnil,A,x,h=>trivial
 | .nils,A,x,h=>trivial
 | .nilf,A,x,h=>trivial
 | .nili,A,x,h=>trivial
 | .und,A,x,h=>trivial
 | .clo f l,A,x,h=>by
  cases A <;> first | (cases h;done) | skip
  obtain ⟨hc,h⟩:=zc h
  exact Sh.puts_ok l h
 | .agg l,A,x,h=>by
  cases A <;> first | (cases h;done) | skip
  exact Sh.putc_ok l h
 | .tup l,A,x,h=>by
  cases A <;> first | (cases h;done) | skip
  exact Sh.puts_ok l h
 | .ifc t s,A,x,h=>by
  cases A <;> first | (cases h;done) | skip
  obtain ⟨hc,h⟩:=zc h
  exact Sh.put_ok s h
theorem Sh.puts_ok:∀ (l:List Sh) {As:List (AV C.D)}{x:Sh.tys C l},Sh.gets B l As=some x→AV.oks (InB B ρ) (Sh.puts ρ l x)
 |[],_,_,_=>trivial
 |s::l,[],x,h=>by cases h
 |s::l,A::As,x,h=>by
  obtain ⟨y,hy,h⟩:=Option.bind_eq_some_iff.1 h
  obtain ⟨z,hz,h⟩:=Option.bind_eq_some_iff.1 h
  cases h
  simp only [Sh.puts,Sh.hd_pk,Sh.tl_pk]
  exact ⟨Sh.put_ok s hy,Sh.puts_ok l hz⟩
theorem Sh.putc_ok:∀ (l:List Sh) {As:List (AV C.D)}{x:Sh.tys C l},Sh.getc B l As=some x→AV.oks (InB B ρ) (Sh.putc ρ l x)
 |[],_,_,_=>trivial
 |s::l,As,x,h=>by
  have gen:∀ {A:AV C.D} {As:List (AV C.D)},(chk A.leaf ((Sh.get B s A).bind fun x=>(Sh.getc B l As).bind fun y=>some (Sh.pk x y)))=some x→AV.oks (InB B ρ) (Sh.put ρ s (Sh.hd x)::Sh.putc ρ l (Sh.tl x)):=by
   intro A As h
   obtain ⟨_,h⟩:=zc h
   obtain ⟨y,hy,h⟩:=Option.bind_eq_some_iff.1 h
   obtain ⟨z,hz,h⟩:=Option.bind_eq_some_iff.1 h
   cases h
   simp only [Sh.hd_pk,Sh.tl_pk]
   exact ⟨Sh.put_ok s hy,Sh.putc_ok l hz⟩
  unfold Sh.getc at h
  unfold Sh.putc
  cases hs:Sh.isVal s with
  |some T=>
   obtain rfl:s = .val T:=by cases s <;> first | cases hs;rfl | cases hs
   simp only [hs] at h ⊢
   obtain ⟨w,hw,h⟩:=Option.bind_eq_some_iff.1 h
   obtain ⟨y,hy,h⟩:=Option.bind_eq_some_iff.1 h
   obtain ⟨z,hz,h⟩:=Option.bind_eq_some_iff.1 h
   cases h
   simp only [Sh.hd_pk,Sh.tl_pk]
   exact AV.oks_append zbc (Sh.putc_ok l hz)
  |none=>
   simp only [hs] at h ⊢
   cases As with
   |nil=>cases h
   |cons A As=>exact gen h
end
end
end Go.Px
namespace Go.Px
set_option linter.unusedSectionVars false
variable [Dfr]
set_option linter.unusedVariables false
inductive ESh where
 |cell (l:List Sh)
 |row (T:Nat)
 |obj (k T:Nat)
 |gone
def ESh.sh:ESh→Sh
 | .cell l =>.agg l
 | .row T =>.sl T
 | .obj k T =>.ifc k (.tup [.str,.sl T])
 | .gone =>.und
def ESh.isGone:ESh→Bool
 | .gone=>true
 |_=>false
structure Sig where
 ts:List (Nat×Sh)
 es:List ESh
def Sig.shs (g:Sig):List Sh:=g.ts.map (·.2)++g.es.map ESh.sh
abbrev Sig.ty (C:Cod) (g:Sig):Type:=Sh.tys C g.shs
section
variable {C:Cod}
def vz (ρ:Nat→Nat):(ts:List (Nat×Sh))→(rest:List Sh)→Sh.tys C (ts.map (·.2)++rest)→Nat→AV C.D
 |[],_,_=>fun _ =>.und
 |(t,s)::ts,rest,x=>fun i=>bif Nat.beq i t then Sh.put ρ s (Sh.hd (s:=s) (l:=ts.map (·.2)++rest) x) else vz ρ ts rest (Sh.tl (s:=s) (l:=ts.map (·.2)++rest) x) i
def Wq:(ts:List (Nat×Sh))→(rest:List Sh)→Sh.tys C (ts.map (·.2)++rest)→Sh.tys C rest
 |[],_,x=>x
 |(t,s)::ts,rest,x=>Wq ts rest (Sh.tl (s:=s) (l:=ts.map (·.2)++rest) x)
def ESh.ent (ρ:Nat→Nat):(e:ESh)→e.sh.ty C→Option (Ent C)
 | .cell l,x=>some (.cell (Sh.putc ρ l x))
 | .row T,s=>some (.row T s)
 | .obj k T,x=>some (.obj k T (Sh.hd (s :=.str) (l:=[.sl T]) x) (Sh.hd (s :=.sl T) (l:=[]) (Sh.tl (s :=.str) (l:=[.sl T]) x)))
 | .gone,_=>none
def yO (ρ:Nat→Nat):(es:List ESh)→Nat→Sh.tys C (es.map ESh.sh)→Nat→Option (Ent C)
 |[],_,_=>fun _=>none
 |e::es,k,x=>fun i=>bif Nat.beq i (ρ k) then e.ent ρ (Sh.hd (s:=e.sh) (l:=es.map ESh.sh) x) else yO ρ es (k+1) (Sh.tl (s:=e.sh) (l:=es.map ESh.sh) x) i
def Sig.open (g:Sig) (x:g.ty C):St C:=
 {env:=vz (fun k=>k) g.ts (g.es.map ESh.sh) x,heap:=yO (fun k=>k) g.es 0 (Wq g.ts (g.es.map ESh.sh) x)}
def zeK:Option (Ent C)→AV C.D
 |some (.cell cs) =>.agg cs
 |some (.row T s) =>.sl T s false
 |some (.obj k T b s) =>.ifc k (.tup [.str b,.sl T s false])
 |none =>.und
abbrev Bl:=List (Option Nat)
def Bl.fn (bl:Bl) (k:Nat):Option Nat:=(bl[k]?).join
def wJ (S:St C) (bl:Bl) (k:Nat):AV C.D:=match Bl.fn bl k with
 |some id=>zeK (S.heap id)
 |none =>.und
def zk5 (bl:Bl) (k id:Nat):Bl:=match Bl.fn bl k with
 |some _=>bl
 |none=>bl.set k (some id)
mutual
def zeL:Sh→AV C.D→Bl→Bl
 | .row k,A,bl=>(match A with
  | .row id=>zk5 bl k id
  |_=>bl)
 | .pc k _,A,bl=>(match A with
  | .pc id _=>zk5 bl k id
  |_=>bl)
 | .pr k _ _,A,bl=>(match A with
  | .pr id _ _ _=>zk5 bl k id
  |_=>bl)
 | .clo _ l,A,bl=>(match A with
  | .clo _ cs=>zcw l cs bl
  |_=>bl)
 | .agg l,A,bl=>(match A with
  | .agg cs=>zcw l cs bl
  |_=>bl)
 | .tup l,A,bl=>(match A with
  | .tup cs=>zcw l cs bl
  |_=>bl)
 | .ifc _ s,A,bl=>(match A with
  | .ifc _ A=>zeL s A bl
  |_=>bl)
 |_,_,bl=>bl
def zcw:List Sh→List (AV C.D)→Bl→Bl
 |[],_,bl=>bl
 |s::l,As,bl=>(match Sh.isVal s with
  |some T=>zcw l (As.drop (C.size T)) bl
  |none=>(match As with
   |A::As=>zcw l As (zeL s A bl)
   |[]=>bl))
end
def zcx (S:St C):List (Nat×Sh)→Bl→Bl
 |[],bl=>bl
 |(t,s)::ts,bl=>zcx S ts (zeL s (S.env t) bl)
def zcy (S:St C):List ESh→Nat→Bl→Bl
 |[],_,bl=>bl
 |e::es,k,bl=>zcy S es (k+1) (zeL e.sh (wJ S bl k) bl)
def zjE:List ESh→Nat→Nat→Bl
 |[],_,_=>[]
 |e::es,k,m=>(bif e.isGone then none else bif Nat.blt k m then some k else none)::zjE es (k+1) m
def yu (g:Sig) (m:Nat) (S:St C):Bl:=zcy S g.es 0 (zcx S g.ts (zjE g.es 0 m))
def YE (id:Nat):Bl→Bool
 |[]=>false
 |some a::r=>Nat.beq a id || YE id r
 |none::r=>YE id r
def ze9 (m:Nat):List ESh→Bl→Nat→Bool
 |[],[],_=>true
 |e::es,b::bl,k=>(match b with
  |some id=> !e.isGone && (!YE id bl && (!Nat.blt k m || Nat.beq k id))
  |none=>e.isGone) && ze9 m es bl (k+1)
 |_,_,_=>false
def Xb (g:Sig) (m:Nat) (S:St C) (bl:Bl):Option (g.ty C):=
 chk (ze9 m g.es bl 0) (Sh.gets (Bl.fn bl) g.shs (g.ts.map (fun t=>S.env t.1)++(List.range g.es.length).map (wJ S bl)))
mutual
def fzS:Sh→AV C.D→List Nat
 | .sl _,A=>AV.rows A
 | .val _,A=>AV.rows A
 | .clo _ l,A=>(match A with
  | .clo _ cs=>fzL l cs
  |_=>[])
 | .agg l,A=>(match A with
  | .agg cs=>fzL l cs
  |_=>[])
 | .tup l,A=>(match A with
  | .tup cs=>fzL l cs
  |_=>[])
 | .ifc _ s,A=>(match A with
  | .ifc _ A=>fzS s A
  |_=>[])
 |_,_=>[]
def fzL:List Sh→List (AV C.D)→List Nat
 |[],_=>[]
 |s::l,As=>(match Sh.isVal s with
  |some T=>AV.rowss (As.take (C.size T))++fzL l (As.drop (C.size T))
  |none=>(match As with
   |A::As=>fzS s A++fzL l As
   |[]=>[]))
end
def fzT (S:St C):List (Nat×Sh)→List Nat
 |[]=>[]
 |(t,s)::ts=>fzS s (S.env t)++fzT S ts
def fzE (S:St C) (bl:Bl):List ESh→Nat→List Nat
 |[],_=>[]
 |e::es,k=>(match e with
  | .cell l=>(match wJ S bl k with
   | .agg cs=>fzL l cs
   |_=>[])
  |_=>[])++fzE S bl es (k+1)
def zmu (es:List ESh) (k:Nat):Option Nat:=match es[k]? with
 |some (.row T)=>some T
 |_=>none
def nilT (es:List ESh):List (Nat×Sh)→St C→St C
 |[],S=>S
 |(t,s)::ts,S=>nilT es ts (match s,S.env t with
  | .row k,.nils=>(match zmu es k with
   |some T=>bif isNone (S.heap (1048576+k)) then {env:=upd S.env t (.row (1048576+k)),heap:=upd S.heap (1048576+k) (some (.row T ⟨[],false⟩))} else S
   |none=>S)
  |_,_=>S)
def nil1 (es:List ESh) (id:Nat) (s:Sh) (p:Nat) (S:St C):St C:=match s,S.heap id with
 | .row k,some (.cell cs)=>(match cs[p]?,zmu es k with
  |some .nils,some T=>bif isNone (S.heap (1048576+k)) then {S with heap:=upd (upd S.heap (1048576+k) (some (.row T ⟨[],false⟩))) id (some (.cell (cs.set p (.row (1048576+k)))))} else S
  |_,_=>S)
 |_,_=>S
def zp1 (C:Cod) (s:Sh):Nat:=match Sh.isVal s with | some T=>C.size T | none=>1
def nilC (es:List ESh) (id:Nat):List Sh→Nat→St C→St C
 |[],_,S=>S
 |s::l,p,S=>nilC es id l (p+zp1 C s) (nil1 es id s p S)
def zcz (all:List ESh) (bl:Bl) (e:ESh) (k:Nat) (S:St C):St C:=match e,Bl.fn bl k with
 | .cell l,some id=>nilC all id l 0 S
 |_,_=>S
def nilE (all:List ESh) (bl:Bl):List ESh→Nat→St C→St C
 |[],_,S=>S
 |e::es,k,S=>nilE all bl es (k+1) (zcz all bl e k S)
def Sig.prep (g:Sig) (m:Nat) (S:St C):St C:=
 let S1:=nilT g.es g.ts (S.frz (fzT S g.ts))
 let S2:=nilE g.es (yu g m S1) g.es 0 S1
 S2.frz (fzE S2 (yu g m S2) g.es 0)
def Sig.close (g:Sig) (m:Nat) (S:St C):Option (g.ty C):=
 let S2:=g.prep m S
 Xb g m S2 (yu g m S2)
end
section
variable {κ:Kp}{C:Cod}{S:St C}{ν:Val}{vs:Nat→List Value}{ids:List Nat}{L:List (Nat×Value)}{b:Nat→Value}{σ:FS}{PV:List Priv}
variable {n:Nat}{w0:Start}{σ0:FS}
omit [Dfr] in
theorem Ve {B:Nat→Option Nat}:∀ (ts:List (Nat×Sh)) (rest:List Sh) {avs ravs:List (AV C.D)}{x:Sh.tys C (ts.map (·.2)++rest)},avs.length=ts.length→Sh.gets B (ts.map (·.2)++rest) (avs++ravs)=some x→Sh.gets B rest ravs=some (Wq ts rest x)
 |[],rest,avs,ravs,x,hl,h=>by
  have:avs=[]:=List.eq_nil_of_length_eq_zero hl
  subst this;exact h
 |(t,s)::ts,rest,A::avs,ravs,x,hl,h=>by
  obtain ⟨y,hy,h⟩:=Option.bind_eq_some_iff.1 h
  obtain ⟨z,hz,h⟩:=Option.bind_eq_some_iff.1 h
  cases h
  show Sh.gets B rest ravs=some (Wq ts rest (Sh.tl (s:=s) (l:=ts.map (·.2)++rest) (Sh.pk y z)))
  rw [Sh.tl_pk]
  exact Ve ts rest (by simpa using hl) hz
 |_::_,_,[],_,_,hl,_=>by simp at hl
omit [Dfr] in
theorem Vf {B:Nat→Option Nat}{ρ:Nat→Nat}{ν':Val}(hν:Rn B ρ ν ν') (rest:List Sh) {ravs:List (AV C.D)}(hv:∀ t,VR C σ ν (look L b t) (S.env t)):∀ (ts:List (Nat×Sh)) {x:Sh.tys C (ts.map (·.2)++rest)},
    Sh.gets B (ts.map (·.2)++rest) (ts.map (fun t=>S.env t.1)++ravs)=some x→∀ t,VR C σ ν' (look L b t) (vz ρ ts rest x t)∧(vz ρ ts rest x t).ok (InB B ρ)
  |[],x,h,t=>⟨trivial,trivial⟩
  |(t0,s)::ts,x,h,t=>by
    obtain ⟨y,hy,h⟩:=Option.bind_eq_some_iff.1 h
    obtain ⟨z,hz,h⟩:=Option.bind_eq_some_iff.1 h
    cases h
    have ih:=Vf hν rest hv ts hz t
    unfold vz
    rw [show Sh.hd (s:=s) (l:=ts.map (·.2)++rest) (Sh.pk y z)=y from Sh.hd_pk,show Sh.tl (s:=s) (l:=ts.map (·.2)++rest) (Sh.pk y z)=z from Sh.tl_pk]
    cases e:Nat.beq t t0 with
    |true=>
      have:=Nat.eq_of_beq_eq_true e;subst this
      exact ⟨Sh.get_put hν s hy (hv t),Sh.put_ok s hy⟩
    |false=>exact ih
omit [Dfr] in
theorem ve {B:Nat→Option Nat}{ρ:Nat→Nat}{ν':Val}(hν:Rn B ρ ν ν') {N:Nat}(hρ:∀ i j,i < N→j < N→ρ i=ρ j→i=j) (hc:∀ id cs,S.heap id=some (.cell cs)→VRs C σ ν (vs id) cs):∀ (es:List ESh) (k0:Nat) {x:Sh.tys C (es.map ESh.sh)},
    k0+es.length≤N→Sh.gets B (es.map ESh.sh) ((List.range' k0 es.length).map fun k=>match B k with | some id=>zeK (S.heap id) | none =>.und)=some x→
    (∀ k e,es[k]?=some e→(e.isGone=true↔B (k0+k)=none))→∀ k id,B k=some id→k0≤k→k < k0+es.length→
      (∃ cs cs',S.heap id=some (.cell cs)∧yO ρ es k0 x (ρ k)=some (.cell cs')∧VRs C σ ν' (vs id) cs'∧AV.oks (InB B ρ) cs')∨(∃ T s,S.heap id=some (.row T s)∧yO ρ es k0 x (ρ k)=some (.row T s))∨∃ q T b s,S.heap id=some (.obj q T b s)∧yO ρ es k0 x (ρ k)=some (.obj q T b s)
  |[],k0,x,hN,h,hg,k,id,hB,h1,h2=>by simp at h2;omega
  |e::es,k0,x,hN,h,hg,k,id,hB,h1,h2=>by
    simp only [List.length_cons] at hN h2
    simp only [List.length_cons,List.range'_succ,List.map_cons] at h
    obtain ⟨y,hy,h⟩:=Option.bind_eq_some_iff.1 h
    obtain ⟨z,hz,h⟩:=Option.bind_eq_some_iff.1 h
    cases h
    have ih:=ve hν hρ hc es (k0+1) (x:=z) (by omega) hz (fun j e' he=>by have:=hg (j+1) e' (by simpa using he);rw [show k0+1+j=k0+(j+1) by omega];exact this) k id hB
    unfold yO
    rw [show Sh.hd (s:=e.sh) (l:=es.map ESh.sh) (Sh.pk y z)=y from Sh.hd_pk,show Sh.tl (s:=e.sh) (l:=es.map ESh.sh) (Sh.pk y z)=z from Sh.tl_pk]
    by_cases hk:k=k0
    · subst hk
      simp only [Nat.beq_refl,cond_true]
      rw [hB] at hy
      simp only at hy
      have hng:e.isGone=false:=by
        cases hh:e.isGone with
        |false=>rfl
        |true=>have:=(hg 0 e rfl).1 hh;rw [Nat.add_zero,hB] at this;cases this
      cases e with
      |gone=>cases hng
      |cell l=>
        left
        cases hs:S.heap id with
        |none=>rw [hs] at hy;cases hy
        |some en=>
          rw [hs] at hy
          cases en with
          |row T s=>cases hy
          |obj q T b s=>cases hy
          |cell cs=>
            have hy:Sh.getc B l cs=some y:=hy
            exact ⟨cs,_,rfl,rfl,Sh.getc_putc hν l hy (hc id cs hs),Sh.putc_ok l hy⟩
      |row T=>
        right;left
        cases hs:S.heap id with
        |none=>rw [hs] at hy;cases hy
        |some en=>
          rw [hs] at hy
          cases en with
          |cell cs=>cases hy
          |obj q T b s=>cases hy
          |row T' s=>
            obtain ⟨e,he⟩:=Vd (show zct s=some y from hy)
            subst e;subst he
            exact ⟨_,_,rfl,rfl⟩
      |obj q T=>
        right;right
        cases hs:S.heap id with
        |none=>rw [hs] at hy;cases hy
        |some en=>
          rw [hs] at hy
          cases en with
          |cell cs=>cases hy
          |row T' s=>cases hy
          |obj q' T' b s=>
            obtain ⟨hq,hy2⟩:=zc (show chk (Nat.beq q q') (Sh.gets B [.str,.sl T] [.str b,.sl T' s false])=some y from hy)
            have hq:=Nat.eq_of_beq_eq_true hq
            obtain ⟨s',hs',hy4⟩:=Option.bind_eq_some_iff.1 (show (Sh.gets B [.sl T] [.sl T' s false]).bind (fun z=>some (Sh.pk (s :=.str) (l:=[.sl T]) b z))=some y from hy2)
            obtain ⟨s2,hs2,hs3⟩:=Option.bind_eq_some_iff.1 (show (zct s).bind (fun z=>some (Sh.pk (s :=.sl T) (l:=[]) z ()))=some s' from hs')
            cases hs3;cases hy4;subst hq
            obtain ⟨e,he⟩:=Vd hs2
            subst e;subst he
            refine ⟨_,_,b,_,rfl,?_⟩
            show some (Ent.obj q T' (Sh.hd (s :=.str) (l:=[.sl T']) (Sh.pk (s :=.str) (l:=[.sl T']) b (Sh.pk (s :=.sl T') (l:=[]) s ()))) (Sh.hd (s :=.sl T') (l:=[]) (Sh.tl (s :=.str) (l:=[.sl T']) (Sh.pk (s :=.str) (l:=[.sl T']) b (Sh.pk (s :=.sl T') (l:=[]) s ())))))=_
            rw [show Sh.hd (s :=.str) (l:=[.sl T']) (Sh.pk (s :=.str) (l:=[.sl T']) b (Sh.pk (s :=.sl T') (l:=[]) s ()))=b from Sh.hd_pk,show Sh.tl (s :=.str) (l:=[.sl T']) (Sh.pk (s :=.str) (l:=[.sl T']) b (Sh.pk (s :=.sl T') (l:=[]) s ()))=_ from Sh.tl_pk,show Sh.hd (s :=.sl T') (l:=[]) (Sh.pk (s :=.sl T') (l:=[]) s ())=s from Sh.hd_pk]
    · have hne:Nat.beq (ρ k) (ρ k0)=false:=by
        cases e':Nat.beq (ρ k) (ρ k0) with
        |false=>rfl
        |true=>
          exfalso
          have e2:=Nat.eq_of_beq_eq_true e'
          exact hk (hρ k k0 (by omega) (by omega) e2)
      rw [hne]
      exact ih (by omega) (by omega)
end
end Go.Px
namespace Go.Px
set_option linter.unusedSectionVars false
variable [Dfr]
set_option linter.unusedVariables false
section
variable {κ:Kp}{C:Cod}{S:St C}{ν:Val}{vs:Nat→List Value}{ids:List Nat}{L:List (Nat×Value)}{b:Nat→Value}{σ:FS}{PV:List Priv}
variable {n:Nat}{w0:Start}{σ0:FS}
omit [Dfr] in
theorem xF {id:Nat}:∀ {bl:Bl}{k:Nat},Bl.fn bl k=some id→YE id bl=true
 |[],k,h=>by simp [Bl.fn] at h
 |none::r,0,h=>by simp [Bl.fn] at h
 |some a::r,0,h=>by
  have:a=id:=by simpa [Bl.fn] using h
  subst this;simp [YE]
 |none::r,k+1,h=>by
  have:Bl.fn r k=some id:=by simpa [Bl.fn] using h
  simp [YE,xF this]
 |some a::r,k+1,h=>by
  have:Bl.fn r k=some id:=by simpa [Bl.fn] using h
  simp [YE,xF this]
structure BdOK (m:Nat) (es:List ESh) (B:Nat→Option Nat):Prop where
 gone:∀ k e,es[k]?=some e→(e.isGone=true↔B k=none)
 lt:∀ k id,B k=some id→k < es.length
 inj:∀ i j id,B i=some id→B j=some id→i=j
 same:∀ k id,k < m→B k=some id→k=id
omit [Dfr] in
theorem zgQ {m:Nat}:∀ {es:List ESh}{bl:Bl}{k0:Nat},ze9 m es bl k0=true→(∀ k e,es[k]?=some e→(e.isGone=true↔Bl.fn bl k=none))∧(∀ k id,Bl.fn bl k=some id→k < es.length)∧(∀ i j id,Bl.fn bl i=some id→Bl.fn bl j=some id→i=j)∧(∀ k id,k0+k < m→Bl.fn bl k=some id→k0+k=id)
 |[],[],k0,h=>⟨fun k e he=>by simp at he,fun k id he=>by simp [Bl.fn] at he,fun i j id he=>by simp [Bl.fn] at he,fun k id _ he=>by simp [Bl.fn] at he⟩
 |[],_::_,k0,h=>by cases h
 |_::_,[],k0,h=>by cases h
 |e::es,b::bl,k0,h=>by
  simp only [ze9,Bool.and_eq_true] at h
  obtain ⟨h1,h2⟩:=h
  obtain ⟨i1,i2,i3,i4⟩:=zgQ h2
  have hs:∀ k,Bl.fn (b::bl) (k+1)=Bl.fn bl k:=fun k=>by simp [Bl.fn]
  have h0:Bl.fn (b::bl) 0=b:=by simp [Bl.fn]
  refine ⟨fun k e' he=>?_,fun k id he=>?_,fun i j id hi hj=>?_,fun k id hk he=>?_⟩
  ·cases k with
   |zero=>
    simp at he;subst he
    rw [h0]
    cases b with
    |none=>simp at h1;simp [h1]
    |some id=>simp at h1;simp [h1.1]
   |succ k=>rw [hs];exact i1 k e' (by simpa using he)
  ·cases k with
   |zero=>simp
   |succ k=>rw [hs] at he;have:=i2 k id he;simp;exact this
  ·cases i with
   |zero=>
    cases j with
    |zero=>rfl
    |succ j=>
     rw [h0] at hi;subst hi
     rw [hs] at hj
     simp only [Bool.and_eq_true,Bool.not_eq_true'] at h1
     rw [xF hj] at h1;simp at h1
   |succ i=>
    cases j with
    |zero=>
     rw [h0] at hj;subst hj
     rw [hs] at hi
     simp only [Bool.and_eq_true,Bool.not_eq_true'] at h1
     rw [xF hi] at h1;simp at h1
    |succ j=>rw [hs] at hi hj;rw [i3 i j id hi hj]
  ·cases k with
   |zero=>
    rw [h0] at he;subst he
    simp only [Bool.and_eq_true,Bool.or_eq_true,Bool.not_eq_true'] at h1
    rcases h1.2.2 with q | q
    ·have:¬ Nat.blt k0 m=true:=by rw [q];simp
     rw [Nat.blt_eq] at this;omega
    ·have:=Nat.eq_of_beq_eq_true q;omega
   |succ k=>
    rw [hs] at he
    have:=i4 k id (by omega) he
    omega
omit [Dfr] in
theorem BdOK.of {m:Nat}{es:List ESh}{bl:Bl}(h:ze9 m es bl 0=true):BdOK m es (Bl.fn bl):=by
 obtain ⟨h1,h2,h3,h4⟩:=zgQ h
 exact ⟨h1,h2,h3,fun k id hk hb=>by have:=h4 k id (by omega) hb;omega⟩
omit [Dfr] in
theorem wU {ρ:Nat→Nat}:∀ (es:List ESh) (k0:Nat) {x:Sh.tys C (es.map ESh.sh)}{i:Nat},(∀ k e,es[k]?=some e→i=ρ (k0+k)→e.isGone=true)→yO ρ es k0 x i=none
 |[],_,_,_,_=>rfl
 |e::es,k0,x,i,h=>by
  unfold yO
  cases e':Nat.beq i (ρ k0) with
  |true=>
   have:=h 0 e rfl (Nat.eq_of_beq_eq_true e')
   cases e with
   |gone=>rfl
   |cell=>cases this
   |row=>cases this
   |obj=>cases this
  |false=>exact wU es (k0+1) fun k e he hi=>h (k+1) e (by simpa using he) (by rw [hi];congr 1;omega)
omit [Dfr] in
theorem AbsL.rename (h:AbsL κ S ν vs ids L b σ PV) {g:Sig}{bl:Bl}{x:g.ty C}(hg:Xb g κ.m S bl=some x) :
    ∃ ν' vs' ids' PV',AbsL κ (g.open x) ν' vs' ids' L b σ PV'∧∀ w,Inv w0 σ0 σ PV w→Inv w0 σ0 σ PV' w:=by
  obtain ⟨hb,hg⟩:=zc hg
  have hB:=BdOK.of hb
  let B:=Bl.fn bl
  let ν':Val:={hdr:=fun k=>match B k with | some id=>ν.hdr id | none =>.slice none 0 0,adr:=fun k=>match B k with | some id=>ν.adr id | none=>default}
  let vs':Nat→List Value:=fun k=>match B k with | some id=>vs id | none=>[]
  have hν:Rn B (fun k=>k) ν ν':=⟨fun k id e=>by simp [ν',e],h.one⟩
  have hsplit:=Ve g.ts (g.es.map ESh.sh) (avs:=g.ts.map fun t=>S.env t.1) (by simp) hg
  have hsl:(List.range g.es.length).map (wJ S bl)=(List.range' 0 g.es.length).map fun k=>match B k with | some id=>zeK (S.heap id) | none =>.und:=by
    rw [← List.range_eq_range'];rfl
  rw [hsl] at hsplit
  have hheap:=fun k id (e:B k=some id)=>ve (N:=g.es.length) hν (fun i j _ _ e=>e) h.cell g.es 0 (by omega) hsplit (fun k e he=>by rw [Nat.zero_add];exact hB.gone k e he) k id e (Nat.zero_le _) (by have:=hB.lt k id e;omega)
  have hnone:∀ k,B k=none→(g.open x).heap k=none:=fun k e=>by
    refine wU g.es 0 fun j e' he hj=>?_
    have hj:k=j:=by simpa using hj
    subst hj
    exact (hB.gone k e' he).2 e
  have hsome:∀ k,((g.open x).heap k).isSome=true↔(B k).isSome=true:=fun k=>by
    cases e:B k with
    |none=>rw [hnone k e];simp
    |some id=>
      rcases hheap k id e with ⟨cs,cs',_,h2,_⟩ | ⟨T,s,_,h2⟩ | ⟨q,T,b2,s,_,h2⟩
      all_goals rw [show (g.open x).heap k=_ from h2];simp
  have henv:=Vf (L:=L) (b:=b) (σ:=σ) hν (g.es.map ESh.sh) h.env g.ts hg
  let ids':=(List.range g.es.length).filter fun k=>(B k).isSome
  have hmem:∀ k,k∈ids'↔(B k).isSome=true:=fun k=>by
    simp only [ids',List.mem_filter,List.mem_range]
    refine ⟨fun h=>h.2,fun h=>⟨?_,h⟩⟩
    obtain ⟨id,e⟩:=Option.isSome_iff_exists.1 h
    exact hB.lt k id e
  have hpos:∀ k,k∈ids'→∃ (id m:Nat),B k=some id∧ids[m]?=some id∧PV[m]?=some (Zq C ν' vs' k ((g.open x).heap k)):=fun k hk=>by
    obtain ⟨id,e⟩:=Option.isSome_iff_exists.1 ((hmem k).1 hk)
    rcases hheap k id e with ⟨cs,cs',h1,h2,_⟩ | ⟨T,s,h1,h2⟩ | ⟨q,T,b2,s,h1,h2⟩
    · obtain ⟨m,hm,hid⟩:=h.at h1
      refine ⟨id,m,e,hid,?_⟩
      rw [hm,show (g.open x).heap k=_ from h2]
      simp [Zq,ν',vs',e]
    · obtain ⟨m,hm,hid⟩:=h.at h1
      refine ⟨id,m,e,hid,?_⟩
      rw [hm,show (g.open x).heap k=_ from h2]
      simp [Zq,ν',e]
    · obtain ⟨m,hm,hid⟩:=h.at h1
      refine ⟨id,m,e,hid,?_⟩
      rw [hm,show (g.open x).heap k=_ from h2]
      simp [Zq,ν',e]
  classical
  let pos:Nat→Nat:=fun k=>if hk:k∈ids' then (hpos k hk).choose_spec.choose else 0
  have hposk:∀ k (hk:k∈ids'),B k=some (hpos k hk).choose∧ids[pos k]?=some (hpos k hk).choose∧PV[pos k]?=some (Zq C ν' vs' k ((g.open x).heap k)):=fun k hk=>by
    have:=(hpos k hk).choose_spec.choose_spec
    have e:pos k=(hpos k hk).choose_spec.choose:=by simp [pos,hk]
    rw [e];exact this
  have hnd:ids'.Nodup:=List.Nodup.sublist List.filter_sublist List.nodup_range
  refine ⟨ν',vs',ids',ids'.map fun k=>Zq C ν' vs' k ((g.open x).heap k),⟨⟨hnd,fun k=>by rw [hmem];exact (hsome k).symm,rfl,fun k cs hk=>?_,fun t=>(henv t).1,fun i=>?_⟩,fun t=>?_,fun k cs hk=>?_,fun k hk hs=>?_⟩,fun w hi=>hi.sub_own fun gg ks=>?_⟩
  · have hB1:=(hsome k).1 (by rw [hk];rfl)
    obtain ⟨id,e⟩:=Option.isSome_iff_exists.1 hB1
    rcases hheap k id e with ⟨c,c',h1,h2,h3,_⟩ | ⟨T,s,h1,h2⟩ | ⟨q,T,b2,s,h1,h2⟩
    · rw [show (g.open x).heap k=_ from h2] at hk;cases hk
      simpa [vs',e] using h3
    · rw [show (g.open x).heap k=_ from h2] at hk;cases hk
    · rw [show (g.open x).heap k=_ from h2] at hk;cases hk
  · simp only [ν']
    cases B i with
    |none=>rfl
    |some id=>exact h.one id
  · refine AV.ok_mono (fun j hj=>?_) (henv t).2
    obtain ⟨k2,id2,e2,e3⟩:=hj
    rw [e3]
    exact (hsome k2).2 (by rw [show B k2=some id2 from e2];rfl)
  · have hB1:=(hsome k).1 (by rw [hk];rfl)
    obtain ⟨id,e⟩:=Option.isSome_iff_exists.1 hB1
    rcases hheap k id e with ⟨c,c',h1,h2,_,h4⟩ | ⟨T,s,h1,h2⟩ | ⟨q,T,b2,s,h1,h2⟩
    · rw [show (g.open x).heap k=_ from h2] at hk;cases hk
      refine AV.oks_mono (fun j hj=>?_) h4
      obtain ⟨k2,id2,e2,e3⟩:=hj
      rw [e3]
      exact (hsome k2).2 (by rw [show B k2=some id2 from e2];rfl)
    · rw [show (g.open x).heap k=_ from h2] at hk;cases hk
    · rw [show (g.open x).heap k=_ from h2] at hk;cases hk
  · obtain ⟨id,e⟩:=Option.isSome_iff_exists.1 ((hsome k).1 hs)
    have:=hB.same k id hk e
    subst this
    have hS:(S.heap k).isSome=true:=by
      rcases hheap k k e with ⟨c,c',h1,_⟩ | ⟨T,s,h1,_⟩ | ⟨q,T,b2,s,h1,_⟩ <;> rw [h1] <;> rfl
    have:=h.keep k hk hS
    simpa [ν',e] using this
  · refine ks.select (ids'.map pos) ?_ ?_
    · rw [List.nodup_iff_pairwise_ne,List.pairwise_map]
      refine List.Pairwise.imp_of_mem ?_ (List.nodup_iff_pairwise_ne.1 hnd)
      intro i j hi hj hne e
      obtain ⟨e1,e2,_⟩:=hposk i hi
      obtain ⟨e3,e4,_⟩:=hposk j hj
      rw [e] at e2
      rw [e2] at e4
      rw [← Option.some.inj e4] at e3
      exact hne (hB.inj i j _ e1 e3)
    · rw [List.map_map,List.map_map]
      exact List.map_congr_left fun k hk=>(hposk k hk).2.2
end
end Go.Px
namespace Go.Px
set_option linter.unusedSectionVars false
variable [Dfr]
set_option linter.unusedVariables false
section
variable {κ:Kp}{C:Cod}{S:St C}{ν:Val}{vs:Nat→List Value}{ids:List Nat}{L:List (Nat×Value)}{b:Nat→Value}{σ:FS}{PV:List Priv}
variable {n:Nat}{w0:Start}{σ0:FS}
omit [Dfr] in
theorem zk6 {t:Nat}{v:Value}(h:look L b t=v):∀ i,look ((t,v)::L) b i=look L b i:=fun i=>by
 show (bif Nat.beq i t then v else look L b i)=_
 cases e:Nat.beq i t with
 |true=>rw [Nat.eq_of_beq_eq_true e];exact h.symm
 |false=>rfl
omit [Dfr] in
theorem Zf.unput {t:Nat}{v:Value}(h:Zf κ S ((t,v)::L) b σ PV) (hv:look L b t=v):Zf κ S L b σ PV:=by
 obtain ⟨ν,vs,ids,h⟩:=h
 exact ⟨ν,vs,ids,⟨⟨h.nd,h.dom,h.pv,h.cell,fun t=>by have:=h.env t;rw [zk6 hv] at this;exact this,h.one⟩,h.live,h.livec,h.keep⟩⟩
omit [Dfr] in
theorem Wr {es:List ESh}{w:World}:∀ (ts:List (Nat×Sh)) {S:St C}{PV:List Priv},Zf κ S L b σ PV→Inv w0 σ0 σ PV w→∃ PV',Inv w0 σ0 σ PV' w∧Zf κ (nilT es ts S) L b σ PV'
 |[],S,PV,h,hi=>⟨PV,hi,h⟩
 |(t,s)::ts,S,PV,h,hi=>by
  unfold nilT
  split
  ·rename_i k e
   split
   ·rename_i T hT
    cases h0:isNone (S.heap (1048576+k)) with
    |false=>simp only [cond_false];exact Wr ts h hi
    |true=>
     simp only [cond_true]
     obtain ⟨ν,vs,ids,h⟩:=h
     have hv:=h.env t
     rw [e] at hv
     have hv:look L b t = .slice none 0 0:=hv
     refine Wr (PV :=.row (Zp C T).o T (.slice none 0 0) ⟨[],false⟩::PV) ts ?_ (hi.sub_own fun gg k =>.cons (h1:=za.none) (.inl ⟨rfl,rfl⟩) k (za.none_le _) (.refl _) (za.none_disj _))
     exact (h.newRow (d:=t) (s:=⟨[],false⟩) (Z8 h0) (by have:=κ.le;omega) (v :=.slice none 0 0) rfl).unput hv
   ·exact Wr ts h hi
  ·exact Wr ts h hi
omit [Dfr] in
theorem AbsL.pvEq {PV':List Priv}(h:AbsL κ S ν vs ids L b σ PV) (e:PV=PV'):AbsL κ S ν vs ids L b σ PV':=e ▸ h
omit [Dfr] in
theorem AbsL.addRow (h:AbsL κ S ν vs ids L b σ PV) {id T:Nat}(h0:S.heap id=none) (h64:κ.m≤id) :
    ∃ ν',AbsL κ {S with heap:=upd S.heap id (some (.row T ⟨[],false⟩))} ν' (upd vs id []) (id::ids) L b σ (.row (Zp C T).o T (.slice none 0 0) ⟨[],false⟩::PV)∧ν'.hdr id = .slice none 0 0∧∀ j,(S.heap j).isSome=true→ν.hdr j=ν'.hdr j∧ν.adr j=ν'.adr j:=by
  let ν':Val:={hdr:=upd ν.hdr id (.slice none 0 0),adr:=upd ν.adr id default}
  let e:Ent C :=.row T ⟨[],false⟩
  have hne:∀ j,(S.heap j).isSome=true→j≠id:=fun j hj e=>by rw [e,h0] at hj;cases hj
  have hag:∀ j,(S.heap j).isSome=true→ν.hdr j=ν'.hdr j∧ν.adr j=ν'.adr j:=fun j hj=>⟨(zF (hne j hj)).symm,(zF (hne j hj)).symm⟩
  have hlv:∀ j,(S.heap j).isSome=true→(upd S.heap id (some e) j).isSome=true:=fun j hj=>by rw [zF (hne j hj)];exact hj
  have hid:id ∉ ids:=fun hm=>by have:=(h.dom id).1 hm;rw [h0] at this;cases this
  refine ⟨ν',⟨⟨List.nodup_cons.2 ⟨hid,h.nd⟩,fun j=>?_,?_,fun j cs hj=>?_,fun t=>(h.env t).congr hag (h.live t),fun i=>?_⟩,fun t=>AV.ok_mono hlv (h.live t),fun j cs hj=>?_,fun k hk hs=>?_⟩,zB,hag⟩
  · by_cases e':j=id
    · subst e';show _↔(upd S.heap j (some e) j).isSome=true;rw [zB];simp
    · show _↔(upd S.heap id (some e) j).isSome=true;rw [zF e',List.mem_cons,h.dom];simp only [e',false_or]
  · rw [List.map_cons,h.pv]
    refine List.cons_eq_cons.2 ⟨?_,List.map_congr_left fun j hj=>?_⟩
    · show _=Zq C ν' _ id (upd S.heap id (some e) id)
      rw [zB]
      simp [Zq,e,ν',zB]
    · have hj':=hne j ((h.dom j).1 hj)
      show Zq C ν vs j (S.heap j)=Zq C ν' (upd vs id []) j (upd S.heap id (some e) j)
      rw [zF hj']
      cases S.heap j with
      |none=>rfl
      |some en=>cases en <;> simp [Zq,ν',zF hj']
  · by_cases e':j=id
    · subst e'
      have hj:upd S.heap j (some e) j=_:=hj
      rw [zB] at hj
      cases (Option.some.inj hj:(Ent.row T ⟨[],false⟩:Ent C) = .cell cs)
    · have hj:upd S.heap id (some e) j=_:=hj
      rw [zF e'] at hj
      show VRs C σ ν' (upd vs id [] j) cs
      rw [zF e']
      exact (h.cell j cs hj).congr hag (h.livec j cs hj)
  · by_cases e':i=id
    · subst e';show (upd ν.hdr i _ i).oneCell'=true;rw [zB];rfl
    · show (upd ν.hdr id _ i).oneCell'=true;rw [zF e'];exact h.one i
  · by_cases e':j=id
    · subst e'
      have hj:upd S.heap j (some e) j=_:=hj
      rw [zB] at hj
      cases (Option.some.inj hj:(Ent.row T ⟨[],false⟩:Ent C) = .cell cs)
    · have hj:upd S.heap id (some e) j=_:=hj
      rw [zF e'] at hj
      exact AV.oks_mono hlv (h.livec j cs hj)
  · have hne':k≠id:=by omega
    have hs:(upd S.heap id (some e) k).isSome=true:=hs
    rw [zF hne'] at hs
    have:=hag k hs
    have h2:=h.keep k hk hs
    exact ⟨this.1.symm.trans h2.1,this.2.symm.trans h2.2⟩
omit [Dfr] in
theorem VRs.set {ν:Val}:∀ {vs:List Value}{cs:List (AV C.D)}{p:Nat}{A:AV C.D},VRs C σ ν vs cs→(∀ v,vs[p]?=some v→VR C σ ν v A)→VRs C σ ν vs (cs.set p A)
 |[],[],p,A,h,k=>h
 |v::vs,c::cs,0,A,h,k=>⟨k v rfl,h.2⟩
 |v::vs,c::cs,p+1,A,h,k=>⟨h.1,VRs.set h.2 fun u hu=>k u (by simpa using hu)⟩
 |[],_::_,p,A,h,k=>h.elim
 |_::_,[],p,A,h,k=>h.elim
omit [Dfr] in
theorem zgR {D:Nat→Type}{q:Nat→Prop}{A:AV D}(hA:A.ok q):∀ {cs:List (AV D)}{p:Nat},AV.oks q cs→AV.oks q (cs.set p A)
 |[],p,h=>h
 |c::cs,0,h=>⟨hA,h.2⟩
 |c::cs,p+1,h=>⟨h.1,zgR hA h.2⟩
omit [Dfr] in
theorem zk7 {es:List ESh}{id:Nat}{w:World}{s:Sh}{p:Nat}{S:St C}{PV:List Priv}(h:Zf κ S L b σ PV) (hi:Inv w0 σ0 σ PV w):∃ PV',Inv w0 σ0 σ PV' w∧Zf κ (nil1 es id s p S) L b σ PV':=by
 unfold nil1
 split
 ·rename_i k cs hc
  split
  ·rename_i T hp hT
   cases h0:isNone (S.heap (1048576+k)) with
   |false=>exact ⟨PV,hi,h⟩
   |true=>
    simp only [cond_true]
    obtain ⟨ν,vs,ids,h⟩:=h
    have hne:id≠1048576+k:=fun e=>by rw [e,Z8 h0] at hc;cases hc
    obtain ⟨ν',h',e1,e2⟩:=h.addRow (T:=T) (Z8 h0) (by have:=κ.le;omega)
    have hc':(upd S.heap (1048576+k) (some (.row T ⟨[],false⟩))) id=some (.cell cs):=by rw [zF hne];exact hc
    have hin:id∈ids:=(h.dom id).2 (by rw [hc];rfl)
    obtain ⟨m,hm⟩:=List.mem_iff_getElem?.1 hin
    have hvs:=h'.cell id cs hc'
    have hlc:=h'.livec id cs hc'
    have hm':((1048576+k)::ids)[m+1]?=some id:=by simpa using hm
    have hs:=h'.setCell (m:=m+1) (cs':=cs.set p (.row (1048576+k))) (us:=upd vs (1048576+k) [] id) hc' hm' (hvs.set fun v hv=>by
     obtain ⟨u,hu1,hu2⟩:=hvs.get p .nils hp
     have e:=Option.some.inj (hu1.symm.trans hv)
     rw [← e]
     show u=ν'.hdr _
     rw [e1];exact hu2) (zgR (by
      show ((upd S.heap (1048576+k) (some (.row T ⟨[],false⟩))) (1048576+k)).isSome=true
      rw [zB];rfl) hlc)
    refine ⟨.row (Zp C T).o T (.slice none 0 0) ⟨[],false⟩::PV,hi.sub_own fun gg k =>.cons (h1:=za.none) (.inl ⟨rfl,rfl⟩) k (za.none_le _) (.refl _) (za.none_disj _),_,_,_,hs.pvEq ?_⟩
    have hpv:=h'.pv
    refine List.ext_getElem? fun j=>?_
    rw [List.getElem?_set]
    by_cases e:m+1=j
    ·subst e
     have hm2:=congrArg (fun l=>l[m+1]?) hpv
     simp only [List.getElem?_map,hm',Option.map_some] at hm2
     rw [if_pos rfl,hm2,if_pos (List.getElem?_eq_some_iff.1 hm2).1]
     rw [hc'];rfl
    ·rw [if_neg e]
  ·exact ⟨PV,hi,h⟩
 ·exact ⟨PV,hi,h⟩
omit [Dfr] in
theorem zfa {es:List ESh}{id:Nat}{w:World}:∀ (l:List Sh) (p:Nat) {S:St C}{PV:List Priv},Zf κ S L b σ PV→Inv w0 σ0 σ PV w→∃ PV',Inv w0 σ0 σ PV' w∧Zf κ (nilC es id l p S) L b σ PV'
 |[],p,S,PV,h,hi=>⟨PV,hi,h⟩
 |s::l,p,S,PV,h,hi=>by
  obtain ⟨PV1,hi1,h1⟩:=zk7 (es:=es) (id:=id) (s:=s) (p:=p) h hi
  exact zfa l _ h1 hi1
omit [Dfr] in
theorem zfb {all:List ESh}{bl:Bl}{w:World}:∀ (es:List ESh) (k:Nat) {S:St C}{PV:List Priv},Zf κ S L b σ PV→Inv w0 σ0 σ PV w→∃ PV',Inv w0 σ0 σ PV' w∧Zf κ (nilE all bl es k S) L b σ PV'
 |[],k,S,PV,h,hi=>⟨PV,hi,h⟩
 |e::es,k,S,PV,h,hi=>by
  have:∃ PV',Inv w0 σ0 σ PV' w∧Zf κ (zcz all bl e k S) L b σ PV':=by
   unfold zcz
   split
   ·exact zfa _ 0 h hi
   ·exact ⟨PV,hi,h⟩
  obtain ⟨PV1,hi1,h1⟩:=this
  exact zfb es _ h1 hi1
omit [Dfr] in
theorem zbT {g:Sig}{m:Nat}(h:Zf κ S L b σ PV) {w:World}(hi:Inv w0 σ0 σ PV w):∃ σ' PV',Inv w0 σ0 σ' PV' w∧Zf κ (g.prep m S) L b σ' PV':=by
 obtain ⟨σ1,PV1,hi1,h1⟩:=za9 (fzT S g.ts) h hi
 obtain ⟨PV2,hi2,h2⟩:=Wr (es:=g.es) g.ts h1 hi1
 obtain ⟨PV3,hi3,h3⟩:=zfb (all:=g.es) g.es 0 h2 hi2
 exact za9 _ h3 hi3
omit [Dfr] in
theorem zae {g:Sig}{x:g.ty C}(hc:g.close κ.m S=some x) (h:Zf κ S L b σ PV) {w:World}(hi:Inv w0 σ0 σ PV w):∃ σ' PV',Inv w0 σ0 σ' PV' w∧Zf κ (g.open x) L b σ' PV':=by
 obtain ⟨σ1,PV1,hi1,ν,vs,ids,h1⟩:=zbT (g:=g) (m:=κ.m) h hi
 obtain ⟨ν',vs',ids',PV',h2,h3⟩:=h1.rename (w0:=w0) (σ0:=σ0) hc
 exact ⟨σ1,PV',h3 w hi1,ν',vs',ids',h2⟩
end
inductive XE (C:Cod) where
 |normal
 |exit (i:Nat)
 |ret
 |pan (v:AV C.D)
inductive XK where
 |normal
 |exit (i:Nat)
 |ret
 |pan (s:Sh)
inductive Hint where
 |loop (g:Sig) (outs:List (XK×Sig))
 |cut (outs:List (XK×Sig))
 |draw (ord:List (Nat×Bool)) (outs:List (XK×Sig))
def XK.shs:XK→Sig→List Sh
 | .pan s,g=>s::g.shs
 |_,g=>g.shs
abbrev XK.ty (C:Cod) (k:XK) (g:Sig):Type:=Sh.tys C (k.shs g)
def XK.is {C:Cod}:XK→XE C→Bool
 | .normal,.normal=>true
 | .exit i,.exit j=>Nat.beq i j
 | .ret,.ret=>true
 | .pan _,.pan _=>true
 |_,_=>false
def ze (C:Cod):List (XK×Sig)→Type
 |[]=>Empty
 |[o]=>XK.ty C o.1 o.2
 |o::o2::r=>XK.ty C o.1 o.2⊕ze C (o2::r)
section
variable {C:Cod}
def zcA (m:Nat) (k:XK) (g:Sig) (e:XE C) (S:St C):Option (XK.ty C k g):=match k,e with
 | .pan s,.pan v=>(Sh.get (fun _=>none) s v).bind fun y=>(g.close m S).bind fun x=>some (Sh.pk (s:=s) (l:=g.shs) y x)
 | .normal,.normal=>g.close m S
 | .exit i,.exit j=>chk (Nat.beq i j) (g.close m S)
 | .ret,.ret=>g.close m S
 |_,_=>none
def Yw {α:Type}(k:XK) (g:Sig) (y:XK.ty C k g) (K:XE C→St C→α):α:=match k,y with
 | .pan s,y=>K (.pan (Sh.put (fun k=>k) s (Sh.hd (s:=s) (l:=g.shs) y))) (g.open (Sh.tl (s:=s) (l:=g.shs) y))
 | .normal,y=>K .normal (g.open y)
 | .exit i,y=>K (.exit i) (g.open y)
 | .ret,y=>K .ret (g.open y)
def zT (m:Nat):(outs:List (XK×Sig))→XE C→St C→Option (ze C outs)
  |[],_,_=>none
  |[o],e,S=>zcA m o.1 o.2 e S
  |o :: o2::r,e,S=>bif XK.is o.1 e then (match zcA m o.1 o.2 e S with
     |some y=>some (.inl y)
     |none=>(zT m (o2::r) e S).map .inr) else (zT m (o2::r) e S).map .inr
def z6 {α:Type}:(outs:List (XK×Sig))→ze C outs→(XE C→St C→α)→α
 |[],y,_=>y.elim
 |[o],y,K=>Yw o.1 o.2 y K
 |o::o2::r,y,K=>match (y:XK.ty C o.1 o.2⊕ze C (o2::r)) with
  | .inl a=>Yw o.1 o.2 a K
  | .inr y=>z6 (o2::r) y K
end
abbrev yP (C:Cod):=Oper→St C→(ρ:Type)→(Out C→Option ρ)→Option ρ
abbrev Yf (C:Cod):=Array Oper→List (Nat×Bool)→(ρ:Type)→St C→(XE C→St C→Option ρ)→Option ρ
abbrev ZZ:=∀ {s β:Type},(s→Option (Step s β))→s→Option β
def Y2:Code→Nat
 | .seq a b=>Y2 a+Y2 b+1
 | .cond _ a b=>Y2 a+Y2 b+1
 | .block _ a=>Y2 a+1
 | .loop a=>Y2 a+1
 | .scope a=>Y2 a+1
 |_=>1
section
variable {C:Cod}{ρ:Type}
def ZK (stp:yP C) (n:Nat) (ops:Array Oper):List Oper→St C→(XE C→St C→Option ρ)→Option ρ
 |[],S,K=>K .normal S
 |o::r,S,K=>match o.guard with
  |none=>stp o S _ fun out=>match out with
   | .go S'=>ZK stp n ops r S' K
   | .pan v S'=>K (.pan v) S'
  |some (j,want)=>match (ops[j]?).bind (·.dst) with
   |none=>none
   |some dg=>match S.env dg with
    | .bool q=>if q=true then go o r (S.put dg (.bool true)) want K (fun S K=>ZK stp n ops r S K) else go o r (S.put dg (.bool false)) (!want) K (fun S K=>ZK stp n ops r S K)
    | .tup []=>skip o S K (fun S K=>ZK stp n ops r S K)
    |_=>none
where
 skip (o:Oper) (S:St C) (K:XE C→St C→Option ρ) (next:St C→(XE C→St C→Option ρ)→Option ρ):Option ρ:=match o.dst with
  |some d=>chk (Nat.blt d n) (next (S.put d (.tup [])) K)
  |none=>next S K
 go (o:Oper) (r:List Oper) (S:St C) (run:Bool) (K:XE C→St C→Option ρ) (next:St C→(XE C→St C→Option ρ)→Option ρ):Option ρ:=
  bif run then stp o S _ fun out=>match out with
   | .go S'=>next S' K
   | .pan v S'=>K (.pan v) S'
  else skip o S K next
def ZE {C:Cod}(stp:yP C) (dr:Yf C) (lp:ZZ) (n m:Nat) (hs:Nat→Option Hint):Code→Nat→(ρ:Type)→St C→(XE C→St C→Option ρ)→Option ρ
  | .skip,i,_,S,K=>wrap i S K fun _ S K=>K .normal S
  | .ret,i,_,S,K=>wrap i S K fun _ S K=>K .ret S
  | .exit j,i,_,S,K=>wrap i S K fun _ S K=>K (.exit j) S
  | .seq a b,i,_,S,K=>wrap i S K fun _ S K=>ZE stp dr lp n m hs a (i+1) _ S fun e S'=>match e with
    | .normal=>ZE stp dr lp n m hs b (i+1+Y2 a) _ S' K
    |e=>K e S'
  | .cond c a b,i,_,S,K=>wrap i S K fun _ S K=>match S.op c with
    | .bool q=>if q=true then ZE stp dr lp n m hs a (i+1) _ S K else ZE stp dr lp n m hs b (i+1+Y2 a) _ S K
    |_=>none
  | .block j a,i,_,S,K=>wrap i S K fun _ S K=>ZE stp dr lp n m hs a (i+1) _ S fun e S'=>match e with
    | .exit j'=>bif Nat.beq j' j then K .normal S' else K (.exit j') S'
    |e=>K e S'
  | .loop a,i,_,S,K=>match hs i with
    |some (.loop g outs)=>(g.close m S).bind fun x0=>
        (lp (fun x=>ZE stp dr lp n m hs a (i+1) _ (g.open x) fun e S'=>match e with
          | .normal=>(g.close m S').bind fun x'=>some (Step.next x')
          |e=>(zT m outs e S').bind fun y=>some (Step.done y)) x0).bind fun y=>z6 outs y K
    |_=>none
  | .scope a,i,_,S,K=>wrap i S K fun _ S K=>ZE stp dr lp n m hs a (i+1) _ S K
  | .label _,i,_,S,K=>wrap i S K fun _ S K=>K .normal S
  | .region _ ops false,i,_,S,K=>wrap i S K fun _ S K=>ZK stp n ops ops.toList S K
  | .region _ ops true,i,_,S,K=>match hs i with
    |some (.draw ord [])=>dr ops ord _ S K
    |some (.draw ord (o::outs))=>(dr ops ord _ S fun e S'=>zT m (o::outs) e S').bind fun y=>z6 (o::outs) y K
    |_=>none
  |_,_,_,_,_=>none
where
 wrap {ρ:Type} (i:Nat) (S:St C) (K:XE C→St C→Option ρ) (raw:(ρ:Type)→St C→(XE C→St C→Option ρ)→Option ρ):Option ρ:=match hs i with
  |some (.cut outs)=>(raw _ S fun e S'=>zT m outs e S').bind fun y=>z6 outs y K
  |_=>raw _ S K
end
end Go.Px
namespace Go.Px
set_option linter.unusedSectionVars false
variable [Dfr]
set_option linter.unusedVariables false
section
variable {κ:Kp}{C:Cod}{S:St C}{n:Nat}{w0:Start}{σ0:FS}{P:Program}{ρ:Type}{stp:yP C}{dr:Yf C}{lp:ZZ}{hs:Nat→Option Hint}
def At (n:Nat) (w0:Start) (σ0:FS) (κ:Kp) (S:St C) (a:Act) (w:World):Prop:=∃ L b σ PV,Zf κ S L b σ PV∧Inv w0 σ0 σ PV w∧Fits n L b a
def AtP (n:Nat) (w0:Start) (σ0:FS) (κ:Kp) (v:AV C.D) (S:St C) (chain:List PanicEntry) (a:Act) (w:World):Prop:=∃ u L b σ PV,chain=[{v:=u,recovered:=false}]∧XS C σ u v∧Zf κ S L b σ PV∧Inv w0 σ0 σ PV w∧Fits n L b a
def ZF (n:Nat) (w0:Start) (σ0:FS) (κ:Kp) (K:XE C→St C→Option ρ) (r:ρ):Exit→Act→World→Prop
 | .normal,a,w=>∃ S',K .normal S'=some r∧At n w0 σ0 κ S' a w
 | .exit i,a,w=>∃ S',K (.exit i) S'=some r∧At n w0 σ0 κ S' a w
 | .ret,a,w=>∃ S',K .ret S'=some r∧At n w0 σ0 κ S' a w
 | .panic chain,a,w=>∃ v S',K (.pan v) S'=some r∧AtP n w0 σ0 κ v S' chain a w
 |_,_,_=>False
def zbU (n:Nat) (w0:Start) (σ0:FS) (κ:Kp) (S:St C) (e:XE C) (x:Exit) (a:Act) (w:World):Prop:=match e,x with
 | .normal,.normal=>At n w0 σ0 κ S a w
 | .exit i,.exit j=>i=j∧At n w0 σ0 κ S a w
 | .ret,.ret=>At n w0 σ0 κ S a w
 | .pan v,.panic chain=>AtP n w0 σ0 κ v S chain a w
 |_,_=>False
def zjF (P:Program) (n:Nat) (κ:Kp) (stp:Oper→St C→Option (Out C)):Prop:=
 ∀ (w0:Start) (σ0:FS),C.gl w0.w σ0→∀ (o:Oper) (S:St C) L b σ PV,Zf κ S L b σ PV→OpA κ P n w0 σ0 o (stp o S) L b σ PV
def Y3 (P:Program) (n:Nat) (κ:Kp) (stp:yP C):Prop:=zjF P n κ (fun o S=>stp o S _ some)∧∀ (o:Oper) (S:St C) (ρ:Type) (k:Out C→Option ρ),stp o S ρ k=(stp o S _ some).bind k
def wV (P:Program) (n:Nat) (κ:Kp) (dr:Yf C):Prop:=
 ∀ (w0:Start) (σ0:FS),C.gl w0.w σ0→∀ (ρ:Type) (id:Nat) (ops:Array Oper) (ord:List (Nat×Bool)) (S:St C) (K:XE C→St C→Option ρ) (r:ρ),dr ops ord ρ S K=some r→∀ (a:Act) (w:World),At n w0 σ0 κ S a w→(Code.region id ops true).wp P (ZF n w0 σ0 κ K r) a w
def YR (lp:ZZ):Prop:=∀ {s β:Type}(f:s→Option (Step s β)) (x:s) (y:β),lp f x=some y→∃ k,ye f k x=some y
omit [Dfr] in
theorem XS.mono {σ τ:FS}(l:σ.le τ) {u:Value}{v:AV C.D}(h:XS C σ u v):XS C τ u v:=⟨h.1,fun ν hν=>(h.2 ν hν).mono l⟩
theorem At.close {g:Sig}{x:g.ty C}{a:Act}{w:World}(hc:g.close κ.m S=some x) (h:At n w0 σ0 κ S a w):At n w0 σ0 κ (g.open x) a w:=by
 obtain ⟨L,b,σ,PV,hA,hi,hf⟩:=h
 obtain ⟨σ',PV',hi',h'⟩:=zae hc hA hi
 exact ⟨L,b,σ',PV',h',hi',hf⟩
omit [Dfr] in
theorem XV {g:Sig}{x:g.ty C}{L:List (Nat×Value)}{b:Nat→Value}{σ:FS}{PV:List Priv}{w:World}(hc:g.close κ.m S=some x) (hA:Zf κ S L b σ PV) (hi:Inv w0 σ0 σ PV w):∃ σ' PV',σ.le σ'∧Inv w0 σ0 σ' PV' w∧Zf κ (g.open x) L b σ' PV':=by
 obtain ⟨g1,hsep,hg⟩:=hi.own
 obtain ⟨σ',PV',hi',h'⟩:=zae (w0:=⟨w,g1⟩) (σ0:=σ) hc hA (w:=w) ⟨hi.sub,.refl σ,fun b o v hb =>.inl hb,⟨g1,hsep,hg.sub,hg.apart,fun b i e =>.inr e⟩,.refl w g1⟩
 refine ⟨σ',PV',hi'.le,?_,h'⟩
 obtain ⟨g2,hsep2,hg2⟩:=hi'.own
 refine ⟨hi'.sub,hi.le.trans hi'.le,fun b o v hb=>?_,⟨g2,hsep2,hg2.sub,hg2.apart,fun b i e=>?_⟩,hi.ext⟩
 ·rcases hi'.fresh b o v hb with z | z | z
  ·exact hi.fresh b o v z
  ·have:=hi'.lt hb;simp only at z;omega
  ·exact .inr (hg.mine b (o+1) z)
 ·rcases hg2.mine b i e with z | z
  ·obtain ⟨y,hy⟩:=Option.isSome_iff_exists.1 e
   have:=Bit.at_lt (hg2.sub b i y hy);simp only at z;omega
  ·exact hg.mine b i z
omit [Dfr] in
theorem XS.again {σ τ:FS}(l:σ.le τ) {u:Value}{v:AV C.D}(h:XS C σ u v) {s:Sh}{y:s.ty C}(hy:Sh.get (fun _=>none) s v=some y):XS C τ u (Sh.put (fun k=>k) s y):=by
 refine ⟨AV.ok_mono (fun j hj=>?_) (Sh.put_ok (ρ:=fun k=>k) s hy),fun ν' hν'=>?_⟩
 ·obtain ⟨k,id,e,_⟩:=hj;cases e
 ·exact Sh.get_put (ν:=ν') (B:=fun _=>none) ⟨(fun k id e=>by cases e),hν'⟩ s hy ((h.2 ν' hν').mono l)
theorem AtP.close {g:Sig}{x:g.ty C}{a:Act}{w:World}{v:AV C.D}{chain:List PanicEntry}{s:Sh}{y:s.ty C}(hy:Sh.get (fun _=>none) s v=some y) (hc:g.close κ.m S=some x) (h:AtP n w0 σ0 κ v S chain a w):AtP n w0 σ0 κ (Sh.put (fun k=>k) s y) (g.open x) chain a w:=by
 obtain ⟨u,L,b,σ,PV,e,hp,hA,hi,hf⟩:=h
 obtain ⟨σ',PV',hl,hi',h'⟩:=XV hc hA hi
 exact ⟨u,L,b,σ',PV',e,hp.again hl hy,h',hi',hf⟩
theorem zea {k:XK}{g:Sig}{e:XE C}{y:XK.ty C k g}{K:XE C→St C→Option ρ}{r:ρ}(hc:zcA κ.m k g e S=some y) (ho:Yw k g y K=some r) {x:Exit}{a:Act}{w:World} :
    zbU n w0 σ0 κ S e x a w→ZF n w0 σ0 κ K r x a w:=by
  intro h
  cases e with
  |normal=>
    cases x <;> first | exact h.elim | skip
    cases k <;> first | (cases hc;done) | exact ⟨_,ho,At.close hc h⟩
  |exit i=>
    cases x <;> first | exact h.elim | skip
    obtain ⟨rfl,h⟩:=h
    cases k <;> first | (cases hc;done) | skip
    obtain ⟨hij,hc2⟩:=zc hc
    obtain rfl:=Nat.eq_of_beq_eq_true hij
    exact ⟨_,ho,At.close hc2 h⟩
  |ret=>
    cases x <;> first | exact h.elim | skip
    cases k <;> first | (cases hc;done) | exact ⟨_,ho,At.close hc h⟩
  |pan v=>
    cases x <;> first | exact h.elim | skip
    cases k <;> first | (cases hc;done) | skip
    rename_i chain s
    obtain ⟨z,hz,hc2⟩:=Option.bind_eq_some_iff.1 hc
    obtain ⟨x',hx',hc3⟩:=Option.bind_eq_some_iff.1 hc2
    cases hc3
    have e1:Sh.hd (s:=s) (l:=g.shs) (Sh.pk (s:=s) (l:=g.shs) z x')=z:=Sh.hd_pk
    have e2:Sh.tl (s:=s) (l:=g.shs) (Sh.pk (s:=s) (l:=g.shs) z x')=x':=Sh.tl_pk
    have ho2:K (.pan (Sh.put (fun k=>k) s (Sh.hd (s:=s) (l:=g.shs) (Sh.pk (s:=s) (l:=g.shs) z x')))) (g.open (Sh.tl (s:=s) (l:=g.shs) (Sh.pk (s:=s) (l:=g.shs) z x')))=some r:=ho
    rw [e1,e2] at ho2
    exact ⟨_,_,ho2,AtP.close hz hx' h⟩
theorem Yc:∀ {outs:List (XK×Sig)}{e:XE C}{y:ze C outs}{K:XE C→St C→Option ρ}{r:ρ},zT κ.m outs e S=some y→z6 outs y K=some r→∀ {x:Exit}{a:Act}{w:World},
    zbU n w0 σ0 κ S e x a w→ZF n w0 σ0 κ K r x a w
  |[],e,y,K,r,hc,ho,x,a,w,h=>by cases hc
  |[o],e,y,K,r,hc,ho,x,a,w,h=>zea hc ho h
  |o::o2::l,e,y,K,r,hc,ho,x,a,w,h=>by
    unfold zT at hc
    unfold z6 at ho
    cases hi:XK.is o.1 e with
    |true=>
      rw [hi,cond_true] at hc
      split at hc
      · rename_i z hz
        cases hc
        exact zea hz ho h
      · obtain ⟨z,hz,rfl⟩:=Option.map_eq_some_iff.1 hc
        exact Yc hz ho h
    |false=>
      rw [hi,cond_false] at hc
      obtain ⟨z,hz,rfl⟩:=Option.map_eq_some_iff.1 hc
      exact Yc hz ho h
theorem ZF.out {outs:List (XK×Sig)}{y:ze C outs}{K:XE C→St C→Option ρ}{r:ρ}(ho:z6 outs y K=some r) {x:Exit}{a:Act}{w:World}(h:ZF n w0 σ0 κ (fun e S'=>zT κ.m outs e S') y x a w):ZF n w0 σ0 κ K r x a w:=by
 cases x with
 |normal=>obtain ⟨S',hc,h⟩:=h;exact Yc hc ho (e :=.normal) h
 |exit i=>obtain ⟨S',hc,h⟩:=h;exact Yc hc ho (e :=.exit i) (x :=.exit i) ⟨rfl,h⟩
 |ret=>obtain ⟨S',hc,h⟩:=h;exact Yc hc ho (e :=.ret) (x :=.ret) h
 |panic chain=>obtain ⟨v,S',hc,h⟩:=h;exact Yc hc ho (e :=.pan v) (x :=.panic chain) h
 |goto l=>exact h.elim
 |outgrown=>exact h.elim
theorem At.skip {a:Act}{w:World}(h:At n w0 σ0 κ S a w) {d:Nat}(hd:Nat.blt d n=true):At n w0 σ0 κ (S.put d (.tup [])) (a.put (some d) undef) w:=by
 obtain ⟨L,b,σ,PV,⟨ν,vs,ids,hA⟩,hi,hf⟩:=h
 exact ⟨_,b,σ,PV,⟨ν,vs,ids,hA.put (v:=undef) ⟨[],rfl,trivial⟩ trivial⟩,hi,hf.put (by simpa [Nat.blt_eq] using hd) _⟩
theorem At.lit {a:Act}{w:World}(h:At n w0 σ0 κ S a w) {d:Nat}{q:Bool}(he:S.env d = .bool q):At n w0 σ0 κ (S.put d (.bool q)) a w:=by
 obtain ⟨L,b,σ,PV,⟨ν,vs,ids,hA⟩,hi,hf⟩:=h
 have:S.put d (.bool q)=S:=by
  unfold St.put
  have:upd S.env d (.bool q)=S.env:=by
   funext t
   by_cases e:t=d
   ·subst e;rw [zB,he]
   ·rw [zF e]
  rw [this]
 rw [this];exact ⟨L,b,σ,PV,⟨ν,vs,ids,hA⟩,hi,hf⟩
theorem At.yield {a:Act}{w:World}(h:At n w0 σ0 κ S a w) {ops:Array Oper}{j dg:Nat}(hj:(ops[j]?).bind (·.dst)=some dg):(∀ q,S.env dg = .bool q→yielded ops a.tmps j=some q)∧(S.env dg = .tup []→yielded ops a.tmps j=none):=by
 obtain ⟨L,b,σ,PV,⟨ν,vs,ids,hA⟩,hi,hf⟩:=h
 have hy:=congrFun (hf.yielded ops) j
 have hv:=hA.env dg
 rw [hy]
 unfold Wm
 rw [hj]
 refine ⟨fun q e=>?_,fun e=>?_⟩
 ·rw [e] at hv
  show (match look L b dg with | .bool c=>some c | _=>none)=some q
  have:=hv.bool_inv
  generalize look L b dg=v at this
  rw [this]
 ·rw [e] at hv
  obtain ⟨us,e2,h3⟩:=hv
  show (match look L b dg with | .bool c=>some c | _=>none)=none
  generalize look L b dg=v at e2
  rw [e2]
theorem zjG (hgl:C.gl w0.w σ0) (hstp:Y3 P n κ stp) {o:Oper}{next:St C→(XE C→St C→Option ρ)→Option ρ}{K:XE C→St C→Option ρ}{r:ρ}
    (h:(stp o S ρ fun out=>match out with
      | .go S'=>next S' K
      | .pan v S'=>K (.pan v) S')=some r) {a:Act} {w:World} (hA:At n w0 σ0 κ S a w) {Kw:Act→World→Prop} (hK:∀ S' a' w',next S' K=some r→At n w0 σ0 κ S' a' w'→Kw a' w') :
    o.wp P a w Kw (ZF n w0 σ0 κ K r):=by
  obtain ⟨L,b,σ,PV,hA,hi,hf⟩:=hA
  rw [hstp.2] at h
  obtain ⟨out,ho,h⟩:=Option.bind_eq_some_iff.1 h
  refine hstp.1 w0 σ0 hgl o S L b σ PV hA out ho a w hi hf Kw _ ?_ ?_
  · rintro S' rfl L' σ' PV' a' w' hi' hf' hA'
    exact hK S' a' w' h ⟨L',b,σ',PV',hA',hi',hf'⟩
  · rintro v S' rfl u σ' PV' w' hi' hA' hp
    exact ⟨v,S',h,u,L,b,σ',PV',rfl,hp,hA',hi',hf⟩
theorem Yx (hgl:C.gl w0.w σ0) (hstp:Y3 P n κ stp) {ops:Array Oper}:∀ (l:List Oper) {S:St C}{K:XE C→St C→Option ρ}{r:ρ},ZK stp n ops l S K=some r→∀ {a:Act}{w:World},At n w0 σ0 κ S a w→wpList P ops (ZF n w0 σ0 κ K r) l a w
  |[],S,K,r,h,a,w,hA=>⟨S,h,hA⟩
  |o::l,S,K,r,h,a,w,hA=>by
    unfold ZK at h
    split at h
    · rename_i hg
      refine wpList_plain hg fun Kw hK=>?_
      exact zjG hgl hstp (next:=fun S K=>ZK stp n ops l S K) h hA fun S' a' w' h' hA'=>hK _ _ (Yx hgl hstp l h' hA')
    · rename_i j want hg
      split at h
      · cases h
      · rename_i dg hj
        have hy:=hA.yield hj
        have skip:∀ {S:St C},At n w0 σ0 κ S a w→ZK.skip n o S K (fun S K=>ZK stp n ops l S K)=some r→∀ (Kw:Act→World→Prop),(∀ a w,wpList P ops (ZF n w0 σ0 κ K r) l a w→Kw a w)→Kw (a.put o.dst undef) w:=by
          intro S hA h Kw hK
          unfold ZK.skip at h
          split at h
          · rename_i d hd
            obtain ⟨hn,h⟩:=zc h
            rw [hd]
            exact hK _ _ (Yx hgl hstp l h (hA.skip hn))
          · rename_i hd
            rw [hd]
            exact hK _ _ (Yx hgl hstp l h hA)
        have go:∀ {S:St C} {run:Bool},At n w0 σ0 κ S a w→ZK.go stp n o l S run K (fun S K=>ZK stp n ops l S K)=some r→∀ (Kw:Act→World→Prop),(∀ a w,wpList P ops (ZF n w0 σ0 κ K r) l a w→Kw a w)→
            (if run=true then o.wp P a w Kw (ZF n w0 σ0 κ K r) else Kw (a.put o.dst undef) w):=by
          intro S run hA h Kw hK
          unfold ZK.go at h
          cases run with
          |true=>
            rw [if_pos rfl]
            exact zjG hgl hstp (next:=fun S K=>ZK stp n ops l S K) h hA fun S' a' w' h' hA'=>hK _ _ (Yx hgl hstp l h' hA')
          |false=>exact skip hA h Kw hK
        split at h
        · rename_i q e
          have hyq:=hy.1 q e
          refine wpList_step fun Kw hK=>?_
          have hw:Region.wanted o (yielded ops a.tmps)=(q == want):=by simp [Region.wanted,hg,hyq]
          rw [hw]
          cases q with
          |true=>
            rw [if_pos rfl] at h
            have:=go (run:=want) (hA.lit e) h Kw hK
            cases want <;> simpa using this
          |false=>
            rw [if_neg (by simp)] at h
            have:=go (run:= !want) (hA.lit e) h Kw hK
            cases want <;> simpa using this
        · rename_i e
          have hyn:=hy.2 e
          refine wpList_step fun Kw hK=>?_
          have hw:Region.wanted o (yielded ops a.tmps)=false:=by simp [Region.wanted,hg,hyn]
          rw [hw]
          exact skip hA h Kw hK
        · cases h
def xb (P:Program) (n:Nat) (w0:Start) (σ0:FS) (κ:Kp) (c:Code) (run:(ρ:Type)→St C→(XE C→St C→Option ρ)→Option ρ):Prop:=
 ∀ (ρ:Type) (S:St C) (K:XE C→St C→Option ρ) (r:ρ),run ρ S K=some r→∀ (a:Act) (w:World),At n w0 σ0 κ S a w→c.wp P (ZF n w0 σ0 κ K r) a w
theorem xG {c:Code}{i:Nat}{raw:(ρ:Type)→St C→(XE C→St C→Option ρ)→Option ρ}(h:xb P n w0 σ0 κ c raw):xb P n w0 σ0 κ c (fun _ S K=>ZE.wrap κ.m hs i S K raw):=by
 intro ρ S K r hr a w hA
 unfold ZE.wrap at hr
 split at hr
 ·rename_i outs _
  obtain ⟨y,hy,ho⟩:=Option.bind_eq_some_iff.1 hr
  exact wp_mono (h _ _ _ _ hy _ _ hA) fun e a w hq=>hq.out ho
 ·exact h _ _ _ _ hr _ _ hA
theorem yK (hgl:C.gl w0.w σ0) (hstp:Y3 P n κ stp) (hdr:wV P n κ dr) (hlp:YR lp):∀ (c:Code) (i:Nat),xb P n w0 σ0 κ c (fun ρ S K=>ZE stp dr lp n κ.m hs c i ρ S K)
  | .skip,i=>by
    show xb P n w0 σ0 κ .skip fun _ S K=>ZE.wrap κ.m hs i S K _
    exact xG fun _ _ _ _ hr a w hA=>wp_skip ⟨_,hr,hA⟩
  | .ret,i=>by
    show xb P n w0 σ0 κ .ret fun _ S K=>ZE.wrap κ.m hs i S K _
    exact xG fun _ _ _ _ hr a w hA=>wp_ret ⟨_,hr,hA⟩
  | .exit j,i=>by
    show xb P n w0 σ0 κ (.exit j) fun _ S K=>ZE.wrap κ.m hs i S K _
    exact xG fun _ _ _ _ hr a w hA=>wp_exit ⟨_,hr,hA⟩
  | .seq c d,i=>by
    show xb P n w0 σ0 κ (.seq c d) fun _ S K=>ZE.wrap κ.m hs i S K _
    refine xG fun ρ S K r hr a w hA=>?_
    refine wp_seq (wp_mono (yK hgl hstp hdr hlp c (i+1) _ _ _ _ hr _ _ hA) ?_)
    intro e a w hq
    cases e with
    |normal=>obtain ⟨S',hk,hA'⟩:=hq;exact yK hgl hstp hdr hlp d _ _ _ _ _ hk _ _ hA'
    |exit j=>obtain ⟨S',hk,hA'⟩:=hq;exact ⟨S',hk,hA'⟩
    |ret=>obtain ⟨S',hk,hA'⟩:=hq;exact ⟨S',hk,hA'⟩
    |panic chain=>obtain ⟨v,S',hk,hA'⟩:=hq;exact ⟨v,S',hk,hA'⟩
    |goto l=>exact hq.elim
    |outgrown=>exact hq.elim
  | .cond x c d,i=>by
    show xb P n w0 σ0 κ (.cond x c d) fun _ S K=>ZE.wrap κ.m hs i S K _
    refine xG fun ρ S K r hr a w hA=>?_
    have hr:(match S.op x with
      | .bool q=>if q=true then ZE stp dr lp n κ.m hs c (i+1) _ S K else ZE stp dr lp n κ.m hs d (i+1+Y2 c) _ S K
      |_=>none)=some r:=hr
    split at hr
    · rename_i q e
      have hev:a.eval x = .bool q:=by
        obtain ⟨L,b,σ,PV,⟨ν,vs,ids,hA⟩,hi,hf⟩:=hA
        have:=hA.op x
        rw [e] at this
        rw [hf.eval];exact this.bool_inv
      cases q with
      |true=>exact wp_cond_true hev (yK hgl hstp hdr hlp c _ _ _ _ _ (by simpa using hr) _ _ hA)
      |false=>exact wp_cond_false hev (yK hgl hstp hdr hlp d _ _ _ _ _ (by simpa using hr) _ _ hA)
    · cases hr
  | .block j c,i=>by
    show xb P n w0 σ0 κ (.block j c) fun _ S K=>ZE.wrap κ.m hs i S K _
    refine xG fun ρ S K r hr a w hA=>?_
    refine wp_block (wp_mono (yK hgl hstp hdr hlp c (i+1) _ _ _ _ hr _ _ hA) ?_)
    intro e a w hq
    cases e with
    |normal=>obtain ⟨S',hk,hA'⟩:=hq;exact ⟨S',hk,hA'⟩
    |exit j'=>
      obtain ⟨S',hk,hA'⟩:=hq
      have hk:(bif Nat.beq j' j then K .normal S' else K (.exit j') S')=some r:=hk
      show if j'=j then _ else _
      cases e:Nat.beq j' j with
      |true=>rw [e] at hk;rw [if_pos (Nat.eq_of_beq_eq_true e)];exact ⟨S',hk,hA'⟩
      |false=>rw [e] at hk;rw [if_neg (fun h=>by rw [h] at e;simp at e)];exact ⟨S',hk,hA'⟩
    |ret=>obtain ⟨S',hk,hA'⟩:=hq;exact ⟨S',hk,hA'⟩
    |panic chain=>obtain ⟨v,S',hk,hA'⟩:=hq;exact ⟨v,S',hk,hA'⟩
    |goto l=>exact hq.elim
    |outgrown=>exact hq.elim
  | .loop c,i=>by
    intro ρ S K r hr a w hA
    unfold ZE at hr
    split at hr
    case h_2=>cases hr
    rename_i g outs _
    obtain ⟨x0,hx0,hr⟩:=Option.bind_eq_some_iff.1 hr
    obtain ⟨y,hy,ho⟩:=Option.bind_eq_some_iff.1 hr
    obtain ⟨m0,hm0⟩:=hlp _ _ _ hy
    have hA0:=hA.close hx0
    generalize hf:(fun x=>ZE stp dr lp n κ.m hs c (i+1) _ (g.open x) fun e S'=>match e with
          | .normal=>(g.close κ.m S').bind fun x'=>some (Step.next x')
          |e=>(zT κ.m outs e S').bind fun y=>some (Step.done y))=f at hm0
    classical
    let I:Nat→Act→World→Prop:=fun m a w=>∃ x,ye f m x=some y∧At n w0 σ0 κ (g.open x) a w
    refine wp_loop (fun a w=>∃ m,I m a w) (fun a w=>if h:∃ m,I m a w then (XP h).choose else 0) ⟨m0,x0,hm0,hA0⟩ ?_
    intro a1 w1 h1
    have hfind:=(XP h1).choose_spec.1
    rw [dif_pos h1]
    generalize (XP h1).choose=m1 at hfind ⊢
    obtain ⟨x,hit,hA1⟩:=hfind
    cases m1 with
    |zero=>simp [ye] at hit
    |succ m1=>
      simp only [ye] at hit
      cases hfx:f x with
      |none=>rw [hfx] at hit;simp at hit
      |some st=>
        rw [hfx] at hit
        rw [← hf] at hfx
        refine wp_mono (yK hgl hstp hdr hlp c (i+1) _ _ _ _ hfx _ _ hA1) ?_
        intro e a2 w2 hq
        have dn:∀ {e':XE C} {S':St C} {y':ze C outs},zT κ.m outs e' S'=some y'→st = .done y'→∀ {x},zbU n w0 σ0 κ S' e' x a2 w2→ZF n w0 σ0 κ K r x a2 w2:=by
          intro e' S' y' hc hst x hx
          subst hst
          simp only [Option.bind_some,Option.some.injEq] at hit
          subst hit
          exact Yc hc ho hx
        cases e with
        |normal=>
          obtain ⟨S',hk,hA'⟩:=hq
          obtain ⟨x',hx',hk⟩:=Option.bind_eq_some_iff.1 hk
          cases hk
          have hI:I m1 a2 w2:=⟨x',hit,hA'.close hx'⟩
          refine ⟨⟨m1,hI⟩,?_⟩
          rw [dif_pos ⟨m1,hI⟩]
          exact Nat.lt_succ_of_le ((XP ⟨m1,hI⟩).choose_spec.2 _ hI)
        |exit j=>
          obtain ⟨S',hk,hA'⟩:=hq
          obtain ⟨y',hy',hk⟩:=Option.bind_eq_some_iff.1 hk
          exact dn hy' (Option.some.inj hk).symm (x :=.exit j) ⟨rfl,hA'⟩
        |ret=>
          obtain ⟨S',hk,hA'⟩:=hq
          obtain ⟨y',hy',hk⟩:=Option.bind_eq_some_iff.1 hk
          exact dn hy' (Option.some.inj hk).symm (x :=.ret) hA'
        |panic chain=>
          obtain ⟨v,S',hk,hA'⟩:=hq
          obtain ⟨y',hy',hk⟩:=Option.bind_eq_some_iff.1 hk
          exact dn hy' (Option.some.inj hk).symm (x :=.panic chain) hA'
        |goto l=>exact hq.elim
        |outgrown=>exact hq.elim
  | .region id ops false,i=>by
    show xb P n w0 σ0 κ (.region id ops false) fun _ S K=>ZE.wrap κ.m hs i S K _
    exact xG fun _ _ _ _ hr a w hA=>wp_region_list (Yx hgl hstp _ hr hA)
  | .region id ops true,i=>fun ρ S K r hr a w hA=>by
    have hr:(match hs i with
      |some (.draw ord [])=>dr ops ord ρ S K
      |some (.draw ord (o::outs))=>(dr ops ord _ S fun e S'=>zT κ.m (o::outs) e S').bind fun y=>z6 (o::outs) y K
      |_=>none)=some r:=hr
    split at hr
    · exact hdr _ _ hgl _ _ _ _ _ _ _ hr _ _ hA
    · obtain ⟨y,hy,ho⟩:=Option.bind_eq_some_iff.1 hr
      exact wp_mono (hdr _ _ hgl _ _ _ _ _ _ _ hy _ _ hA) fun e a w hq=>hq.out ho
    · cases hr
  | .rangeFunc ..,i=>fun _ _ _ _ hr=>by simp [ZE] at hr
  | .scope c,i=>by
    show xb P n w0 σ0 κ (.scope c) fun _ S K=>ZE.wrap κ.m hs i S K _
    refine xG fun ρ S K r hr a w hA=>?_
    refine wp_scope_straight (wp_mono (yK hgl hstp hdr hlp c (i+1) _ _ _ _ hr _ _ hA) ?_)
    intro e a w hq
    cases e <;> first | exact hq | exact hq.elim
  | .label _,i=>by
    show xb P n w0 σ0 κ (.label _) fun _ S K=>ZE.wrap κ.m hs i S K _
    exact xG fun _ _ _ _ hr a w hA=>wp_label ⟨_,hr,hA⟩
  | .goto _,i=>fun _ _ _ _ hr=>by simp [ZE] at hr
  | .refuse _,i=>fun _ _ _ _ hr=>by simp [ZE] at hr
end
end Go.Px
namespace Go.Px
set_option linter.unusedSectionVars false
variable [Dfr]
set_option linter.unusedVariables false
def vA:List Value→Value
 |[v]=>v
 |vs =>.tuple vs.toArray
section
variable {κ:Kp}{C:Cod}{S:St C}{n:Nat}{w0:Start}{σ0 σ:FS}{P:Program}{ρ:Type}{L:List (Nat×Value)}{b:Nat→Value}{PV:List Priv}
def rvA (P:Program) (S:St C):ResultVar→Option (AV C.D)
 | .tmp t=>some (S.env t)
 | .cell t T=>match S.env t with
  | .pc id 0=>(match S.heap id with
   |some (.cell cs)=>xv P T cs 0
   |_=>none)
  |_=>none
def XW (P:Program) (S:St C):List ResultVar→Option (List (AV C.D))
 |[]=>some []
 |r::rs=>(rvA P S r).bind fun A=>(XW P S rs).bind fun As=>some (A::As)
omit [Dfr] in
theorem zn8 {ν:Val}{vs:Nat→List Value}{ids:List Nat}(h:AbsL κ S ν vs ids L b σ PV) {rv:ResultVar}{A:AV C.D}(hr:rvA P S rv=some A) {w:World}(hw:xr σ PV w) {tmps:Array Value}(ht:∀ i,tmps.getD i undef=look L b i) :
    ∃ v,(ZJ tmps rv).run P w = .ok v w∧VR C σ ν v A∧A.ok fun id=>(S.heap id).isSome=true:=by
  cases rv with
  |tmp t=>cases hr;exact ⟨_,by simp [ZJ,ht],h.env t,h.live t⟩
  |cell t T=>
    simp only [rvA] at hr
    split at hr
    · rename_i id e
      have hp:=h.env t
      rw [e] at hp
      have hp:look L b t = .pointer (some ((ν.adr id).add 0)):=hp
      split at hr
      · rename_i cs hcs
        obtain ⟨td,ti,hu,hi,h1,h2,e3⟩:=WP hr
        obtain ⟨m,hm,_⟩:=h.at hcs
        obtain ⟨hh,hrr,hsub⟩:=hw.get hm
        have hrr:Z7 (ν.adr id) (vs id) hh:=hrr
        have hc:=h.cell id cs hcs
        have hl2:(((vs id).drop 0).take ti.size).length=ti.size:=by rw [← h1];simp [hc.len]
        have:=Z5 (P:=P) (w:=w) ((ν.adr id).add 0) (((vs id).drop 0).take ti.size) hu hi hl2.symm (fun e=>by rw [hl2];exact h2 e) (fun j u hj=>by
          have hj':j < ti.size:=by
            have:=(List.getElem?_eq_some_iff.1 hj).1
            rw [hl2] at this;exact this
          rw [List.getElem?_take_of_lt hj',List.drop_zero] at hj
          rw [Addr.add_add];simpa using hrr.cell hsub hj)
        refine ⟨_,?_,by rw [e3];exact ((hc.drop 0).take _).val (agg:=zY td),vy hr (h.livec id cs hcs)⟩
        show (do loadVar T (← asAddr (tmps.getD t undef)):Sem Value).run P w=_
        rw [ht t,hp]
        simpa [asAddr] using this
      · cases hr
    · cases hr
omit [Dfr] in
theorem zgS {ν:Val}{vs:Nat→List Value}{ids:List Nat}(h:AbsL κ S ν vs ids L b σ PV) {w:World}(hw:xr σ PV w) {tmps:Array Value}(ht:∀ i,tmps.getD i undef=look L b i):∀ {rvs:List ResultVar}{As:List (AV C.D)},XW P S rvs=some As→
    ∃ us:List Value,us.length=rvs.length∧(∀ (j:Nat) rv u,rvs[j]?=some rv→us[j]?=some u→(ZJ tmps rv).run P w = .ok u w)∧VRs C σ ν us As∧AV.oks (fun id=>(S.heap id).isSome=true) As
  |[],As,hr=>by cases hr;exact ⟨[],rfl,fun j rv u h=>by simp at h,trivial,trivial⟩
  |rv::rvs,As,hr=>by
    obtain ⟨A,hA,hr⟩:=Option.bind_eq_some_iff.1 hr
    obtain ⟨As',hAs,hr⟩:=Option.bind_eq_some_iff.1 hr
    cases hr
    obtain ⟨u,h1,h2,h3⟩:=zn8 h hA hw ht
    obtain ⟨us,k1,k2,k3,k4⟩:=zgS h hw ht hAs
    refine ⟨u::us,by simp [k1],fun j rv' u' hj hu=>?_,⟨h2,k3⟩,⟨h3,k4⟩⟩
    cases j with
    |zero=>simp at hj hu;subst hj;subst hu;exact h1
    |succ j=>exact k2 j rv' u' (by simpa using hj) (by simpa using hu)
omit [Dfr] in
theorem zgy {fn:Func}{rvs:List ResultVar}(hr:fn.results.toList=rvs) (hl:rvs.length≤4) {tmps:Array Value}{w:World}{us:List Value}(hus:us.length=rvs.length) (h:∀ (j:Nat) rv u,rvs[j]?=some rv→us[j]?=some u→(ZJ tmps rv).run P w = .ok u w) :
    (results fn tmps).run P w = .ok (vA us) w:=by
  have hre:fn.results=rvs.toArray:=by apply Array.toList_inj.1;rw [hr]
  match rvs,us,hus,hl with
  |[],[],_,_=>exact zgs hre
  |[r1],[u1],_,_=>exact zgo hre (h 0 r1 u1 rfl rfl)
  |[r1,r2],[u1,u2],_,_=>exact zgp hre (h 0 r1 u1 rfl rfl) (h 1 r2 u2 rfl rfl)
  |[r1,r2,r3],[u1,u2,u3],_,_=>exact zgq hre (h 0 r1 u1 rfl rfl) (h 1 r2 u2 rfl rfl) (h 2 r3 u3 rfl rfl)
  |[r1,r2,r3,r4],[u1,u2,u3,u4],_,_=>exact zgr hre (h 0 r1 u1 rfl rfl) (h 1 r2 u2 rfl rfl) (h 2 r3 u3 rfl rfl) (h 3 r4 u4 rfl rfl)
  |_::_::_::_::_::_,_,_,hl=>simp at hl
structure Spec (C:Cod) where
 f:FuncId
 nr:Nat
 ins:Sig
 outs:List (XK×Sig)
 F:ins.ty C→Option (ze C outs)
def YS (As:List (AV C.D)) (heap:Nat→Option (Ent C)):St C:={env:=fun i=>(As[i]?).getD .und,heap:=heap}
omit [Dfr] in
def wq (κ:Kp) (st:Start) (σ0:FS) (nr:Nat) (outs:List (XK×Sig)) (r:ze C outs) (e:Ending) (w:World):Prop:=
 z6 outs r fun x S'=>match x,e with
  | .ret,.returned v=>∃ vals σ' PV',v=vA vals∧vals.length=nr∧Inv st σ0 σ' PV' w∧Zf κ S' (yx 0 vals) (fun _=>undef) σ' PV'
  | .pan A,.panicked chain=>∃ u σ' PV',chain=[{v:=u,recovered:=false}]∧Inv st σ0 σ' PV' w∧XS C σ' u A∧Zf κ S' [] (fun _=>undef) σ' PV'
  |_,_=>False
omit [Dfr] in
def Spec.OK (P : Program) (s : Spec C) : Prop := ∃ fn, P.funcs[s.f]? = some fn ∧ (fn.name == "runtime.NumGoroutine") = false ∧ fn.body.isNone = false ∧
 ∀ (x:s.ins.ty C) r,s.F x=some r→∀ (κ:Kp) (st:Start) (σ:FS),C.gl st.w σ→∀ (PV:List Priv) (ν:Val) (vs:Nat→List Value) (ids:List Nat) (args:List Value),κ.m=s.ins.es.length→args.length=s.ins.ts.length→AbsL κ (s.ins.open x) ν vs ids (yx 0 args) (fun _=>undef) σ PV→Pre st σ PV→Calls P s.f args.toArray st.w (wq κ st σ s.nr s.outs r)
def zn9 (e e':XE C):Prop:=match e,e' with
 | .pan v,.pan v'=>∃ (s:Sh) (y:s.ty C),Sh.get (fun _=>none) s v=some y∧v'=Sh.put (fun k=>k) s y
 | .normal,.normal=>True
 | .ret,.ret=>True
 | .exit i,.exit j=>i=j
 |_,_=>False
omit [Dfr] in
theorem Ys {m:Nat}{Q:XE C→St C→Prop}:∀ {outs:List (XK×Sig)}{e:XE C}{r:ze C outs},zT m outs e S=some r→
    (∀ (g:Sig) (x:g.ty C),g.close m S=some x→(∀ e',zn9 e e'→Q e' (g.open x)))→z6 outs r Q
  |[],e,r,h,_=>by cases h
  |[o],e,r,h,k=>closeX_prop h k
  |o::o2::l,e,r,h,k=>by
    unfold zT at h
    unfold z6
    cases hi:XK.is o.1 e with
    |true=>
      rw [hi,cond_true] at h
      split at h
      · rename_i z hz
        cases h
        exact closeX_prop hz k
      · obtain ⟨z,hz,rfl⟩:=Option.map_eq_some_iff.1 h
        exact Ys hz k
    |false=>
      rw [hi,cond_false] at h
      obtain ⟨z,hz,rfl⟩:=Option.map_eq_some_iff.1 h
      exact Ys hz k
where
 closeX_prop {m:Nat} {Q:XE C→St C→Prop} {o:XK×Sig} {e:XE C} {r:XK.ty C o.1 o.2} (h:zcA m o.1 o.2 e S=some r) (k:∀ (g:Sig) (x:g.ty C),g.close m S=some x→(∀ e',zn9 e e'→Q e' (g.open x))):Yw o.1 o.2 r Q:=by
  obtain ⟨kk,g⟩:=o
  cases e with
  |normal=>cases kk <;> first | (cases h;done) | exact k g r h .normal trivial
  |exit i=>
   cases kk <;> first | (cases h;done) | skip
   obtain ⟨hij,h2⟩:=zc h
   obtain rfl:=Nat.eq_of_beq_eq_true hij
   exact k g r h2 (.exit _) rfl
  |ret=>cases kk <;> first | (cases h;done) | exact k g r h .ret trivial
  |pan v=>
   cases kk <;> first | (cases h;done) | skip
   rename_i s
   obtain ⟨z,hz,h2⟩:=Option.bind_eq_some_iff.1 h
   obtain ⟨x',hx',h3⟩:=Option.bind_eq_some_iff.1 h2
   cases h3
   show Q (.pan (Sh.put (fun k=>k) s (Sh.hd (s:=s) (l:=g.shs) (Sh.pk (s:=s) (l:=g.shs) z x')))) (g.open (Sh.tl (s:=s) (l:=g.shs) (Sh.pk (s:=s) (l:=g.shs) z x')))
   rw [show Sh.hd (s:=s) (l:=g.shs) (Sh.pk (s:=s) (l:=g.shs) z x')=z from Sh.hd_pk,show Sh.tl (s:=s) (l:=g.shs) (Sh.pk (s:=s) (l:=g.shs) z x')=x' from Sh.tl_pk]
   exact k g x' hx' _ ⟨s,z,hz,rfl⟩
def zk8 (stp:Nat→yP C) (dr:Nat→Yf C) (lp:ZZ) (fn:Func) (nr:Nat) (ins:Sig) (outs:List (XK×Sig)) (hs:Nat→Option Hint) (x:ins.ty C):Option (ze C outs):=
  match fn.body with
  |none=>none
  |some c=>chk (Nat.ble ins.ts.length fn.ntmps && (Nat.beq fn.results.toList.length nr && (Nat.ble nr 4 && Nat.ble ins.es.length 64)))
      (ZE (stp fn.ntmps) (dr fn.ntmps) lp fn.ntmps ins.es.length hs c 0 _ (ins.open x) fun e S=>match e with
        | .ret=>(XW P S fn.results.toList).bind fun As=>zT ins.es.length outs .ret (YS As S.heap)
        | .normal=>(XW P S fn.results.toList).bind fun As=>zT ins.es.length outs .ret (YS As S.heap)
        | .pan v=>zT ins.es.length outs (.pan v) (YS [] S.heap)
        |_=>none)
end
end Go.Px
namespace Go.Px
section
variable {κ:Kp}{C:Cod}{S:St C}{n:Nat}{w0:Start}{σ0 σ:FS}{P:Program}{ρ:Type}{L:List (Nat×Value)}{b:Nat→Value}{PV:List Priv}
theorem ZG {vals:List Value}:∀ i,look (yx 0 vals) (fun _=>undef) i=(vals[i]?).getD undef:=fun i=>by rw [vb];simp
theorem Vg {ν:Val}{vs:Nat→List Value}{ids:List Nat}(h:AbsL κ S ν vs ids L b σ PV) {us:List Value}{As:List (AV C.D)}(hr:VRs C σ ν us As) (hl:AV.oks (fun id=>(S.heap id).isSome=true) As):AbsL κ (YS As S.heap) ν vs ids (yx 0 us) (fun _=>undef) σ PV:=by
 refine ⟨⟨h.nd,h.dom,h.pv,h.cell,fun t=>?_,h.one⟩,fun t=>?_,h.livec,h.keep⟩
 ·rw [ZG]
  show VR C σ ν _ ((As[t]?).getD .und)
  cases e:As[t]? with
  |none=>trivial
  |some A=>
   obtain ⟨u,e1,e2⟩:=hr.get t A e
   rw [e1];exact e2
 ·show ((As[t]?).getD .und).ok _
  cases e:As[t]? with
  |none=>trivial
  |some A=>exact AV.oks_iff.1 hl A (List.mem_of_getElem? e)
theorem At.defers [Dfr] {κ:Kp}{C:Cod}{S:St C}{n:Nat}{w0:Start}{σ0:FS}{a:Act}{w:World}(h:At n w0 σ0 κ S a w):a.defers=Dfr.l:=by
 obtain ⟨_,_,_,_,_,_,hf⟩:=h;exact hf.defers
theorem zgT {κ:Kp}{C:Cod}{P:Program}{S':St C}{L:List (Nat×Value)}{b:Nat→Value}{σ':FS}{PV':List Priv}{fn:Func}{nr:Nat}{outs:List (XK×Sig)}{r:ze C outs}{st:Start}{σ:FS}{tmps:Array Value}{w:World}(c4:fn.results.toList.length=nr) (c2:fn.results.toList.length≤4) (hk:(XW P S' fn.results.toList).bind (fun As=>zT κ.m outs .ret (YS As S'.heap))=some r)
    (hA':Zf κ S' L b σ' PV') (hi':Inv st σ σ' PV' w) (hget:∀ i,tmps.getD i undef=look L b i):∃ v,(results fn tmps).run P w = .ok v w∧wq κ st σ nr outs r (.returned v) w:=by
  obtain ⟨As,hAs,hk⟩:=Option.bind_eq_some_iff.1 hk
  obtain ⟨ν',vs',ids',hA'⟩:=hA'
  obtain ⟨us,k1,k2,k3,k4⟩:=zgS hA' hi'.held hget hAs
  refine ⟨_,zgy rfl c2 k1 k2,?_⟩
  have hav:=Vg hA' k3 k4
  refine Ys hk fun g y hy e' he=>?_
  cases e' <;> first | exact he.elim | skip
  obtain ⟨σ2,PV2,hi2,h2⟩:=zae hy ⟨ν',vs',ids',hav⟩ hi'
  exact ⟨us,σ2,PV2,rfl,k1.trans c4,hi2,h2⟩
theorem zaf [Dfr] {κ:Kp}{C:Cod}{P:Program}{S':St C}{fn:Func}{nr:Nat}{outs:List (XK×Sig)}{r:ze C outs}{st:Start}{σ:FS}{a:Act}{w:World}(c4:fn.results.toList.length=nr) (c2:fn.results.toList.length≤4) (hk:(XW P S' fn.results.toList).bind (fun As=>zT κ.m outs .ret (YS As S'.heap))=some r)
    (hA:At fn.ntmps st σ κ S' a w):∃ v,(results fn a.tmps).run P w = .ok v w∧wq κ st σ nr outs r (.returned v) w:=by
  obtain ⟨L,b,σ',PV',hA',hi',hf'⟩:=hA
  exact zgT c4 c2 hk hA' hi' hf'.get
theorem zmV {stp : Nat → yP C} {dr : Nat → Yf C} {lp : ZZ} {f : FuncId} {fn : Func} {nr : Nat} {ins : Sig} {outs : List (XK × Sig)} {hs : Nat → Option Hint} {F : ins.ty C → Option (ze C outs)} (hstp : ∀ κ, Y3 P fn.ntmps κ (stp fn.ntmps)) (hdr : ∀ κ, wV P fn.ntmps κ (dr fn.ntmps)) (hlp : YR lp) (hf : P.funcs[f]? = some fn) (hnm : (fn.name == "runtime.NumGoroutine") = false) (hbs : fn.body.isNone = false) (hF : ∀ x r, F x = some r → zk8 (P := P) stp dr lp fn nr ins outs hs x = some r) :
    Spec.OK P ⟨f,nr,ins,outs,F⟩:=by
  refine ⟨fn,hf,hnm,hbs,?_⟩
  intro x r hr κ st σ hg PV ν vs ids args hm hargs hA hpre
  have hr:=hF x r hr
  unfold zk8 at hr
  split at hr
  · cases hr
  rename_i c hb
  obtain ⟨hc,hr⟩:=zc hr
  simp only [Bool.and_eq_true] at hc
  obtain ⟨c1,c4,c2,c3⟩:=hc
  have c4:=Nat.eq_of_beq_eq_true c4
  rw [← c4] at c2
  have hm:κ.m=ins.es.length:=hm
  rw [← hm] at hr
  have hargs:args.length=ins.ts.length:=hargs
  have hn:args.length≤fn.ntmps:=by rw [hargs];exact Nat.le_of_ble_eq_true c1
  have hat:At fn.ntmps st σ κ (ins.open x) {tmps:=args.toArray++Array.replicate (fn.ntmps - args.toArray.size) undef,defers:=[]} st.w:=⟨_,_,σ,PV,⟨ν,vs,ids,hA⟩,hpre.inv,w5 hn⟩
  refine calls_of_wp hf hb (wp_mono (yK hg (hstp κ) (hdr κ) hlp c 0 _ _ _ _ hr _ _ hat) ?_)
  have hret:∀ {S':St C} {a:Act} {w:World},(XW P S' fn.results.toList).bind (fun As=>zT κ.m outs .ret (YS As S'.heap))=some r→At fn.ntmps st σ κ S' a w→a.defers=[]∧∃ v,(results fn a.tmps).run P w = .ok v w∧wq κ st σ nr outs r (.returned v) w:=fun hk hA'=>⟨hA'.defers,zaf c4 (Nat.le_of_ble_eq_true c2) hk hA'⟩
  intro e a w hq
  cases e with
  |normal=>obtain ⟨S',hk,hA'⟩:=hq;exact hret hk hA'
  |ret=>obtain ⟨S',hk,hA'⟩:=hq;exact hret hk hA'
  |exit j=>obtain ⟨S',hk,hA'⟩:=hq;cases hk
  |panic chain=>
    obtain ⟨v,S',hk,hA'⟩:=hq
    obtain ⟨u,L,b,σ',PV',rfl,hp,⟨ν',vs',ids',hA'⟩,hi',hf'⟩:=hA'
    refine ⟨hf'.defers,?_⟩
    have hav:AbsL κ (YS [] S'.heap) ν' vs' ids' [] (fun _=>undef) σ' PV':=Vg (us:=[]) hA' trivial trivial
    refine Ys hk fun g y hy e' he=>?_
    cases e' <;> first | exact he.elim | skip
    obtain ⟨s,z,hz,rfl⟩:=he
    obtain ⟨σ2,PV2,hl,hi2,h2⟩:=XV hy ⟨ν',vs',ids',hav⟩ hi'
    exact ⟨u,σ2,PV2,rfl,hi2,hp.again hl hz,h2⟩
  |goto l=>exact hq.elim
  |outgrown=>exact hq.elim
end
end Go.Px
namespace Go.Px
set_option linter.unusedSectionVars false
variable [Dfr]
set_option linter.unusedVariables false
mutual
def AV.ren {D:Nat→Type}(ρ:Nat→Nat):AV D→AV D
 | .row j =>.row (ρ j)
 | .pc j o =>.pc (ρ j) o
 | .pr j T i o =>.pr (ρ j) T i o
 | .agg cs =>.agg (AV.rens ρ cs)
 | .tup cs =>.tup (AV.rens ρ cs)
 | .clo f cs =>.clo f (AV.rens ρ cs)
 | .ifc t A =>.ifc t (AV.ren ρ A)
 |A=>A
def AV.rens {D:Nat→Type}(ρ:Nat→Nat):List (AV D)→List (AV D)
 |[]=>[]
 |A::As=>AV.ren ρ A::AV.rens ρ As
end
mutual
def AV.kill {D:Nat→Type}(p:Nat→Bool):AV D→AV D
 | .row j=>bif p j then .und else .row j
 | .pc j o=>bif p j then .und else .pc j o
 | .pr j T i o=>bif p j then .und else .pr j T i o
 | .agg cs =>.agg (AV.kills p cs)
 | .tup cs =>.tup (AV.kills p cs)
 | .clo f cs =>.clo f (AV.kills p cs)
 | .ifc t A =>.ifc t (AV.kill p A)
 |A=>A
def AV.kills {D:Nat→Type}(p:Nat→Bool):List (AV D)→List (AV D)
 |[]=>[]
 |A::As=>AV.kill p A::AV.kills p As
end
section
variable {κ:Kp}{C:Cod}{S:St C}{n:Nat}{w0:Start}{σ0 σ:FS}{P:Program}{L:List (Nat×Value)}{b:Nat→Value}{PV:List Priv}{ν ν':Val}{vs:Nat→List Value}{ids:List Nat}
omit [Dfr] in
mutual
theorem VR.ren {ρ:Nat→Nat}{p:Nat→Prop}(h:∀ k,p k→ν'.hdr (ρ k)=ν.hdr k∧ν'.adr (ρ k)=ν.adr k):∀ {A:AV C.D}{v:Value},A.ok p→VR C σ ν v A→VR C σ ν' v (AV.ren ρ A)
 | .row _,v,k,r=>by show v=ν'.hdr _;rw [(h _ k).1];exact r
 | .pc _ _,v,k,r=>by show v = .pointer (some ((ν'.adr _).add _));rw [(h _ k).2];exact r
 | .pr _ _ _ _,v,k,r=>by show v = .pointer (some (zp (ν'.hdr _) _));rw [(h _ k).1];exact r
 | .agg cs,_,k,⟨vs,e,r⟩=>⟨vs,e,VRs.ren h k r⟩
 | .tup cs,_,k,⟨vs,e,r⟩=>⟨vs,e,VRs.ren h k r⟩
 | .clo _ cs,_,k,⟨vs,e,r⟩=>⟨vs,e,VRs.ren h k r⟩
 | .ifc _ A,_,k,⟨u,e,r⟩=>⟨u,e,VR.ren h k r⟩
 | .int _ _,_,_,r=>r
 | .bool _,_,_,r=>r
 | .str _,_,_,r=>r
 | .sl _ _ _,_,_,r=>r
 | .pz _ _ _,_,_,r=>r
 | .pnil,_,_,r=>r
 | .nils,_,_,r=>r
 | .nilf,_,_,r=>r
 | .nili,_,_,r=>r
 | .und,_,_,_=>trivial
theorem VRs.ren {ρ:Nat→Nat}{p:Nat→Prop}(h:∀ k,p k→ν'.hdr (ρ k)=ν.hdr k∧ν'.adr (ρ k)=ν.adr k):∀ {cs:List (AV C.D)}{vs:List Value},AV.oks p cs→VRs C σ ν vs cs→VRs C σ ν' vs (AV.rens ρ cs)
 |[],[],_,_=>trivial
 |A::As,v::vs,⟨k,l⟩,⟨r,s⟩=>⟨VR.ren h k r,VRs.ren h l s⟩
 |[],_::_,_,r=>r.elim
 |_::_,[],_,r=>r.elim
end
omit [Dfr] in
mutual
theorem AV.ok_ren {D:Nat→Type}{p q:Nat→Prop}{ρ:Nat→Nat}(h:∀ k,p k→q (ρ k)):∀ {A:AV D},A.ok p→(AV.ren ρ A).ok q
 | .row _,k=>h _ k
 | .pc _ _,k=>h _ k
 | .pr _ _ _ _,k=>h _ k
 | .agg cs,k=>AV.oks_ren h (A:=cs) k
 | .tup cs,k=>AV.oks_ren h (A:=cs) k
 | .clo _ cs,k=>AV.oks_ren h (A:=cs) k
 | .ifc _ A,k=>AV.ok_ren h (A:=A) k
 | .int _ _,_=>trivial
 | .bool _,_=>trivial
 | .str _,_=>trivial
 | .sl _ _ _,_=>trivial
 | .pz _ _ _,_=>trivial
 | .pnil,_=>trivial
 | .nils,_=>trivial
 | .nilf,_=>trivial
 | .nili,_=>trivial
 | .und,_=>trivial
theorem AV.oks_ren {D:Nat→Type}{p q:Nat→Prop}{ρ:Nat→Nat}(h:∀ k,p k→q (ρ k)):∀ {A:List (AV D)},AV.oks p A→AV.oks q (AV.rens ρ A)
 |[],_=>trivial
 |A::As,⟨k,l⟩=>⟨AV.ok_ren h k,AV.oks_ren h l⟩
end
omit [Dfr] in
mutual
theorem VR.kill {p:Nat→Bool}:∀ {A:AV C.D}{v:Value},VR C σ ν v A→VR C σ ν v (AV.kill p A)
 | .row j,v,r=>by unfold AV.kill;cases p j <;> first | exact r | trivial
 | .pc j _,v,r=>by unfold AV.kill;cases p j <;> first | exact r | trivial
 | .pr j _ _ _,v,r=>by unfold AV.kill;cases p j <;> first | exact r | trivial
 | .agg cs,_,⟨vs,e,r⟩=>⟨vs,e,VRs.kill r⟩
 | .tup cs,_,⟨vs,e,r⟩=>⟨vs,e,VRs.kill r⟩
 | .clo _ cs,_,⟨vs,e,r⟩=>⟨vs,e,VRs.kill r⟩
 | .ifc _ A,_,⟨u,e,r⟩=>⟨u,e,VR.kill r⟩
 | .int _ _,_,r=>r
 | .bool _,_,r=>r
 | .str _,_,r=>r
 | .sl _ _ _,_,r=>r
 | .pz _ _ _,_,r=>r
 | .pnil,_,r=>r
 | .nils,_,r=>r
 | .nilf,_,r=>r
 | .nili,_,r=>r
 | .und,_,_=>trivial
theorem VRs.kill {p:Nat→Bool}:∀ {cs:List (AV C.D)}{vs:List Value},VRs C σ ν vs cs→VRs C σ ν vs (AV.kills p cs)
 |[],[],_=>trivial
 |A::As,v::vs,⟨r,s⟩=>⟨VR.kill r,VRs.kill s⟩
 |[],_::_,r=>r.elim
 |_::_,[],r=>r.elim
end
omit [Dfr] in
mutual
theorem AV.ok_kill {D:Nat→Type}{q:Nat→Prop}{p:Nat→Bool}:∀ {A:AV D},A.ok q→(AV.kill p A).ok fun j=>q j∧p j=false
 | .row j,k=>by unfold AV.kill;cases e:p j <;> first | exact ⟨k,e⟩ | trivial
 | .pc j _,k=>by unfold AV.kill;cases e:p j <;> first | exact ⟨k,e⟩ | trivial
 | .pr j _ _ _,k=>by unfold AV.kill;cases e:p j <;> first | exact ⟨k,e⟩ | trivial
 | .agg cs,k=>AV.oks_kill (A:=cs) k
 | .tup cs,k=>AV.oks_kill (A:=cs) k
 | .clo _ cs,k=>AV.oks_kill (A:=cs) k
 | .ifc _ A,k=>AV.ok_kill (A:=A) k
 | .int _ _,_=>trivial
 | .bool _,_=>trivial
 | .str _,_=>trivial
 | .sl _ _ _,_=>trivial
 | .pz _ _ _,_=>trivial
 | .pnil,_=>trivial
 | .nils,_=>trivial
 | .nilf,_=>trivial
 | .nili,_=>trivial
 | .und,_=>trivial
theorem AV.oks_kill {D:Nat→Type}{q:Nat→Prop}{p:Nat→Bool}:∀ {A:List (AV D)},AV.oks q A→AV.oks (fun j=>q j∧p j=false) (AV.kills p A)
 |[],_=>trivial
 |A::As,⟨k,l⟩=>⟨AV.ok_kill k,AV.oks_kill l⟩
end
omit [Dfr] in
theorem zmW {f:Nat→Priv}{l:List Nat}(hnd:l.Nodup) {ids:List Nat}(hs:∀ j∈l,j∈ids) {gg:za}(k:Sep σ (ids.map f) gg):Sep σ (l.map f) gg:=by
 classical
 have hpos:∀ j,j∈l→∃ m:Nat,ids[m]?=some j:=fun j hj=>List.mem_iff_getElem?.1 (hs j hj)
 let pos:Nat→Nat:=fun j=>if hj:j∈l then (hpos j hj).choose else 0
 have hp:∀ j (hj:j∈l),ids[pos j]?=some j:=fun j hj=>by
  have:=(hpos j hj).choose_spec
  simp only [pos,hj,dif_pos];exact this
 refine k.select (l.map pos) ?_ ?_
 ·rw [List.nodup_iff_pairwise_ne,List.pairwise_map]
  refine List.Pairwise.imp_of_mem ?_ (List.nodup_iff_pairwise_ne.1 hnd)
  intro i j hi hj hne e
  have e1:=hp i hi
  have e2:=hp j hj
  rw [e,e2] at e1
  exact hne (Option.some.inj e1).symm
 ·rw [List.map_map,List.map_map]
  refine List.map_congr_left fun j hj=>?_
  show (ids.map f)[pos j]?=some (f j)
  rw [List.getElem?_map,hp j hj];rfl
omit [Dfr] in
theorem AbsL.lend (h:AbsL κ S ν vs ids L b σ PV) {g:Sig}{m:Nat}{bl:Bl}{x:g.ty C}{T:St C}{L':List (Nat×Value)}{b':Nat→Value}(hT:T.heap=S.heap) (henv:∀ t,VR C σ ν (look L' b' t) (T.env t)) (hg:Xb g m T bl=some x) (hl:g.es.length≤64) :
    ∃ ν' vs' ids',AbsL ⟨g.es.length,hl,ν'⟩ (g.open x) ν' vs' ids' L' b' σ (ids'.map fun k=>Zq C ν' vs' k ((g.open x).heap k))∧
      (∀ k id,Bl.fn bl k=some id→ν'.hdr k=ν.hdr id∧ν'.adr k=ν.adr id)∧(∀ k,k∈ids'↔(Bl.fn bl k).isSome=true)∧(∀ k id,Bl.fn bl k=some id→(S.heap id).isSome=true)∧
      ∀ gg,Sep σ PV gg→Sep σ ((ids'.map fun k=>Zq C ν' vs' k ((g.open x).heap k))++((ids.filter fun j=> !YE j bl).map fun j=>Zq C ν vs j (S.heap j))) gg:=by
  obtain ⟨hb,hg⟩:=zc hg
  have hB:=BdOK.of hb
  let B:=Bl.fn bl
  let ν':Val:={hdr:=fun k=>match B k with | some id=>ν.hdr id | none =>.slice none 0 0,adr:=fun k=>match B k with | some id=>ν.adr id | none=>default}
  let vs':Nat→List Value:=fun k=>match B k with | some id=>vs id | none=>[]
  have hν:Rn B (fun k=>k) ν ν':=⟨fun k id e=>by simp [ν',e],h.one⟩
  have hsplit:=Ve g.ts (g.es.map ESh.sh) (avs:=g.ts.map fun t=>T.env t.1) (by simp) hg
  have hsl:(List.range g.es.length).map (wJ T bl)=(List.range' 0 g.es.length).map fun k=>match B k with | some id=>zeK (T.heap id) | none =>.und:=by
    rw [← List.range_eq_range'];rfl
  rw [hsl] at hsplit
  have hcell:∀ id cs,T.heap id=some (.cell cs)→VRs C σ ν (vs id) cs:=fun id cs e=>h.cell id cs (by rw [← hT];exact e)
  have hheap:=fun k id (e:B k=some id)=>ve (N:=g.es.length) hν (fun i j _ _ e=>e) hcell g.es 0 (by omega) hsplit (fun k e he=>by rw [Nat.zero_add];exact hB.gone k e he) k id e (Nat.zero_le _) (by have:=hB.lt k id e;omega)
  have hnone:∀ k,B k=none→(g.open x).heap k=none:=fun k e=>by
    refine wU g.es 0 fun j e' he hj=>?_
    have hj:k=j:=by simpa using hj
    subst hj
    exact (hB.gone k e' he).2 e
  have hsome:∀ k,((g.open x).heap k).isSome=true↔(B k).isSome=true:=fun k=>by
    cases e:B k with
    |none=>rw [hnone k e];simp
    |some id=>
      rcases hheap k id e with ⟨cs,cs',_,h2,_⟩ | ⟨T,s,_,h2⟩ | ⟨q,T,b2,s,_,h2⟩
      all_goals rw [show (g.open x).heap k=_ from h2];simp
  have henv':=Vf (L:=L') (b:=b') (σ:=σ) hν (g.es.map ESh.sh) henv g.ts hg
  let ids':=(List.range g.es.length).filter fun k=>(B k).isSome
  have hmem:∀ k,k∈ids'↔(B k).isSome=true:=fun k=>by
    simp only [ids',List.mem_filter,List.mem_range]
    refine ⟨fun h=>h.2,fun h=>⟨?_,h⟩⟩
    obtain ⟨id,e⟩:=Option.isSome_iff_exists.1 h
    exact hB.lt k id e
  have hnd:ids'.Nodup:=List.Nodup.sublist List.filter_sublist List.nodup_range
  have hin:∀ k id,B k=some id→(S.heap id).isSome=true∧Zq C ν' vs' k ((g.open x).heap k)=Zq C ν vs id (S.heap id):=fun k id e=>by
    rcases hheap k id e with ⟨cs,cs',h1,h2,_⟩ | ⟨T',s,h1,h2⟩ | ⟨q,T',b2,s,h1,h2⟩
    · rw [hT] at h1
      refine ⟨by rw [h1];rfl,?_⟩
      rw [show (g.open x).heap k=_ from h2,h1]
      simp [Zq,ν',vs',e]
    · rw [hT] at h1
      refine ⟨by rw [h1];rfl,?_⟩
      rw [show (g.open x).heap k=_ from h2,h1]
      simp [Zq,ν',e]
    · rw [hT] at h1
      refine ⟨by rw [h1];rfl,?_⟩
      rw [show (g.open x).heap k=_ from h2,h1]
      simp [Zq,ν',e]
  refine ⟨ν',vs',ids',⟨⟨hnd,fun k=>by rw [hmem];exact (hsome k).symm,rfl,fun k cs hk=>?_,fun t=>(henv' t).1,fun i=>?_⟩,fun t=>?_,fun k cs hk=>?_,fun k hk hs=>⟨rfl,rfl⟩⟩,fun k id e=>?_,hmem,fun k id e=>(hin k id e).1,fun gg ks=>?_⟩
  · obtain ⟨id,e⟩:=Option.isSome_iff_exists.1 ((hsome k).1 (by rw [hk];rfl))
    rcases hheap k id e with ⟨c,c',h1,h2,h3,_⟩ | ⟨T,s,h1,h2⟩ | ⟨q,T,b2,s,h1,h2⟩
    · rw [show (g.open x).heap k=_ from h2] at hk;cases hk
      simpa [vs',e] using h3
    · rw [show (g.open x).heap k=_ from h2] at hk;cases hk
    · rw [show (g.open x).heap k=_ from h2] at hk;cases hk
  · simp only [ν']
    cases B i with
    |none=>rfl
    |some id=>exact h.one id
  · refine AV.ok_mono (fun j hj=>?_) (henv' t).2
    obtain ⟨k2,id2,e2,e3⟩:=hj
    rw [e3]
    exact (hsome k2).2 (by rw [show B k2=some id2 from e2];rfl)
  · obtain ⟨id,e⟩:=Option.isSome_iff_exists.1 ((hsome k).1 (by rw [hk];rfl))
    rcases hheap k id e with ⟨c,c',h1,h2,_,h4⟩ | ⟨T,s,h1,h2⟩ | ⟨q,T,b2,s,h1,h2⟩
    · rw [show (g.open x).heap k=_ from h2] at hk;cases hk
      refine AV.oks_mono (fun j hj=>?_) h4
      obtain ⟨k2,id2,e2,e3⟩:=hj
      rw [e3]
      exact (hsome k2).2 (by rw [show B k2=some id2 from e2];rfl)
    · rw [show (g.open x).heap k=_ from h2] at hk;cases hk
    · rw [show (g.open x).heap k=_ from h2] at hk;cases hk
  · have e:B k=some id:=e
    simp [ν',e]
  · rw [h.pv] at ks
    let imgs:List Nat:=ids'.map fun k=>(B k).getD 0
    have himg:∀ k,k∈ids'→B k=some ((B k).getD 0):=fun k hk=>by
      obtain ⟨id,e⟩:=Option.isSome_iff_exists.1 ((hmem k).1 hk)
      rw [e];rfl
    have e1:(ids'.map fun k=>Zq C ν' vs' k ((g.open x).heap k))=imgs.map fun j=>Zq C ν vs j (S.heap j):=by
      rw [List.map_map]
      exact List.map_congr_left fun k hk=>(hin k _ (himg k hk)).2
    rw [e1,← List.map_append]
    refine zmW ?_ ?_ ks
    · refine List.nodup_append.2 ⟨?_,List.Nodup.sublist List.filter_sublist h.nd,?_⟩
      · show (ids'.map fun k=>(B k).getD 0).Nodup
        rw [List.nodup_iff_pairwise_ne,List.pairwise_map]
        refine List.Pairwise.imp_of_mem ?_ (List.nodup_iff_pairwise_ne.1 hnd)
        intro i j hi hj hne e
        have h1:=himg i hi
        have h2:=himg j hj
        rw [e] at h1
        exact hne (hB.inj i j _ h1 h2)
      · intro i hi j hj e
        subst e
        obtain ⟨k,hk,rfl⟩:=List.mem_map.1 hi
        have:=(List.mem_filter.1 hj).2
        rw [xF (himg k hk)] at this
        cases this
    · intro j hj
      rcases List.mem_append.1 hj with hj | hj
      · obtain ⟨k,hk,rfl⟩:=List.mem_map.1 hj
        exact (h.dom _).2 (hin k _ (himg k hk)).1
      · exact (List.mem_filter.1 hj).1
end
end Go.Px
namespace Go.Px
set_option linter.unusedSectionVars false
variable [Dfr]
set_option linter.unusedVariables false
def Zg (id:Nat):List Nat→Bool
 |[]=>false
 |a::r=>Nat.beq id a || Zg id r
omit [Dfr] in
theorem Zj {id:Nat}:∀ {l:List Nat},Zg id l=true↔id∈l
 |[]=>by simp [Zg]
 |a::r=>by
  simp only [Zg,Bool.or_eq_true,Zj (l:=r),List.mem_cons]
  constructor
  ·rintro (h | h)
   ·exact .inl (Nat.eq_of_beq_eq_true h)
   ·exact .inr h
  ·rintro (rfl | h)
   ·left;simp
   ·exact .inr h
omit [Dfr] in
theorem zbV {id:Nat}:∀ {bl:Bl},YE id bl=true→∃ k,Bl.fn bl k=some id
 |[],h=>by cases h
 |none::r,h=>by
  obtain ⟨k,e⟩:=zbV (bl:=r) h
  exact ⟨k+1,by simpa [Bl.fn] using e⟩
 |some a::r,h=>by
  simp only [YE,Bool.or_eq_true] at h
  rcases h with h | h
  ·exact ⟨0,by simp [Bl.fn,Nat.eq_of_beq_eq_true h]⟩
  ·obtain ⟨k,e⟩:=zbV (bl:=r) h
   exact ⟨k+1,by simpa [Bl.fn] using e⟩
def YK:List ESh→Bl→List Nat
 |e::es,b::bl=>(match b with
  |some id=>bif e.isGone then [id] else []
  |none=>[])++YK es bl
 |_,_=>[]
omit [Dfr] in
theorem WT {id:Nat}:∀ {es:List ESh}{bl:Bl},id∈YK es bl↔∃ (k:Nat) (e:ESh),es[k]?=some e∧e.isGone=true∧Bl.fn bl k=some id
 |[],bl=>by simp [YK]
 |e::es,[]=>by simp [YK,Bl.fn]
 |e::es,b::bl=>by
  rw [show YK (e::es) (b::bl)=(match b with | some id=>bif e.isGone then [id] else [] | none=>[])++YK es bl from rfl,List.mem_append,WT (es:=es) (bl:=bl)]
  constructor
  ·rintro (h | ⟨k,e',h1,h2,h3⟩)
   ·cases b with
    |none=>cases h
    |some a=>
     cases hg:e.isGone with
     |false=>rw [hg] at h;cases h
     |true=>rw [hg] at h;simp at h;exact ⟨0,e,rfl,hg,by simp [Bl.fn,h]⟩
   ·exact ⟨k+1,e',by simpa using h1,h2,by simpa [Bl.fn] using h3⟩
  ·rintro ⟨k,e',h1,h2,h3⟩
   cases k with
   |zero=>
    left
    simp at h1;subst h1
    have:b=some id:=by simpa [Bl.fn] using h3
    subst this
    rw [h2];simp
   |succ k=>exact .inr ⟨k,e',by simpa using h1,h2,by simpa [Bl.fn] using h3⟩
section
variable {κ κs:Kp}{C:Cod}{S Sr:St C}{n:Nat}{w0:Start}{σ0 σ σ':FS}{P:Program}{L Lr:List (Nat×Value)}{b br:Nat→Value}{PV A':List Priv}{ν νr:Val}{vs vsr:Nat→List Value}{ids idsr:List Nat}
def Ent.ren (ρ:Nat→Nat):Ent C→Ent C
 | .cell cs =>.cell (AV.rens ρ cs)
 | .row T s =>.row T s
 | .obj k T b s =>.obj k T b s
def Ent.kill (p:Nat→Bool):Ent C→Ent C
 | .cell cs =>.cell (AV.kills p cs)
 | .row T s =>.row T s
 | .obj k T b s =>.obj k T b s
def wc (d:Nat) (bl:Bl) (k:Nat):Nat:=match Bl.fn bl k with
 |some id=>id
 |none=>nid d k
def XA (ρ:Nat→Nat) (Hr:Nat→Option (Ent C)):List ESh→Nat→(Nat→Option (Ent C))→Nat→Option (Ent C)
 |[],_,base=>base
 |e::es,k,base=>fun i=>bif !e.isGone && Nat.beq i (ρ k) then (Hr k).map (Ent.ren ρ) else XA ρ Hr es (k+1) base i
omit [Dfr] in
theorem wW {ρ:Nat→Nat}{Hr base:Nat→Option (Ent C)}{i:Nat}:∀ {es:List ESh}{k0:Nat},(∀ k e,es[k]?=some e→e.isGone=false→i≠ρ (k0+k))→XA ρ Hr es k0 base i=base i
 |[],_,_=>rfl
 |e::es,k0,h=>by
  unfold XA
  have ih:=wW (ρ:=ρ) (Hr:=Hr) (base:=base) (i:=i) (es:=es) (k0:=k0+1) fun k e' he hg=>by
   have:=h (k+1) e' (by simpa using he) hg
   rwa [show k0+1+k=k0+(k+1) by omega]
  cases hg:e.isGone with
  |true=>simpa using ih
  |false=>
   cases hb:Nat.beq i (ρ k0) with
   |true=>exact absurd (Nat.eq_of_beq_eq_true hb) (h 0 e rfl hg)
   |false=>simpa using ih
omit [Dfr] in
theorem zag {ρ:Nat→Nat}{Hr base:Nat→Option (Ent C)}:∀ {es:List ESh}{k0:Nat},(∀ i j ei ej,es[i]?=some ei→es[j]?=some ej→ei.isGone=false→ej.isGone=false→ρ (k0+i)=ρ (k0+j)→i=j)→∀ {k:Nat}{e:ESh},es[k]?=some e→e.isGone=false→XA ρ Hr es k0 base (ρ (k0+k))=(Hr (k0+k)).map (Ent.ren ρ)
 |[],_,_,k,e,h,_=>by simp at h
 |e0::es,k0,hinj,k,e,h,hg=>by
  unfold XA
  cases k with
  |zero=>
   simp at h;subst h
   simp [hg]
  |succ k=>
   have h':es[k]?=some e:=by simpa using h
   have hne:(!e0.isGone && Nat.beq (ρ (k0+(k+1))) (ρ k0))=false:=by
    cases hg0:e0.isGone with
    |true=>rfl
    |false=>
     cases hb:Nat.beq (ρ (k0+(k+1))) (ρ k0) with
     |false=>rfl
     |true=>
      have:=hinj (k+1) 0 e e0 h rfl hg hg0 (Nat.eq_of_beq_eq_true hb)
      omega
   rw [hne,cond_false]
   have:=zag (ρ:=ρ) (Hr:=Hr) (base:=base) (es:=es) (k0:=k0+1) (fun i j ei ej hi hj gi gj e=>by
    have:=hinj (i+1) (j+1) ei ej (by simpa using hi) (by simpa using hj) gi gj (by rw [show k0+(i+1)=k0+1+i by omega,show k0+(j+1)=k0+1+j by omega];exact e)
    omega) h' hg
   rwa [show k0+1+k=k0+(k+1) by omega] at this
def ya (S Sr:St C) (d:Nat) (bl:Bl) (es:List ESh):St C:=
 let gone:=fun i=>Zg i (YK es bl)
 {env:=fun t=>AV.kill gone (S.env t),heap:=XA (wc d bl) Sr.heap es 0 fun i=>bif gone i then none else (S.heap i).map (Ent.kill gone)}
omit [Dfr] in
theorem zmX {d i j:Nat}(h:nid d i=nid d j):i=j:=by unfold nid at h;omega
omit [Dfr] in
theorem AbsL.merge (h:AbsL κ S ν vs ids L b σ PV) (hr:AbsL κs Sr νr vsr idsr Lr br σ' A') (hle:σ.le σ') {bl:Bl}{d:Nat}{es:List ESh}
    (hinj:∀ i j id,Bl.fn bl i=some id→Bl.fn bl j=some id→i=j) (hlt:∀ k id,Bl.fn bl k=some id→k < κs.m) (hin:∀ k id,Bl.fn bl k=some id→(S.heap id).isSome=true)
    (hkeep:∀ k id,Bl.fn bl k=some id→κs.ν0.hdr k=ν.hdr id∧κs.ν0.adr k=ν.adr id)
    (hal:∀ k,(Sr.heap k).isSome=true↔∃ e,es[k]?=some e∧e.isGone=false) (hfr:∀ k,(Sr.heap k).isSome=true→Bl.fn bl k=none→S.heap (nid d k)=none) (hlen:κs.m≤es.length) :
    ∃ ν2 vs2 ids2,AbsL κ (ya S Sr d bl es) ν2 vs2 ids2 L b σ' (A'++((ids.filter fun j=> !YE j bl).map fun j=>Zq C ν vs j (S.heap j)))∧
      (∀ k,(Sr.heap k).isSome=true→ν2.hdr (wc d bl k)=νr.hdr k∧ν2.adr (wc d bl k)=νr.adr k)∧∀ k,(Sr.heap k).isSome=true→((ya S Sr d bl es).heap (wc d bl k)).isSome=true:=by
  classical
  let ρ:=wc d bl
  let gone:Nat→Bool:=fun i=>Zg i (YK es bl)
  have hrs:∀ k id,Bl.fn bl k=some id→ρ k=id:=fun k id e=>by simp [ρ,wc,e]
  have hrn:∀ k,Bl.fn bl k=none→ρ k=nid d k:=fun k e=>by simp [ρ,wc,e]
  have hρ:∀ i j,(Sr.heap i).isSome=true→(Sr.heap j).isSome=true→ρ i=ρ j→i=j:=fun i j hi hj e=>by
    cases ei:Bl.fn bl i with
    |some a=>
      rw [hrs i a ei] at e
      cases ej:Bl.fn bl j with
      |some c=>rw [hrs j c ej] at e;subst e;exact hinj i j _ ei ej
      |none=>
        rw [hrn j ej] at e
        have h1:=hin i a ei
        rw [e,hfr j hj ej] at h1;cases h1
    |none=>
      rw [hrn i ei] at e
      cases ej:Bl.fn bl j with
      |some c=>
        rw [hrs j c ej] at e
        have h1:=hin j c ej
        rw [← e,hfr i hi ei] at h1;cases h1
      |none=>rw [hrn j ej] at e;exact zmX e
  let nm:Nat→Option Nat:=fun i=>if hx:∃ k,(Sr.heap k).isSome=true∧ρ k=i then some hx.choose else none
  have hnm:∀ k,(Sr.heap k).isSome=true→nm (ρ k)=some k:=fun k hk=>by
    have hx:∃ j,(Sr.heap j).isSome=true∧ρ j=ρ k:=⟨k,hk,rfl⟩
    have:=hx.choose_spec
    simp only [nm,dif_pos hx]
    rw [hρ _ _ this.1 hk this.2]
  have hnm0:∀ i,(∀ k,(Sr.heap k).isSome=true→ρ k≠i)→nm i=none:=fun i hi=>by
    simp only [nm];rw [dif_neg];rintro ⟨k,h1,h2⟩;exact hi k h1 h2
  let ν2:Val:={hdr:=fun i=>match nm i with | some k=>νr.hdr k | none=>ν.hdr i,adr:=fun i=>match nm i with | some k=>νr.adr k | none=>ν.adr i}
  let vs2:Nat→List Value:=fun i=>match nm i with | some k=>vsr k | none=>vs i
  have f1:∀ k,(Sr.heap k).isSome=true→ν2.hdr (ρ k)=νr.hdr k∧ν2.adr (ρ k)=νr.adr k:=fun k hk=>by simp [ν2,hnm k hk]
  have old:∀ k i,(Sr.heap k).isSome=true→(S.heap i).isSome=true→ρ k=i→Bl.fn bl k=some i:=fun k i hk hi e=>by
    cases ek:Bl.fn bl k with
    |some a=>rw [hrs k a ek] at e;rw [e]
    |none=>rw [hrn k ek] at e;rw [← e,hfr k hk ek] at hi;cases hi
  have f2:∀ i,(S.heap i).isSome=true→ν.hdr i=ν2.hdr i∧ν.adr i=ν2.adr i:=fun i hi=>by
    by_cases hx:∃ k,(Sr.heap k).isSome=true∧ρ k=i
    · obtain ⟨k,h1,h2⟩:=hx
      have e:=old k i h1 hi h2
      have k1:=hr.keep k (hlt k i e) h1
      have k2:=hkeep k i e
      have k3:=f1 k h1
      rw [h2] at k3
      exact ⟨by rw [k3.1,k1.1,k2.1],by rw [k3.2,k1.2,k2.2]⟩
    · have:=hnm0 i fun k h1 h2=>hx ⟨k,h1,h2⟩
      simp [ν2,this]
  have H1:∀ k,(Sr.heap k).isSome=true→(ya S Sr d bl es).heap (ρ k)=(Sr.heap k).map (Ent.ren ρ):=fun k hk=>by
    obtain ⟨e,he,hg⟩:=(hal k).1 hk
    have:=zag (ρ:=ρ) (Hr:=Sr.heap) (base:=fun i=>bif gone i then none else (S.heap i).map (Ent.kill gone)) (es:=es) (k0:=0) (fun i j ei ej hi hj gi gj e=>by
      rw [Nat.zero_add,Nat.zero_add] at e
      exact hρ i j ((hal i).2 ⟨ei,hi,gi⟩) ((hal j).2 ⟨ej,hj,gj⟩) e) he hg
    rw [Nat.zero_add] at this
    exact this
  have H2:∀ i,(∀ k,(Sr.heap k).isSome=true→ρ k≠i)→(ya S Sr d bl es).heap i=bif gone i then none else (S.heap i).map (Ent.kill gone):=fun i hi=>
    wW fun k e he hg=>by rw [Nat.zero_add];exact fun e'=>hi k ((hal k).2 ⟨e,he,hg⟩) e'.symm
  have gmem:∀ i,gone i=true→YE i bl=true:=fun i hi=>by
    obtain ⟨k,e,_,_,h3⟩:=WT.1 (Zj.1 hi)
    exact xF h3
  have galive:∀ i,gone i=true→∀ k,(Sr.heap k).isSome=true→ρ k≠i:=fun i hi k hk e=>by
    obtain ⟨j,ee,h1,h2,h3⟩:=WT.1 (Zj.1 hi)
    have hi':=hin j i h3
    have e2:=old k i hk hi' e
    have:=hinj j k i h3 e2
    subst this
    obtain ⟨e3,h4,h5⟩:=(hal j).1 hk
    rw [h1] at h4;cases h4
    rw [h2] at h5;cases h5
  have rest:∀ i,i∈ids.filter (fun j=> !YE j bl)→(S.heap i).isSome=true∧gone i=false∧∀ k,(Sr.heap k).isSome=true→ρ k≠i:=fun i hi=>by
    obtain ⟨h1,h2⟩:=List.mem_filter.1 hi
    have h3:=(h.dom i).1 h1
    have h2:YE i bl=false:=by simpa using h2
    refine ⟨h3,?_,fun k hk e=>?_⟩
    · cases hg:gone i with
      |false=>rfl
      |true=>rw [gmem i hg] at h2;cases h2
    · rw [xF (old k i hk h3 e)] at h2;cases h2
  have live1:∀ k,(Sr.heap k).isSome=true→((ya S Sr d bl es).heap (ρ k)).isSome=true:=fun k hk=>by rw [H1 k hk];simpa using hk
  have live2:∀ i,(S.heap i).isSome=true∧gone i=false→((ya S Sr d bl es).heap i).isSome=true:=fun i ⟨h1,h2⟩=>by
    by_cases hx:∃ k,(Sr.heap k).isSome=true∧ρ k=i
    · obtain ⟨k,h3,h4⟩:=hx;rw [← h4];exact live1 k h3
    · rw [H2 i fun k h3 h4=>hx ⟨k,h3,h4⟩,h2];simpa using h1
  have idr:∀ k,k∈idsr↔(Sr.heap k).isSome=true:=hr.dom
  refine ⟨ν2,vs2,idsr.map ρ++ids.filter fun j=> !YE j bl,⟨⟨?_,fun i=>?_,?_,fun i cs hi=>?_,fun t=>?_,fun i=>?_⟩,fun t=>?_,fun i cs hi=>?_,fun k hk hs=>?_⟩,f1,live1⟩
  · refine List.nodup_append.2 ⟨?_,List.Nodup.sublist List.filter_sublist h.nd,?_⟩
    · rw [List.nodup_iff_pairwise_ne,List.pairwise_map]
      refine List.Pairwise.imp_of_mem ?_ (List.nodup_iff_pairwise_ne.1 hr.nd)
      intro i j hi hj hne e
      exact hne (hρ i j ((idr i).1 hi) ((idr j).1 hj) e)
    · intro i hi j hj e
      subst e
      obtain ⟨k,hk,rfl⟩:=List.mem_map.1 hi
      exact (rest _ hj).2.2 k ((idr k).1 hk) rfl
  · rw [List.mem_append]
    constructor
    · rintro (hi | hi)
      · obtain ⟨k,hk,rfl⟩:=List.mem_map.1 hi
        exact live1 k ((idr k).1 hk)
      · have:=rest i hi
        exact live2 i ⟨this.1,this.2.1⟩
    · intro hi
      by_cases hx:∃ k,(Sr.heap k).isSome=true∧ρ k=i
      · obtain ⟨k,h3,h4⟩:=hx
        exact .inl (List.mem_map.2 ⟨k,(idr k).2 h3,h4⟩)
      · right
        have h2:=H2 i fun k h3 h4=>hx ⟨k,h3,h4⟩
        rw [h2] at hi
        cases hg:gone i with
        |true=>rw [hg] at hi;cases hi
        |false=>
          rw [hg] at hi
          have hs:(S.heap i).isSome=true:=by simpa using hi
          refine List.mem_filter.2 ⟨(h.dom i).2 hs,?_⟩
          cases hm:YE i bl with
          |false=>rfl
          |true=>
            exfalso
            obtain ⟨k,ek⟩:=zbV hm
            have hkl:k < es.length:=Nat.lt_of_lt_of_le (hlt k i ek) hlen
            cases hge:es[k].isGone with
            |true=>
              have:gone i=true:=Zj.2 (WT.2 ⟨k,es[k],List.getElem?_eq_getElem hkl,hge,ek⟩)
              rw [hg] at this;cases this
            |false=>exact hx ⟨k,(hal k).2 ⟨_,List.getElem?_eq_getElem hkl,hge⟩,hrs k i ek⟩
  · rw [List.map_append]
    congr 1
    · rw [hr.pv,List.map_map]
      refine List.map_congr_left fun k hk=>?_
      have hk:=(idr k).1 hk
      show _=Zq C ν2 vs2 (ρ k) ((ya S Sr d bl es).heap (ρ k))
      rw [H1 k hk]
      have e1:=f1 k hk
      cases hs:Sr.heap k with
      |none=>rw [hs] at hk;cases hk
      |some en=>cases en <;> simp [Zq,Ent.ren,e1,vs2,hnm k hk]
    · refine List.map_congr_left fun i hi=>?_
      obtain ⟨r1,r2,r3⟩:=rest i hi
      show _=Zq C ν2 vs2 i ((ya S Sr d bl es).heap i)
      rw [H2 i r3,r2,cond_false]
      have e1:=f2 i r1
      have e2:=hnm0 i r3
      cases hs:S.heap i with
      |none=>rw [hs] at r1;cases r1
      |some en=>cases en <;> simp [Zq,Ent.kill,← e1.1,← e1.2,vs2,e2]
  · by_cases hx:∃ k,(Sr.heap k).isSome=true∧ρ k=i
    · obtain ⟨k,h3,h4⟩:=hx
      subst h4
      rw [H1 k h3] at hi
      cases hs:Sr.heap k with
      |none=>rw [hs] at h3;cases h3
      |some en=>
        rw [hs] at hi
        cases en with
        |row T s=>cases hi
        |obj q T b s=>cases hi
        |cell cs0=>
          cases hi
          show VRs C σ' ν2 (vs2 (ρ k)) _
          simp only [vs2,hnm k h3]
          exact VRs.ren (p:=fun id=>(Sr.heap id).isSome=true) (fun j hj=>f1 j hj) (hr.livec k cs0 hs) (hr.cell k cs0 hs)
    · have r3:∀ k,(Sr.heap k).isSome=true→ρ k≠i:=fun k h3 h4=>hx ⟨k,h3,h4⟩
      rw [H2 i r3] at hi
      cases hg:gone i with
      |true=>rw [hg] at hi;cases hi
      |false=>
        rw [hg,cond_false] at hi
        cases hs:S.heap i with
        |none=>rw [hs] at hi;cases hi
        |some en=>
          rw [hs] at hi
          cases en with
          |row T s=>cases hi
          |obj q T b s=>cases hi
          |cell cs0=>
            cases hi
            show VRs C σ' ν2 (vs2 i) _
            simp only [vs2,hnm0 i r3]
            exact VRs.kill (((h.cell i cs0 hs).mono hle).congr f2 (h.livec i cs0 hs))
  · exact VR.kill (((h.env t).mono hle).congr f2 (h.live t))
  · show (ν2.hdr i).oneCell'=true
    simp only [ν2]
    cases nm i with
    |none=>exact h.one i
    |some k=>exact hr.one k
  · exact AV.ok_mono live2 (AV.ok_kill (h.live t))
  · by_cases hx:∃ k,(Sr.heap k).isSome=true∧ρ k=i
    · obtain ⟨k,h3,h4⟩:=hx
      subst h4
      rw [H1 k h3] at hi
      cases hs:Sr.heap k with
      |none=>rw [hs] at h3;cases h3
      |some en=>
        rw [hs] at hi
        cases en with
        |row T s=>cases hi
        |obj q T b s=>cases hi
        |cell cs0=>cases hi;exact AV.oks_ren live1 (hr.livec k cs0 hs)
    · have r3:∀ k,(Sr.heap k).isSome=true→ρ k≠i:=fun k h3 h4=>hx ⟨k,h3,h4⟩
      rw [H2 i r3] at hi
      cases hg:gone i with
      |true=>rw [hg] at hi;cases hi
      |false=>
        rw [hg,cond_false] at hi
        cases hs:S.heap i with
        |none=>rw [hs] at hi;cases hi
        |some en=>
          rw [hs] at hi
          cases en with
          |row T s=>cases hi
          |obj q T b s=>cases hi
          |cell cs0=>cases hi;exact AV.oks_mono live2 (AV.oks_kill (h.livec i cs0 hs))
  · have hsome:(S.heap k).isSome=true:=by
      by_cases hx:∃ j,(Sr.heap j).isSome=true∧ρ j=k
      · obtain ⟨j,h3,h4⟩:=hx
        cases ej:Bl.fn bl j with
        |some a=>rw [hrs j a ej] at h4;rw [← h4];exact hin j a ej
        |none=>
          rw [hrn j ej] at h4
          have:=xa κ d j
          omega
      · rw [H2 k fun j h3 h4=>hx ⟨j,h3,h4⟩] at hs
        cases hg:gone k with
        |true=>rw [hg] at hs;cases hs
        |false=>rw [hg] at hs;simpa using hs
    have:=h.keep k hk hsome
    have e2:=f2 k hsome
    exact ⟨e2.1.symm.trans this.1,e2.2.symm.trans this.2⟩
end
end Go.Px
namespace Go.Px
set_option linter.unusedSectionVars false
variable [Dfr]
set_option linter.unusedVariables false
section
variable {C:Cod}
def xH:(outs:List (XK×Sig))→ze C outs→List ESh
 |[],y=>y.elim
 |[o],_=>o.2.es
 |o::o2::r,y=>match (y:XK.ty C o.1 o.2⊕ze C (o2::r)) with
  | .inl _=>o.2.es
  | .inr y=>xH (o2::r) y
def zh3 (es:List ESh) (S:St C):Prop:=∀ k,(S.heap k).isSome=true↔∃ e,es[k]?=some e∧e.isGone=false
omit [Dfr] in
theorem zah:∀ (es:List ESh) (k0:Nat) (x:Sh.tys C (es.map ESh.sh)) (k:Nat),(yO (fun k=>k) es k0 x k).isSome=true↔∃ j e,k=k0+j∧es[j]?=some e∧e.isGone=false
 |[],k0,x,k=>by simp [yO]
 |e::es,k0,x,k=>by
  unfold yO
  cases hb:Nat.beq k k0 with
  |true=>
   have hk:=Nat.eq_of_beq_eq_true hb
   subst hk
   rw [cond_true]
   constructor
   ·intro h
    refine ⟨0,e,rfl,rfl,?_⟩
    cases e <;> first | rfl | (simp [ESh.ent] at h)
   ·rintro ⟨j,e',h1,h2,h3⟩
    have:j=0:=by omega
    subst this
    simp at h2;subst h2
    cases e <;> first | rfl | cases h3
  |false=>
   rw [cond_false,zah es (k0+1)]
   constructor
   ·rintro ⟨j,e',h1,h2,h3⟩;exact ⟨j+1,e',by omega,by simpa using h2,h3⟩
   ·rintro ⟨j,e',h1,h2,h3⟩
    cases j with
    |zero=>subst h1;simp at hb
    |succ j=>exact ⟨j,e',by omega,by simpa using h2,h3⟩
omit [Dfr] in
theorem Ws (g:Sig) (x:g.ty C):zh3 g.es (g.open x):=fun k=>by
 show (yO (fun k=>k) g.es 0 (Wq g.ts (g.es.map ESh.sh) x) k).isSome=true↔_
 rw [zah]
 constructor
 ·rintro ⟨j,e,h1,h2,h3⟩;exact ⟨e,by rw [h1,Nat.zero_add];exact h2,h3⟩
 ·rintro ⟨e,h2,h3⟩;exact ⟨k,e,by omega,h2,h3⟩
omit [Dfr] in
theorem xw {α:Type}{Q:XE C→St C→Prop}{K:XE C→St C→α}{z:α}:∀ {outs:List (XK×Sig)}{r:ze C outs},z6 outs r K=z→z6 outs r Q→∃ e S,K e S=z∧Q e S∧zh3 (xH outs r) S
 |[],r,_,_=>r.elim
 |[o],r,h,q=>one h q
 |o::o2::l,r,h,q=>by
  unfold z6 at h q
  unfold xH
  cases r with
  |inl a=>exact one h q
  |inr y=>exact xw h q
where
 one {α:Type} {Q:XE C→St C→Prop} {K:XE C→St C→α} {z:α} {o:XK×Sig} {y:XK.ty C o.1 o.2} (h:Yw o.1 o.2 y K=z) (q:Yw o.1 o.2 y Q):∃ e S,K e S=z∧Q e S∧zh3 o.2.es S:=by
  obtain ⟨k,g⟩:=o
  cases k with
  |normal=>exact ⟨_,_,h,q,Ws g _⟩
  |exit i=>exact ⟨_,_,h,q,Ws g _⟩
  |ret=>exact ⟨_,_,h,q,Ws g _⟩
  |pan s=>exact ⟨_,_,h,q,Ws g _⟩
end
def vB:Nat:=1000000000
section
variable {κ:Kp}{C:Cod}{S:St C}{n:Nat}{w0:Start}{σ0 σ:FS}{P:Program}{L:List (Nat×Value)}{b:Nat→Value}{PV:List Priv}{ν:Val}{vs:Nat→List Value}{ids:List Nat}
def virt (S:St C) (As:List (AV C.D)):St C:={env:=fun t=>bif Nat.blt t vB then S.env t else (As[t - vB]?).getD .und,heap:=S.heap}
def unvirt (S:St C):St C:={env:=fun t=>bif Nat.blt t vB then S.env t else .und,heap:=S.heap}
def Xl (L:List (Nat×Value)) (b:Nat→Value) (us:List Value) (t:Nat):Value:=bif Nat.blt t vB then look L b t else (us[t - vB]?).getD undef
omit [Dfr] in
theorem AbsL.virt (h:AbsL κ S ν vs ids L b σ PV) {us:List Value}{As:List (AV C.D)}(hr:VRs C σ ν us As) (hl:AV.oks (fun id=>(S.heap id).isSome=true) As):AbsL κ (virt S As) ν vs ids [] (Xl L b us) σ PV:=by
 refine ⟨⟨h.nd,h.dom,h.pv,h.cell,fun t=>?_,h.one⟩,fun t=>?_,h.livec,h.keep⟩
 ·show VR C σ ν (Xl L b us t) (bif Nat.blt t vB then S.env t else (As[t - vB]?).getD .und)
  unfold Xl
  cases Nat.blt t vB with
  |true=>exact h.env t
  |false=>
   simp only [cond_false]
   cases e:As[t - vB]? with
   |none=>trivial
   |some A=>
    obtain ⟨u,e1,e2⟩:=hr.get _ A e
    rw [e1];exact e2
 ·show (bif Nat.blt t vB then S.env t else (As[t - vB]?).getD .und).ok _
  cases Nat.blt t vB with
  |true=>exact h.live t
  |false=>
   simp only [cond_false]
   cases e:As[t - vB]? with
   |none=>trivial
   |some A=>exact AV.oks_iff.1 hl A (List.mem_of_getElem? e)
omit [Dfr] in
theorem AbsL.unvirt {us:List Value}(h:AbsL κ S ν vs ids [] (Xl L b us) σ PV):AbsL κ (unvirt S) ν vs ids L b σ PV:=by
 refine ⟨⟨h.nd,h.dom,h.pv,h.cell,fun t=>?_,h.one⟩,fun t=>?_,h.livec,h.keep⟩
 ·show VR C σ ν _ (bif Nat.blt t vB then S.env t else .und)
  have:=h.env t
  have this:VR C σ ν (Xl L b us t) (S.env t):=this
  unfold Xl at this
  cases e:Nat.blt t vB with
  |true=>rw [e] at this;exact this
  |false=>trivial
 ·show (bif Nat.blt t vB then S.env t else .und).ok _
  cases Nat.blt t vB with
  |true=>exact h.live t
  |false=>trivial
def Sig.shift (g:Sig):Sig:={ts:=g.ts.map fun t=>(vB+t.1,t.2),es:=g.es}
def wr (S:St C):St C:={env:=fun t=>S.env (vB+t),heap:=S.heap}
def yV (ins:Sig) (S:St C) (As:List (AV C.D)):Option (St C×Bl×ins.ty C):=
 let S2:=ins.shift.prep 0 (virt S As)
 let bl:=yu ins.shift 0 S2
 chk (Nat.beq As.length ins.ts.length && Nat.ble ins.es.length 64) ((Xb ins 0 (wr S2) bl).map fun x=>(S2,bl,x))
def Wt (S Sr:St C) (d:Nat) (bl:Bl):Nat→Bool
 |0=>true
 |k+1=>(match Bl.fn bl k with
  |some _=>true
  |none=>isNone (Sr.heap k) || isNone (S.heap (nid d k))) && Wt S Sr d bl k
omit [Dfr] in
theorem zeb {S Sr:St C}{d:Nat}{bl:Bl}:∀ {N:Nat},Wt S Sr d bl N=true→∀ k,k < N→(Sr.heap k).isSome=true→Bl.fn bl k=none→S.heap (nid d k)=none
 |N+1,h,k,hk,h1,h2=>by
  simp only [Wt,Bool.and_eq_true] at h
  by_cases e:k=N
  ·subst e
   rw [h2] at h
   simp only [Bool.or_eq_true] at h
   rcases h.1 with q | q
   ·rw [Z8 q] at h1;cases h1
   ·exact Z8 q
  ·exact zeb h.2 k (by omega) h1 h2
def zfc (ρ:Nat→Nat) (nr:Nat) (Sr:St C):AV C.D:=match nr with
 |1=>AV.ren ρ (Sr.env 0)
 |k =>.tup ((List.range k).map fun i=>AV.ren ρ (Sr.env i))
def zcB (S2:St C) (d nr:Nat) (bl:Bl) (es:List ESh) (e:XE C) (Sr:St C):Option (Out C):=
 chk (Wt S2 Sr d bl es.length) (match e with
  | .ret=>some (.go ((unvirt (ya S2 Sr d bl es)).put d (zfc (wc d bl) nr Sr)))
  | .pan A=>some (.pan A (unvirt (ya S2 Sr d bl es)))
  |_=>none)
def YT (s:Spec C) (d:Nat) (S2:St C) (bl:Bl) (x:s.ins.ty C):Option (Out C):=
 (s.F x).bind fun r=>chk (Nat.ble s.ins.es.length (xH s.outs r).length) (z6 s.outs r fun e Sr=>zcB S2 d s.nr bl (xH s.outs r) e Sr)
mutual
def AV.flat {D:Nat→Type}:AV D→Bool
 | .int _ _=>true
 | .bool _=>true
 | .str _=>true
 | .pnil=>true
 | .nils=>true
 | .nilf=>true
 | .nili=>true
 | .und=>true
 | .agg cs=>AV.flats cs
 | .tup cs=>AV.flats cs
 | .clo _ cs=>AV.flats cs
 | .ifc _ A=>AV.flat A
 |_=>false
def AV.flats {D:Nat→Type}:List (AV D)→Bool
 |[]=>true
 |A::As=>AV.flat A && AV.flats As
end
omit [Dfr] in
mutual
theorem VR.flat {σ':FS}{ν':Val}:∀ {A:AV C.D}{v:Value},A.flat=true→VR C σ ν v A→VR C σ' ν' v A
 | .int _ _,v,_,r=>by rw [r.int_inv];exact Rv.int
 | .bool _,v,_,r=>by rw [r.bool_inv];exact Rv.bool
 | .str _,v,_,r=>by rw [r.str_inv];exact Rv.str
 | .pnil,v,_,r=>by rw [r.pnil_inv];exact Rv.pnil
 | .nils,v,_,r=>r
 | .nilf,v,_,r=>by
  have:Rv C σ v .nilf:=r
  cases this;exact Rv.nilf
 | .nili,v,_,r=>by rw [r.nili_inv];exact Rv.nili
 | .und,v,_,r=>trivial
 | .agg cs,v,h,⟨vs,e,r⟩=>⟨vs,e,VRs.flat h r⟩
 | .tup cs,v,h,⟨vs,e,r⟩=>⟨vs,e,VRs.flat h r⟩
 | .clo _ cs,v,h,⟨vs,e,r⟩=>⟨vs,e,VRs.flat h r⟩
 | .ifc _ A,v,h,⟨u,e,r⟩=>⟨u,e,VR.flat (A:=A) h r⟩
 | .sl _ _ _,_,h,_=>by cases h
 | .row _,_,h,_=>by cases h
 | .pc _ _,_,h,_=>by cases h
 | .pr _ _ _ _,_,h,_=>by cases h
 | .pz _ _ _,_,h,_=>by cases h
theorem VRs.flat {σ':FS}{ν':Val}:∀ {cs:List (AV C.D)}{vs:List Value},AV.flats cs=true→VRs C σ ν vs cs→VRs C σ' ν' vs cs
 |[],[],_,_=>trivial
 |A::As,v::vs,h,⟨r,s⟩=>by
  simp only [AV.flats,Bool.and_eq_true] at h
  exact ⟨VR.flat h.1 r,VRs.flat h.2 s⟩
 |[],_::_,_,r=>r.elim
 |_::_,[],_,r=>r.elim
end
omit [Dfr] in
mutual
theorem Wf {D:Nat→Type}{p:Nat→Prop}:∀ {A:AV D},A.flat=true→A.ok p
 | .int _ _,_=>trivial
 | .bool _,_=>trivial
 | .str _,_=>trivial
 | .pnil,_=>trivial
 | .nils,_=>trivial
 | .nilf,_=>trivial
 | .nili,_=>trivial
 | .und,_=>trivial
 | .agg cs,h=>Vh (A:=cs) h
 | .tup cs,h=>Vh (A:=cs) h
 | .clo _ cs,h=>Vh (A:=cs) h
 | .ifc _ A,h=>Wf (A:=A) h
 | .sl _ _ _,h=>by cases h
 | .row _,h=>by cases h
 | .pc _ _,h=>by cases h
 | .pr _ _ _ _,h=>by cases h
 | .pz _ _ _,h=>by cases h
theorem Vh {D:Nat→Type}{p:Nat→Prop}:∀ {A:List (AV D)},AV.flats A=true→AV.oks p A
 |[],_=>trivial
 |A::As,h=>by
  simp only [AV.flats,Bool.and_eq_true] at h
  exact ⟨Wf h.1,Vh h.2⟩
end
mutual
def Sh.flat:Sh→Bool
 | .int _=>true
 | .bool=>true
 | .str=>true
 | .pnil=>true
 | .nilf=>true
 | .nili=>true
 | .und=>true
 | .tup l=>Sh.flats l
 | .ifc _ s=>Sh.flat s
 |_=>false
def Sh.flats:List Sh→Bool
 |[]=>true
 |s::l=>Sh.flat s && Sh.flats l
end
def Spec.view (s:Spec C):Bool:=s.ins.es.isEmpty && s.outs.all fun o=>o.2.es.isEmpty && (Sh.flats (o.2.ts.map (·.2)) && (match o.1 with | .pan t=>t.flat | _=>true))
def zai (S:St C) (d nr:Nat) (e:XE C) (Sr:St C):Option (Out C):=match e with
 | .ret=>chk (zfc (fun k=>k) nr Sr).flat (some (.go (S.put d (zfc (fun k=>k) nr Sr))))
 | .pan A=>chk A.flat (some (.pan A S))
 |_=>none
def XB (s:Spec C) (d:Nat) (S:St C) (x:s.ins.ty C):Option (Out C):=
 chk s.ins.es.isEmpty ((s.F x).bind fun r=>z6 s.outs r fun e Sr=>zai S d s.nr e Sr)
def YU (Γ:List (Spec C)) (S:St C) (d f:Nat) (As:List (AV C.D)):Option (Out C):=match Γ with
 |[]=>none
 |s::Γ=>bif Nat.beq s.f f then (match yV s.ins S As with
  |some (S2,bl,x)=>bif s.view then XB s d S x else YT s d S2 bl x
  |none=>YU Γ S d f As) else YU Γ S d f As
omit [Dfr] in
theorem zgU {ρ:Nat→Nat}{ν':Val}{Sr:St C}{νr:Val}{vals:List Value}{p q:Nat→Prop}(henv:∀ t,VR C σ νr (look (yx 0 vals) (fun _=>undef) t) (Sr.env t)) (hlive:∀ t,(Sr.env t).ok p) (hν:∀ k,p k→ν'.hdr (ρ k)=νr.hdr k∧ν'.adr (ρ k)=νr.adr k) (hq:∀ k,p k→q (ρ k)) :
    VR C σ ν' (vA vals) (zfc ρ vals.length Sr)∧(zfc ρ vals.length Sr).ok q:=by
  have key:∀ i,VR C σ ν' ((vals[i]?).getD undef) (AV.ren ρ (Sr.env i))∧(AV.ren ρ (Sr.env i)).ok q:=fun i=>by
    have:=henv i
    rw [ZG] at this
    exact ⟨this.ren hν (hlive i),AV.ok_ren hq (hlive i)⟩
  have many:∀ (m:Nat) (l:List Value),(∀ i,i < l.length→l[i]?=vals[m+i]?)→VRs C σ ν' l ((List.range' m l.length).map fun i=>AV.ren ρ (Sr.env i))∧AV.oks q ((List.range' m l.length).map fun i=>AV.ren ρ (Sr.env i)):=by
    intro m l
    induction l generalizing m with
    |nil=>exact fun _=>⟨trivial,trivial⟩
    |cons v l ih=>
      intro h
      have h0:=h 0 (by simp)
      have k:=key m
      rw [show vals[m]?=some v from by simpa using h0.symm] at k
      have:=ih (m+1) fun i hi=>by
        have:=h (i+1) (by simpa using hi)
        rw [show m+1+i=m+(i+1) by omega];simpa using this
      simp only [List.length_cons,List.range'_succ,List.map_cons]
      exact ⟨⟨k.1,this.1⟩,⟨k.2,this.2⟩⟩
  have hall:=many 0 vals fun i _=>by rw [Nat.zero_add]
  rw [← List.range_eq_range'] at hall
  match vals,key,hall with
  |[],_,hall=>exact ⟨⟨[],rfl,hall.1⟩,hall.2⟩
  |[v],key,_=>exact key 0
  |u::v::l,_,hall=>exact ⟨⟨_,rfl,hall.1⟩,hall.2⟩
def Spec.OKc (s:Spec C) (us:List Value) (cl:World→(Ending→World→Prop)→Prop):Prop:=
 ∀ (x:s.ins.ty C) r,s.F x=some r→∀ (κ:Kp) (st:Start) (σ:FS),C.gl st.w σ→∀ (PV:List Priv) (ν:Val) (vs:Nat→List Value) (ids:List Nat),κ.m=s.ins.es.length→us.length=s.ins.ts.length→AbsL κ (s.ins.open x) ν vs ids (yx 0 us) (fun _=>undef) σ PV→Pre st σ PV→cl st.w (wq κ st σ s.nr s.outs r)
omit [Dfr] in
theorem zbB {s:Spec C}{us:List Value}{cl:World→(Ending→World→Prop)→Prop}(hs:s.OKc us cl) (hmono:∀ {w:World}{Q Q':Ending→World→Prop},cl w Q→(∀ e w,Q e w→Q' e w)→cl w Q') (hgl:C.gl w0.w σ0) {d:Nat}{As:List (AV C.D)}{S2:St C}{bl:Bl}{x:s.ins.ty C}(hl:yV s.ins S As=some (S2,bl,x))
    (h:AbsL κ S ν vs ids L b σ PV) (hr:VRs C σ ν us As) (hlive:AV.oks (fun id=>(S.heap id).isSome=true) As) {out:Out C} (ho:YT s d S2 bl x=some out) {w:World} (hi:Inv w0 σ0 σ PV w) :
    cl w fun e w'=>match e with
      | .returned v=>∃ S' σ' PV',out = .go S'∧Inv w0 σ0 σ' PV' w'∧Zf κ S' ((d,v)::L) b σ' PV'
      | .panicked chain=>∃ A S' u σ' PV',out = .pan A S'∧chain=[{v:=u,recovered:=false}]∧Inv w0 σ0 σ' PV' w'∧XS C σ' u A∧Zf κ S' L b σ' PV'
      | .outgrown=>False:=by
  unfold yV at hl
  obtain ⟨hc,hl⟩:=zc hl
  simp only [Bool.and_eq_true] at hc
  have c1:=Nat.eq_of_beq_eq_true hc.1
  have c2:=Nat.le_of_ble_eq_true hc.2
  obtain ⟨x',hx,he⟩:=Option.map_eq_some_iff.1 hl
  cases he
  obtain ⟨σ1,PV1,hi1,ν1,vs1,ids1,h1⟩:=zbT (g:=s.ins.shift) (m:=0) ⟨ν,vs,ids,h.virt hr hlive⟩ hi
  generalize hS2:s.ins.shift.prep 0 (virt S As)=S2 at *
  generalize hbl:yu s.ins.shift 0 S2=bl at *
  have henv:∀ t,VR C σ1 ν1 (look (yx 0 us) (fun _=>undef) t) ((wr S2).env t):=fun t=>by
    have:=h1.env (vB+t)
    rw [ZG]
    have e:look [] (Xl L b us) (vB+t)=(us[t]?).getD undef:=by
      show Xl L b us (vB+t)=_
      unfold Xl
      have:Nat.blt (vB+t) vB=false:=by
        cases e:Nat.blt (vB+t) vB with
        |false=>rfl
        |true=>rw [Nat.blt_eq] at e;omega
      rw [this];simp
    rw [e] at this
    exact this
  obtain ⟨ν',vs',ids',k1,k2,k3,k4,k5⟩:=h1.lend (T:=wr S2) rfl henv hx c2
  have hB:=BdOK.of (zc hx).1
  obtain ⟨gg,hsep,hg⟩:=hi1.own
  obtain ⟨f1,f2,s1,s2,l1,l2,dd⟩:=(k5 gg hsep).split
  obtain ⟨r,hr',ho⟩:=Option.bind_eq_some_iff.1 ho
  obtain ⟨hlen,ho⟩:=zc ho
  have hlen:=Nat.le_of_ble_eq_true hlen
  have hus:us.length=s.ins.ts.length:=by rw [← c1,hr.len]
  have hcalls:=hs x r hr' ⟨s.ins.es.length,c2,ν'⟩ ⟨w,f1⟩ σ1 (C.glm hi1.le hi1.ext hgl) _ ν' vs' ids' rfl hus k1 ⟨hi1.sub,s1,hg.sub.mono l1,(hg.mono l1).apart⟩
  refine hmono hcalls ?_
  intro e w' hp
  obtain ⟨e',Sr,q1,q2,q3⟩:=xw ho hp
  unfold zcB at q1
  obtain ⟨hfr,q1⟩:=zc q1
  have merge:∀ {Lr br σ' A'},Zf ⟨s.ins.es.length,c2,ν'⟩ Sr Lr br σ' A'→Inv ⟨w,f1⟩ σ1 σ' A' w'→∃ νr ν2 vs2 ids2 PV2,Inv w0 σ0 σ' PV2 w'∧AbsL κ (unvirt (ya S2 Sr d bl (xH s.outs r))) ν2 vs2 ids2 L b σ' PV2∧(∀ t,VR C σ' νr (look Lr br t) (Sr.env t))∧(∀ t,(Sr.env t).ok fun id=>(Sr.heap id).isSome=true)∧
      (∀ k,(Sr.heap k).isSome=true→ν2.hdr (wc d bl k)=νr.hdr k∧ν2.adr (wc d bl k)=νr.adr k)∧∀ k,(Sr.heap k).isSome=true→((ya S2 Sr d bl (xH s.outs r)).heap (wc d bl k)).isSome=true:=by
    rintro Lr br σ' A' ⟨νr,vsr,idsr,hA⟩ hi'
    have hfree:∀ k,(Sr.heap k).isSome=true→Bl.fn bl k=none→S2.heap (nid d k)=none:=fun k hk hn=>by
      obtain ⟨e,he,_⟩:=(q3 k).1 hk
      exact zeb hfr k (List.getElem?_eq_some_iff.1 he).1 hk hn
    obtain ⟨ν2,vs2,ids2,m1,m2,m3⟩:=h1.merge (d:=d) (es:=xH s.outs r) hA hi'.le hB.inj hB.lt k4 k2 q3 hfree hlen
    exact ⟨νr,ν2,vs2,ids2,_,hi1.call hg s2 l1 l2 dd hi',m1.unvirt,hA.env,hA.live,m2,m3⟩
  cases e' with
  |normal=>cases q1
  |exit i=>cases q1
  |ret=>
    cases e with
    |returned v=>
      obtain ⟨vals,σ',A',rfl,hnr,hi',hA⟩:=q2
      obtain ⟨νr,ν2,vs2,ids2,PV2,m1,m2,m3,m4,m5,m6⟩:=merge hA hi'
      cases q1
      have hres:=zgU (ρ:=wc d bl) (q:=fun i=>((ya S2 Sr d bl (xH s.outs r)).heap i).isSome=true) m3 m4 m5 m6
      rw [hnr] at hres
      exact ⟨_,σ',PV2,rfl,m1,ν2,vs2,ids2,m2.put hres.1 hres.2⟩
    |panicked chain=>exact q2.elim
    |outgrown=>exact q2.elim
  |pan A=>
    cases e with
    |returned v=>exact q2.elim
    |outgrown=>exact q2.elim
    |panicked chain=>
      obtain ⟨u,σ',A',rfl,hi',hp',hA⟩:=q2
      obtain ⟨νr,ν2,vs2,ids2,PV2,m1,m2,m3,m4,m5,m6⟩:=merge hA hi'
      cases q1
      exact ⟨_,_,u,σ',PV2,rfl,rfl,m1,hp',ν2,vs2,ids2,m2⟩
omit [Dfr] in
theorem zh4 {s:Spec C}(hs:s.OK P) (hgl:C.gl w0.w σ0) {d:Nat}{As:List (AV C.D)}{us:List Value}{S2:St C}{bl:Bl}{x:s.ins.ty C}(hl:yV s.ins S As=some (S2,bl,x))
    (h:AbsL κ S ν vs ids L b σ PV) (hr:VRs C σ ν us As) (hlive:AV.oks (fun id=>(S.heap id).isSome=true) As) {out:Out C} (ho:YT s d S2 bl x=some out) {w:World} (hi:Inv w0 σ0 σ PV w) :
    Calls P s.f us.toArray w fun e w'=>match e with
      | .returned v=>∃ S' σ' PV',out = .go S'∧Inv w0 σ0 σ' PV' w'∧Zf κ S' ((d,v)::L) b σ' PV'
      | .panicked chain=>∃ A S' u σ' PV',out = .pan A S'∧chain=[{v:=u,recovered:=false}]∧Inv w0 σ0 σ' PV' w'∧XS C σ' u A∧Zf κ S' L b σ' PV'
      | .outgrown=>False:=by
  obtain ⟨fn,hf,_,_,hs⟩:=hs
  exact zbB (cl:=fun w Q=>Calls P s.f us.toArray w Q) (fun x r hx κ st σ hgl PV ν vs ids h1 h2 h3 h4=>hs x r hx κ st σ hgl PV ν vs ids us h1 h2 h3 h4) (fun h k=>Calls.mono h k) hgl hl h hr hlive ho hi
omit [Dfr] in
theorem zh5 {s:Spec C}(hs:s.OK P) (hgl:C.gl w0.w σ0) {d:Nat}{As:List (AV C.D)}{us:List Value}{S2:St C}{bl:Bl}{x:s.ins.ty C}(hl:yV s.ins S As=some (S2,bl,x))
    (h:AbsL κ S ν vs ids L b σ PV) (hr:VRs C σ ν us As) (hlive:AV.oks (fun id=>(S.heap id).isSome=true) As) {out:Out C} (ho:XB s d S x=some out) {w:World} (hi:Inv w0 σ0 σ PV w) :
    Calls P s.f us.toArray w fun e w'=>match e with
      | .returned v=>∃ S' σ' PV',out = .go S'∧Inv w0 σ0 σ' PV' w'∧Zf κ S' ((d,v)::L) b σ' PV'
      | .panicked chain=>∃ A S' u σ' PV',out = .pan A S'∧chain=[{v:=u,recovered:=false}]∧Inv w0 σ0 σ' PV' w'∧XS C σ' u A∧Zf κ S' L b σ' PV'
      | .outgrown=>False:=by
  obtain ⟨hes,ho⟩:=zc ho
  unfold yV at hl
  obtain ⟨hc,hl⟩:=zc hl
  simp only [Bool.and_eq_true] at hc
  have c1:=Nat.eq_of_beq_eq_true hc.1
  have c2:=Nat.le_of_ble_eq_true hc.2
  obtain ⟨x',hx,he⟩:=Option.map_eq_some_iff.1 hl
  cases he
  obtain ⟨gg,hsep,hg⟩:=hi.own
  obtain ⟨σ1,PV1,hi1,ν1,vs1,ids1,h1⟩:=zbT (w0:=⟨w,gg⟩) (σ0:=σ) (g:=s.ins.shift) (m:=0) ⟨ν,vs,ids,h.virt hr hlive⟩ (w:=w) ⟨hi.sub,.refl σ,fun b o v hb =>.inl hb,⟨gg,hsep,hg.sub,hg.apart,fun b i e =>.inr e⟩,.refl w gg⟩
  generalize hS2:s.ins.shift.prep 0 (virt S As)=S2 at *
  generalize hbl:yu s.ins.shift 0 S2=bl at *
  have henv:∀ t,VR C σ1 ν1 (look (yx 0 us) (fun _=>undef) t) ((wr S2).env t):=fun t=>by
    have:=h1.env (vB+t)
    rw [ZG]
    have e:look [] (Xl L b us) (vB+t)=(us[t]?).getD undef:=by
      show Xl L b us (vB+t)=_
      unfold Xl
      have:Nat.blt (vB+t) vB=false:=by
        cases e:Nat.blt (vB+t) vB with
        |false=>rfl
        |true=>rw [Nat.blt_eq] at e;omega
      rw [this];simp
    rw [e] at this
    exact this
  obtain ⟨ν',vs',ids',k1,k2,k3,k4,k5⟩:=h1.lend (T:=wr S2) rfl henv hx c2
  have hB:=BdOK.of (zc hx).1
  have hids:ids'=[]:=List.eq_nil_iff_forall_not_mem.2 fun k hk=>by
    obtain ⟨id,e⟩:=Option.isSome_iff_exists.1 ((k3 k).1 hk)
    have:=hB.lt k id e
    rw [List.isEmpty_iff.1 hes] at this
    simp at this
  rw [hids] at k1
  obtain ⟨r,hr',ho⟩:=Option.bind_eq_some_iff.1 ho
  have hus:us.length=s.ins.ts.length:=by rw [← c1,hr.len]
  obtain ⟨fn,hf,_,_,hs⟩:=hs
  have hcalls:=hs x r hr' ⟨s.ins.es.length,c2,ν'⟩ ⟨w,za.none⟩ σ1 (C.glm hi1.le hi1.ext (C.glm hi.le hi.ext hgl)) _ ν' vs' _ us rfl hus k1 (Pre.empty hi1.sub)
  refine Calls.mono hcalls ?_
  intro e w' hp
  obtain ⟨e',Sr,q1,q2,q3⟩:=xw ho hp
  unfold zai at q1
  cases e' with
  |normal=>cases q1
  |exit i=>cases q1
  |ret=>
    cases e with
    |returned v=>
      obtain ⟨vals,σ',A',rfl,hnr,hi',νr,vsr,idsr,hA⟩:=q2
      obtain ⟨hfl,q1⟩:=zc q1
      cases q1
      have hres:=zgU (σ:=σ') (ρ:=fun k=>k) (ν':=νr) (q:=fun i=>(Sr.heap i).isSome=true) hA.env hA.live (fun k _=>⟨rfl,rfl⟩) (fun k hk=>hk)
      rw [hnr] at hres
      exact ⟨_,σ,PV,rfl,hi.past hi1.le hi',ν,vs,ids,h.put (VR.flat hfl hres.1) (Wf hfl)⟩
    |panicked chain=>exact q2.elim
    |outgrown=>exact q2.elim
  |pan A=>
    cases e with
    |returned v=>exact q2.elim
    |outgrown=>exact q2.elim
    |panicked chain=>
      obtain ⟨u,σ',A',rfl,hi',hp',hA⟩:=q2
      obtain ⟨hfl,q1⟩:=zc q1
      cases q1
      exact ⟨_,_,u,σ,PV,rfl,rfl,hi.past hi1.le hi',⟨Wf hfl,fun ν hν=>VR.flat hfl (hp'.2 ν hν)⟩,ν,vs,ids,h⟩
omit [Dfr] in
theorem zaj (hgl:C.gl w0.w σ0) {d:Nat}{f:FuncId}{As:List (AV C.D)}{us:List Value}{out:Out C}(h:AbsL κ S ν vs ids L b σ PV) (hr:VRs C σ ν us As) (hlive:AV.oks (fun id=>(S.heap id).isSome=true) As) {w:World}(hi:Inv w0 σ0 σ PV w):∀ {Γ:List (Spec C)},(∀ s∈Γ,s.OK P)→YU Γ S d f As=some out→
    ∃ fn, P.funcs[f]? = some fn ∧ (fn.name == "runtime.NumGoroutine") = false ∧ fn.body.isNone = false ∧ Calls P f us.toArray w fun e w' => match e with
      | .returned v=>∃ S' σ' PV',out = .go S'∧Inv w0 σ0 σ' PV' w'∧Zf κ S' ((d,v)::L) b σ' PV'
      | .panicked chain=>∃ A S' u σ' PV',out = .pan A S'∧chain=[{v:=u,recovered:=false}]∧Inv w0 σ0 σ' PV' w'∧XS C σ' u A∧Zf κ S' L b σ' PV'
      | .outgrown=>False
  |[],_,ho=>by cases ho
  |s::Γ,hΓ,ho=>by
    unfold YU at ho
    cases hf:Nat.beq s.f f with
    |false=>
      rw [hf,cond_false] at ho
      exact zaj hgl h hr hlive hi (fun s hs=>hΓ s (List.mem_cons_of_mem _ hs)) ho
    |true=>
      rw [hf,cond_true] at ho
      have:=Nat.eq_of_beq_eq_true hf
      subst this
      split at ho
      · rename_i S2 bl x hl
        have hs:=hΓ s (by simp)
        obtain ⟨fn,h1,h2,h3,_⟩:=hs
        cases hv:s.view with
        |true=>rw [hv] at ho;exact ⟨fn,h1,h2,h3,zh5 (hΓ s (by simp)) hgl hl h hr hlive ho hi⟩
        |false=>rw [hv] at ho;exact ⟨fn,h1,h2,h3,zh4 (hΓ s (by simp)) hgl hl h hr hlive ho hi⟩
      · exact zaj hgl h hr hlive hi (fun s hs=>hΓ s (List.mem_cons_of_mem _ hs)) ho
end
end Go.Px
