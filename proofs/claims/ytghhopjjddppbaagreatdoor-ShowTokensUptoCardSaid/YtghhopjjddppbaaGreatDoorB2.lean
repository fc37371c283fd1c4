/- Part B2: PxML2 PxMB PxMG PxCF PxMF. -/
import Derived.Test.YtghhopjjddppbaaGreatDoorA7
import Derived.Lib.Join
import Derived.Lib.Repeat
import Derived.Lib.ItoaNum
import Derived.Lib.LastIndexByte
import Derived.Lib.LaidTab
import Derived.Lib.AppendIntMem
import Derived.Shelf.Strings.BuilderK
import Derived.Test.YtghhopjjddppbaaGreatDoorA8
import Derived.Test.YtghhopjjddppbaaGreatDoorA1
import Derived.Test.YtghhopjjddppbaaGreatDoorA6
namespace Go.Px
set_option linter.unusedSimpArgs false
set_option linter.unusedVariables false
section
variable {C:Cod}{P:Program}{f:FuncId}{fn:Func}
def WA (x:ByteArray×ByteArray):Option Int:=match x.2.data.toList with
 |[c]=>some ((Lib.countByte x.1.data.toList c:Nat):Int)
 |_=>none
theorem zit (hf : P.funcs[f]? = some fn) (hnm : (fn.name == "runtime.NumGoroutine") = false) (hbs : fn.body.isNone = false)
    (hc:∀ (s:ByteArray) (c:UInt8) (w:World),Calls P f #[.string s,.string ⟨#[c]⟩] w fun e w'=>e = .returned (.int .i64 (Lib.countByte s.data.toList c))∧w'=w) :
    Spec.OK (C:=C) P ⟨f,1,{ts:=[(0,.str),(1,.str)],es:=[]},[(.ret,{ts:=[(0,.int .i64)],es:=[]})],WA⟩:=by
  refine Spec.ofBelow hf hnm hbs ?_
  show ∀ (x:ByteArray×ByteArray) (r:Int),WA x=some r→_
  rintro ⟨s,u⟩ r hr w σ hg ν args hw hl hv
  unfold WA at hr
  simp only at hr
  split at hr
  case h_2=>cases hr
  rename_i c hu
  cases hr
  have hu:u=⟨#[c]⟩:=by
    obtain ⟨d⟩:=u
    congr 1
    apply Array.toList_inj.1
    exact hu
  subst hu
  match args,hl with
  |[a0,a1],_=>
    have h0:a0 = .string s:=VR.str_inv (show VR C σ ν a0 (.str s) from hv 0)
    have h1:a1 = .string ⟨#[c]⟩:=VR.str_inv (show VR C σ ν a1 (.str ⟨#[c]⟩) from hv 1)
    clear hv
    subst h0 h1
    refine (hc s c w).mono ?_
    rintro e w' ⟨rfl,rfl⟩
    refine ⟨RowKit.Below.refl _ _,[_],rfl,rfl,rfl,rfl,fun t=>?_⟩
    match t with
    |0=>exact ⟨rfl,Rv.int⟩
    |t+1=>exact ⟨rfl,trivial⟩
def yi (x:ByteArray×Int):Option Int:=if x.1.size < 4611686018427387904 then some (Lib.lastIndexByte x.1 x.2) else none
theorem zaA (hf : P.funcs[f]? = some fn) (hnm : (fn.name == "runtime.NumGoroutine") = false) (hbs : fn.body.isNone = false)
    (hc:∀ (s:ByteArray) (c:Int),s.size < 4611686018427387904→∀ (w:World),Calls P f #[.string s,.int .u8 c] w fun e w'=>e = .returned (.int .i64 (Lib.lastIndexByte s c))∧w'=w) :
    Spec.OK (C:=C) P ⟨f,1,{ts:=[(0,.str),(1,.int .u8)],es:=[]},[(.ret,{ts:=[(0,.int .i64)],es:=[]})],yi⟩:=by
  refine Spec.ofBelow hf hnm hbs ?_
  show ∀ (x:ByteArray×Int) (r:Int),yi x=some r→_
  rintro ⟨s,c⟩ r hr w σ hg ν args hw hl hv
  unfold yi at hr
  simp only at hr
  split at hr
  case isFalse=>cases hr
  rename_i hs
  cases hr
  match args,hl with
  |[a0,a1],_=>
    have h0:a0 = .string s:=VR.str_inv (show VR C σ ν a0 (.str s) from hv 0)
    have h1:a1 = .int .u8 c:=VR.int_inv (show VR C σ ν a1 (.int .u8 c) from hv 1)
    clear hv
    subst h0 h1
    refine (hc s c hs w).mono ?_
    rintro e w' ⟨rfl,rfl⟩
    refine ⟨RowKit.Below.refl _ _,[_],rfl,rfl,rfl,rfl,fun t=>?_⟩
    match t with
    |0=>exact ⟨rfl,Rv.int⟩
    |t+1=>exact ⟨rfl,trivial⟩
def xy (x:ByteArray×Int):Option ByteArray:=if 0≤x.2∧x.2≤9223372036854775807∧x.1.size * x.2.toNat≤140737488355328 then some ⟨(Lib.repeatL x.1.data.toList x.2.toNat).toArray⟩ else none
theorem zgG (hf : P.funcs[f]? = some fn) (hnm : (fn.name == "runtime.NumGoroutine") = false) (hbs : fn.body.isNone = false)
    (hc:∀ (s:ByteArray) (c:Nat) (w:World),c≤9223372036854775807→s.size * c≤140737488355328→Calls P f #[.string s,.int .i64 c] w fun e w'=>e = .returned (.string ⟨(Lib.repeatL s.data.toList c).toArray⟩)∧RowKit.Below w.heap.size w w') :
    Spec.OK (C:=C) P ⟨f,1,{ts:=[(0,.str),(1,.int .i64)],es:=[]},[(.ret,{ts:=[(0,.str)],es:=[]})],xy⟩:=by
  refine Spec.ofBelow hf hnm hbs ?_
  show ∀ (x:ByteArray×Int) (r:ByteArray),xy x=some r→_
  rintro ⟨s,c⟩ r hr w σ hg ν args hw hl hv
  unfold xy at hr
  simp only at hr
  split at hr
  case isFalse=>cases hr
  rename_i hs
  obtain ⟨c0,c1,c2⟩:=hs
  cases hr
  match args,hl with
  |[a0,a1],_=>
    have h0:a0 = .string s:=VR.str_inv (show VR C σ ν a0 (.str s) from hv 0)
    have h1:a1 = .int .i64 c:=VR.int_inv (show VR C σ ν a1 (.int .i64 c) from hv 1)
    clear hv
    subst h0 h1
    have:=hc s c.toNat w (by omega) c2
    rw [Int.toNat_of_nonneg c0] at this
    refine this.mono ?_
    rintro e w' ⟨rfl,hb⟩
    refine ⟨hb,[_],rfl,rfl,rfl,rfl,fun t=>?_⟩
    match t with
    |0=>exact ⟨rfl,Rv.str⟩
    |t+1=>exact ⟨rfl,trivial⟩
def Yh (x:Int×Int):Option ByteArray:=if x.2=10∧ -9223372036854775808≤x.1∧x.1≤9223372036854775807 then some ⟨(Lib.itoa x.1).toArray⟩ else none
theorem zdy (hf : P.funcs[f]? = some fn) (hnm : (fn.name == "runtime.NumGoroutine") = false) (hbs : fn.body.isNone = false)
    (hc:∀ (n:Int), -9223372036854775808≤n→n≤9223372036854775807→∀ (w:World) (σ:FS),C.gl w σ→σ.sub w→Calls P f #[.int .i64 n,.int .i64 10] w fun e w'=>e = .returned (.string ⟨(Lib.itoa n).toArray⟩)∧RowKit.Below w.heap.size w w') :
    Spec.OK (C:=C) P ⟨f,1,{ts:=[(0,.int .i64),(1,.int .i64)],es:=[]},[(.ret,{ts:=[(0,.str)],es:=[]})],Yh⟩:=by
  refine Spec.ofBelow hf hnm hbs ?_
  show ∀ (x:Int×Int) (r:ByteArray),Yh x=some r→_
  rintro ⟨n,c⟩ r hr w σ hg ν args hw hl hv
  unfold Yh at hr
  simp only at hr
  split at hr
  case isFalse=>cases hr
  rename_i hs
  obtain ⟨rfl,c1,c2⟩:=hs
  cases hr
  match args,hl with
  |[a0,a1],_=>
    have h0:a0 = .int .i64 n:=VR.int_inv (show VR C σ ν a0 (.int .i64 n) from hv 0)
    have h1:a1 = .int .i64 10:=VR.int_inv (show VR C σ ν a1 (.int .i64 10) from hv 1)
    clear hv
    subst h0 h1
    refine (hc n c1 c2 w σ hg hw).mono ?_
    rintro e w' ⟨rfl,hb⟩
    refine ⟨hb,[_],rfl,rfl,rfl,rfl,fun t=>?_⟩
    match t with
    |0=>exact ⟨rfl,Rv.str⟩
    |t+1=>exact ⟨rfl,trivial⟩
def Vr (g:Nat) (k:IntKind) (zs:List Int) (w:World) (σ:FS):Prop:=(∃ c e f,w.heap[g]?=some (.cells c e f)∧c.size=zs.length)∧∀ (j:Nat) z,zs[j]?=some z→σ g j=some (.int k z)
theorem Vr.mono {g:Nat}{k:IntKind}{zs:List Int}{w w':World}{σ τ:FS}{h:za}(hl:σ.le τ) (hx:Ext w h w') (q:Vr g k zs w σ):Vr g k zs w' τ:=by
 obtain ⟨⟨c,e,f,h1,h2⟩,h3⟩:=q
 obtain ⟨c',f',k1,k2,_⟩:=(hx.old g).1 c e f h1
 exact ⟨⟨c',e,f',k1,k2.trans h2⟩,fun j z hj=>hl _ _ _ (h3 j z hj)⟩
theorem Vr.tab {name:String}{g:Nat}{k:IntKind}{zs:List Int}{w:World}{σ:FS}(hg:P.globalNamed name=some g) (hs:σ.sub w) (q:Vr g k zs w σ):Lib.TabIs P w name k zs:=by
 obtain ⟨⟨c,e,f,h1,h2⟩,h3⟩:=q
 unfold Lib.TabIs World.var?
 rw [hg]
 simp only [Option.bind_some,h1]
 congr 1
 apply Array.ext_getElem?
 intro j
 by_cases hj:j < zs.length
 ·have:=hs _ _ _ (h3 j zs[j] (by simp [hj]))
  simp only [World.cell?,Option.isSome_none,Bool.false_eq_true,if_false,h1] at this
  rw [this];simp [hj]
 ·rw [Array.getElem?_eq_none (by omega),Array.getElem?_eq_none (by simpa using hj)]
def Vs (C:Cod) (T:Nat):List (C.D T)→Option (List ByteArray)
 |[]=>some []
 |x::r=>match C.emb T x with
  |[.str s]=>(Vs C T r).bind fun l=>some (s::l)
  |_=>none
theorem zel {T:Nat}:∀ {xs:List (C.D T)}{l:List ByteArray},Vs C T xs=some l→l.length=xs.length∧∀ (i:Nat) s,l[i]?=some s→∃ x,xs[i]?=some x∧C.emb T x=[.str s]
 |[],l,h=>by cases h;exact ⟨rfl,fun i s h=>by simp at h⟩
 |x::xs,l,h=>by
  unfold Vs at h
  split at h
  ·rename_i s e
   obtain ⟨l',hl,h⟩:=Option.bind_eq_some_iff.1 h
   cases h
   obtain ⟨h1,h2⟩:=zel hl
   refine ⟨by simp [h1],fun i s' hs=>?_⟩
   cases i with
   |zero=>simp at hs;subst hs;exact ⟨x,rfl,e⟩
   |succ i=>exact h2 i s' (by simpa using hs)
  ·cases h
def zbi (C:Cod) (T:Nat) (x:Sl (C.D T)×ByteArray):Option ByteArray:=(Vs C T x.1.xs).bind fun l=>
 if l.length≤140737488355328∧(Lib.join (l.map (·.data.toList)) x.2.data.toList).length≤140737488355328 then some ⟨(Lib.join (l.map (·.data.toList)) x.2.data.toList).toArray⟩ else none
theorem zj5 {T : Nat} (hf : P.funcs[f]? = some fn) (hnm : (fn.name == "runtime.NumGoroutine") = false) (hbs : fn.body.isNone = false)
    (h0:∀ (a:Option Addr) (c:Nat) (sep:ByteArray) (w:World),Calls P f #[.slice a 0 c,.string sep] w fun e w'=>e = .returned (.string ⟨#[]⟩)∧w'=w)
    (hc:∀ (bk o c:Nat) (xs:List ByteArray) (sep:ByteArray) (w:World),(∀ (j:Nat) x,xs[j]?=some x→w.cell? ⟨bk,o+j,none⟩=some (.string x))→bk < w.heap.size→xs.length≤140737488355328→xs.length≤c→(Lib.join (xs.map (·.data.toList)) sep.data.toList).length≤140737488355328→
      Calls P f #[.slice (some ⟨bk,o,none⟩) xs.length c,.string sep] w fun e w'=>e = .returned (.string ⟨(Lib.join (xs.map (·.data.toList)) sep.data.toList).toArray⟩)∧RowKit.Below w.heap.size w w') :
    Spec.OK (C:=C) P ⟨f,1,{ts:=[(0,.sl T),(1,.str)],es:=[]},[(.ret,{ts:=[(0,.str)],es:=[]})],zbi C T⟩:=by
  refine Spec.ofBelow hf hnm hbs ?_
  show ∀ (x:Sl (C.D T)×ByteArray) (r:ByteArray),zbi C T x=some r→_
  rintro ⟨xs,sep⟩ r hr w σ hg ν args hw hl hv
  obtain ⟨l,hl',hr⟩:=Option.bind_eq_some_iff.1 hr
  simp only at hr hl'
  split at hr
  case isFalse=>cases hr
  rename_i hs
  obtain ⟨c1,c2⟩:=hs
  cases hr
  obtain ⟨k1,k2⟩:=zel hl'
  match args,hl with
  |[a0,a1],_=>
    have e1:a1 = .string sep:=VR.str_inv (show VR C σ ν a1 (.str sep) from hv 1)
    obtain ⟨a,n,c,e0,⟨q1,q2,q3,q4,q5,cells,q6,q7⟩,_⟩:=Rv.slAt (show Rv C σ a0 (.sl T xs false) from hv 0)
    clear hv
    subst e0 e1
    have fin:∀ (s:ByteArray) (e:Ending) (w':World),e = .returned (.string s)→RowKit.Below w.heap.size w w'→RowKit.Below w.heap.size w w'∧∃ vals,e = .returned (vA vals)∧vals.length=1∧z6 (C:=C) [(.ret,{ts:=[(0,.str)],es:=[]})] s fun xe S'=>xe = .ret∧S'.heap=(fun _=>none)∧∀ t,(S'.env t).flat=true∧VR C σ ν ((vals[t]?).getD undef) (S'.env t):=by
      rintro s e w' rfl hb
      refine ⟨hb,[_],rfl,rfl,rfl,rfl,fun t=>?_⟩
      match t with
      |0=>exact ⟨rfl,Rv.str⟩
      |t+1=>exact ⟨rfl,trivial⟩
    cases l with
    |nil=>
      have hn:n=0:=by rw [q1,← k1];rfl
      subst hn
      refine (h0 a c sep w).mono ?_
      rintro e w' ⟨rfl,rfl⟩
      exact fin _ _ _ rfl (RowKit.Below.refl _ _)
    |cons y ys=>
      obtain ⟨r1,r2⟩:=V7.1 q6
      have hsz:∀ (i:Nat) s,(y::ys)[i]?=some s→C.size T=1:=fun i s hi=>by
        obtain ⟨x,hx,he⟩:=k2 i s hi
        rw [← C.len T x,he];rfl
      have hsz1:=hsz 0 y rfl
      have hcell:∀ (i:Nat) s,(y::ys)[i]?=some s→∃ ad:Addr,a=some ad∧σ.cell (ad.add i)=some (.string s):=fun i s hi=>by
        obtain ⟨x,hx,he⟩:=k2 i s hi
        obtain ⟨u,hu,hv⟩:=r2 i x 0 (.str s) hx (by rw [he];rfl)
        rw [hsz1,Nat.mul_one,Nat.add_zero] at hu
        obtain ⟨ad,ha,hc'⟩:=q7 i u hu
        have:u = .string s:=by cases hv;rfl
        exact ⟨ad,ha,by rw [← this];exact hc'⟩
      obtain ⟨ad,ha,hc0⟩:=hcell 0 y rfl
      have hspot:ad.spot=none:=by
        cases hsp:ad.spot with
        |none=>rfl
        |some q=>
          unfold FS.cell at hc0
          simp [Addr.add,hsp] at hc0
      obtain ⟨bk,o,sp⟩:=ad
      simp only at hspot
      subst hspot ha
      have hcells:∀ (j:Nat) x,(y::ys)[j]?=some x→w.cell? ⟨bk,o+j,none⟩=some (.string x):=fun j x hj=>by
        obtain ⟨ad',ha',hcj⟩:=hcell j x hj
        cases ha'
        have e2:((⟨bk,o,none⟩:Addr).add j)=⟨bk,o+j,none⟩:=by unfold Addr.add;split <;> simp_all
        rw [e2] at hcj
        have:σ bk (o+j)=some (.string x):=by simpa [FS.cell] using hcj
        exact hw _ _ _ this
      have hbk:bk < w.heap.size:=by
        have:=hcells 0 y rfl
        unfold World.cell? at this
        simp only [Option.isSome_none,Bool.false_eq_true,if_false] at this
        cases e:w.heap[bk]? with
        |none=>rw [e] at this;cases this
        |some x=>exact (Array.getElem?_eq_some_iff.1 e).1
      have hn:n=(y::ys).length:=by rw [q1,← k1]
      subst hn
      refine (hc bk o c (y::ys) sep w hcells hbk c1 q3 c2).mono ?_
      rintro e w' ⟨rfl,hb⟩
      exact fin _ _ _ rfl hb
end
end Go.Px
namespace Go.Px
set_option linter.unusedSimpArgs false
open Go.Proofs Go.Shelf Go.RowKit
set_option linter.unusedVariables false
variable {P:Program}
structure AppAt (e:TypeId) (v v':Value) (w w':World):Prop where
 os:w'.os=w.os
 tape:w'.tape=w.tape
 output:w'.output=w.output
 size:w.heap.size≤w'.heap.size
 block:∀ k,k < w.heap.size→w'.heap[k]?=w.heap[k]?∨(v.ownBlock=some k∧v'.ownBlock=some k∧∃ c c',w.heap[k]?=some (.cells c e (0,0))∧w'.heap[k]?=some (.cells c' e (0,0))∧c'.size=c.size)
 own:v'.ownBlock=v.ownBlock∨v'.ownBlock=some w.heap.size
theorem ziu (w:World) (t u ty e:TypeId) (i:TypeInfo) (ht:P.underlying t=some (.slice e)) (hu:P.underlying u=some .string) (hi:P.info? e=some i) (hz:i.zero=some (.int .u8 0))
    (hsize:i.size=1) (hby:i.bytes=1) (v:Value) (n:Nat) (xs:List Value) (hown:w.ownsRow 0 e 1 v n xs) (s:ByteArray) (h63:n+s.size≤maxLen) (hbytes:n+s.size≤140737488355328) :
    ∃ v' w',(Builtin.append_ #[t,u] ty #[v,.string s]).run P w = .ok v' w'∧w'.ownsRow 0 e 1 v' (n+s.size) (xs++Lib.strCells s)∧AppAt e v v' w w':=by
  obtain ⟨v',w',hr,h1,h2,h3⟩:=Lib.run_append_own_string (P:=P) w 0 t u ty e i ht hu hi hz hsize hby v n xs hown s h63 hbytes (Nat.zero_le _)
  refine ⟨v',w',hr,h1,?_⟩
  have hxl:xs.length=n:=by simpa using hown.1
  have fresh:∀ c,v'.ownBlock=some w.heap.size→w'=w.drew.alloc (.cells c e (0,0))→AppAt e v v' w w':=fun c e1 e2=>
    ⟨h2.os,h2.tape,h2.output,h2.size,fun k hk =>.inl (by rw [e2];exact wH _ _ _ (show k < w.drew.heap.size from hk)),.inr e1⟩
  rcases hown.2 with ⟨rfl,rfl⟩ | ⟨g,cap,cur,rfl,_,hg,hnc,hcm,hcs,htake⟩
  · by_cases hm:s.size=0
    · have:=h3.2 ⟨rfl,hm⟩
      subst this
      exact ⟨h2.os,h2.tape,h2.output,h2.size,fun k hk =>.inl (h2.block k hk (by simp [Value.ownBlock])),.inl rfl⟩
    · have hr2:=run_append_nil_string (P:=P) w t u ty e i (.int .u8 0) ht hu hi hz s (by omega) (by simp only [maxLen] at h63;omega) (by rw [hby];omega)
      rw [hr] at hr2
      injection hr2 with e1 e2
      subst e1
      exact fresh _ rfl e2
  · by_cases hroom:n+s.size≤cap
    · have hcs':cur.size=cap:=by simpa using hcs
      have hr2:=Lib.run_append_room_string (P:=P) w t u ty e i ht hu hi hsize g n cap cur hg s hroom (by omega)
      rw [hr] at hr2
      injection hr2 with e1 e2
      subst e1;subst e2
      refine ⟨h2.os,h2.tape,h2.output,h2.size,fun k hk=>?_,.inl rfl⟩
      by_cases hkg:k=g
      · subst hkg
        refine .inr ⟨rfl,rfl,_,_,hg,setRow_heap w k cur _ e _ hg,?_⟩
        simp only [List.size_toArray,List.length_append,List.length_take,List.length_drop,Array.length_toList,Lib.strCells_length]
        omega
      · exact .inl (setRow_other w g k _ hkg)
    · have holds:∀ j u,xs[j]?=some u→w.cell? ((⟨g,0,none⟩:Addr).add j)=some u:=hown.cells (g:=g) rfl
      have hr2:=Lib.run_append_grow_string (P:=P) w t u ty e i (.int .u8 0) ht hu hi hz ⟨g,0,none⟩ n cap xs (by rw [hsize];simpa using hxl) holds s (by omega) (by simp only [maxLen] at h63;omega) (by rw [hby];exact growslice_fits (by omega) (by omega))
      rw [hr] at hr2
      injection hr2 with e1 e2
      subst e1
      exact fresh _ rfl e2
theorem zbz {ops:Array Oper}{rest:List Oper}{o:Oper}{a:Act}{w:World}{Q:Exit→Act→World→Prop}(hgd:o.guard=none) (sl x:Operand) (t u:TypeId)
    (ho:o.op = .call {callee :=.builtin .append,args:= #[sl,x],argTypes:= #[t,u]}) (e:TypeId) (i:TypeInfo) (ht:P.underlying t=some (.slice e)) (hu:P.underlying u=some .string) (hi:P.info? e=some i) (hz:i.zero=some (.int .u8 0))
    (hsize:i.size=1) (hby:i.bytes=1) (v:Value) (n:Nat) (xs:List Value) (hs:a.eval sl=v) (hown:w.ownsRow 0 e 1 v n xs) (s:ByteArray) (hx:a.eval x = .string s) (h63:n+s.size≤maxLen) (hbytes:n+s.size≤140737488355328)
    (h:∀ v' w',w'.ownsRow 0 e 1 v' (n+s.size) (xs++Lib.strCells s)→AppAt e v v' w w'→wpList P ops Q rest (a.put o.dst v') w'):wpList P ops Q (o::rest) a w:=by
  refine wpList_plain hgd fun K hK=>?_
  obtain ⟨v',w',hr,h2,h3⟩:=ziu (P:=P) w t u o.type e i ht hu hi hz hsize hby v n xs hown s h63 hbytes
  unfold Oper.wp execOp
  simp only [ho,resolve,invoke,builtin,Sem.run_bind,Sem.run_pure,Result.andThen_ok,List.map_toArray,List.map_cons,List.map_nil,hs,hx,hr]
  exact hK _ _ (h v' w' h2 h3)
def wX (T e:TypeId) (b:Nat) (p v:Value) (n:Nat) (bs:List Value) (w:World):Prop:=
 w.heap[b]?=some (.cells #[p,v] T (0,0))∧w.ownsRow 0 e 1 v n bs
theorem wX.ne {T e:TypeId}{b:Nat}{p v:Value}{n:Nat}{bs:List Value}{w:World}(h:wX T e b p v n bs w) (hT:T≠e):v.ownBlock≠some b:=Lib.ownBlock_ne h.2 h.1 hT
theorem wX.lt {T e:TypeId}{b:Nat}{p v:Value}{n:Nat}{bs:List Value}{w:World}(h:wX T e b p v n bs w):b < w.heap.size:=(Array.getElem?_eq_some_iff.1 h.1).1
theorem zaB {w:World}{b:Nat}{c:Array Value}{T:TypeId}{f:Nat×Nat}(h:w.heap[b]?=some (.cells c T f)) (j:Nat) (q:Value):(w.setCell ⟨b,j,none⟩ q).heap[b]?=some (.cells (c.setIfInBounds j q) T f):=by
 simp [World.setCell,Array.getElem?_modify,h]
theorem Xm {w:World}{b k:Nat}(j:Nat) (q:Value) (h:k≠b):(w.setCell ⟨b,j,none⟩ q).heap[k]?=w.heap[k]?:=Below.heap_setCell _ _ _ _ h
set_option maxHeartbeats 2000000 in
set_option maxRecDepth 100000 in
theorem ziv {ρ:Ren}(L:Lays.n166 P ρ) (X:Builder.Extra P ρ) (b:Nat) (p v:Value) (n:Nat) (bs:List Value) (s:ByteArray) (w:World) (hp:p = .pointer none∨p = .pointer (some ⟨b,0,none⟩)) (hb:wX (ρ.t 72) (ρ.t 5) b p v n bs w) (hlen:n+s.size≤140737488355328) :
    Calls P (ρ.f 166) #[.pointer (some ⟨b,0,none⟩),.string s] w fun e w'=>e = .returned (.tuple #[.int .i64 s.size,.nilIface])∧∃ v',wX (ρ.t 72) (ρ.t 5) b (.pointer (some ⟨b,0,none⟩)) v' (n+s.size) (bs++Lib.strCells s) w'∧
      w'.os=w.os∧w'.tape=w.tape∧w'.output=w.output∧w.heap.size≤w'.heap.size∧(v'.ownBlock=v.ownBlock∨v'.ownBlock=some w.heap.size)∧
      ∀ k,k < w.heap.size→k≠b→w'.heap[k]?=w.heap[k]?∨(v.ownBlock=some k∧v'.ownBlock=some k∧∃ c c',w.heap[k]?=some (.cells c (ρ.t 5) (0,0))∧w'.heap[k]?=some (.cells c' (ρ.t 5) (0,0))∧c'.size=c.size):=by
  obtain ⟨i0,hi,hz0,hz1,hz2⟩:=info_parts X.infoByte
  have mixed:=L.mixed
  have t72:=L.t72;have a72:=L.a72;have z72:=L.z72;have v72:=L.v72;have u72:=run_underlying L.t72
  have t70:=L.t70;have a70:=L.a70;have z70:=L.z70;have v70:=L.v70;have u70:=run_underlying L.t70
  have t37:=L.t37;have a37:=L.a37;have z37:=L.z37;have v37:=L.v37;have u37:=run_underlying L.t37
  have t3:=L.t3;have a3:=L.a3;have z3:=L.z3;have v3:=L.v3;have u3:=run_underlying L.t3
  have t9:=L.t9;have a9:=L.a9;have z9:=L.z9;have v9:=L.v9;have u9:=run_underlying L.t9
  have t4:=L.t4;have a4:=L.a4;have z4:=L.z4;have v4:=L.v4;have u4:=run_underlying L.t4
  have t164:=L.t164;have a164:=L.a164;have z164:=L.z164;have v164:=L.v164;have u164:=run_underlying L.t164
  have t5:=X.t5;have a5:=X.a5;have z5:=X.z5;have v5:=X.v5;have u5:=run_underlying X.t5
  have e240:∀ args w,(callFunc (ρ.f 240) args).run P w = .ok (.enter (ρ.f 240) args) w:=enters_of L.f240 (by kernel_rfl) rfl
  have hne0:=hb.ne X.neB5
  have hcc:Calls P (ρ.f 240) #[.pointer (some ⟨b,0,none⟩)] w fun e w1=>e = .returned (.tuple #[])∧wX (ρ.t 72) (ρ.t 5) b (.pointer (some ⟨b,0,none⟩)) v n bs w1∧w1.os=w.os∧w1.tape=w.tape∧w1.output=w.output∧w1.heap.size=w.heap.size∧∀ k,k≠b→w1.heap[k]?=w.heap[k]?:=by
    rcases hp with rfl | rfl
    · refine (Any.Builder_copyCheck_fresh {L with} X.toX72 b w (by rw [Lib.cell_of_heap hb.1];rfl) (by simp [World.shape?,hb.1]) (Lib.frozen_of_heap hb.1 0)).mono ?_
      rintro e w1 ⟨rfl,rfl⟩
      refine ⟨rfl,⟨zaB hb.1 0 _,?_⟩,rfl,rfl,rfl,by simp [World.setCell],fun k hk=>Xm 0 _ hk⟩
      exact hb.2.kept (row:=some b) ⟨rfl,rfl,rfl,by simp [World.setCell],fun k _ hk=>Xm 0 _ (fun e=>hk (by simp [e]))⟩ (Or.inr hne0)
    · refine (Any.Builder_copyCheck_used {L with} X.toX72 b w (by rw [Lib.cell_of_heap hb.1];rfl)).mono ?_
      rintro e w1 ⟨rfl,rfl⟩
      exact ⟨rfl,hb,rfl,rfl,rfl,rfl,fun k _=>rfl⟩
  go_enter L.f166,Body.n166_ntmps ρ
  go_wp2_with (go_at_fn (ρ.f 240);refine hcc.mono ?_)
  rintro e w1 ⟨rfl,hb1,g1,g2,g3,g4,g5⟩
  obtain ⟨hbk,hown⟩:=hb1
  have c0:w1.cell? ⟨b,0,none⟩=some (.pointer (some ⟨b,0,none⟩)):=by rw [Lib.cell_of_heap hbk];rfl
  have c1:w1.cell? ⟨b,1,none⟩=some v:=by rw [Lib.cell_of_heap hbk];rfl
  go_wp2_with (at_builtin;refine zbz rfl _ _ (ρ.t 37) (ρ.t 9) rfl (ρ.t 5) i0 L.t37 L.t9 hi hz0 hz1 hz2 _ _ _ rfl hown s rfl ?c3 ?c4 ?_)
  case c3=>unfold maxLen;omega
  case c4=>omega
  intro v' w2 hown' hat
  have hlt:b < w1.heap.size:=wX.lt ⟨hbk,hown⟩
  have hb2:w2.heap[b]?=some (.cells #[.pointer (some ⟨b,0,none⟩),v] (ρ.t 72) (0,0)):=by
    rcases hat.block b hlt with q | ⟨q,_⟩
    · rw [q];exact hbk
    · exact absurd q hne0
  have d0:w2.cell? ⟨b,0,none⟩=some (.pointer (some ⟨b,0,none⟩)):=by rw [Lib.cell_of_heap hb2];rfl
  have d1:w2.cell? ⟨b,1,none⟩=some v:=by rw [Lib.cell_of_heap hb2];rfl
  have f1:w2.frozen? ⟨b,1,none⟩=false:=Lib.frozen_of_heap hb2 1
  obtain ⟨ao,n',cap,rfl⟩:∃ ao n' cap,v' = .slice ao n' cap:=by
    rcases hown'.2 with ⟨hv,_⟩ | ⟨g,cap,cur,hv,_⟩
    · exact ⟨_,_,_,hv⟩
    · exact ⟨_,_,_,hv⟩
  have hne2:(Value.slice ao n' cap).ownBlock≠some b:=Lib.ownBlock_ne hown' hb2 X.neB5
  go_wp2
  go_ret2
  refine ⟨rfl,_,⟨zaB hb2 1 _,hown'.kept (row:=some b) ⟨rfl,rfl,rfl,by simp [World.setCell],fun k _ hk=>Xm 1 _ (fun e=>hk (by simp [e]))⟩ (Or.inr hne2)⟩,hat.os.trans g1,hat.tape.trans g2,hat.output.trans g3,?_,?_,fun k hk hkb=>?_⟩
  · have:=hat.size;simp [World.setCell];omega
  · rw [← g4];exact hat.own
  · rw [Xm 1 _ hkb]
    rcases hat.block k (by omega) with q | ⟨q1,q2,c,c',q3,q4,q5⟩
    · exact .inl (q.trans (g5 k hkb))
    · exact .inr ⟨q1,q2,c,c',by rw [← g5 k hkb];exact q3,q4,q5⟩
set_option maxHeartbeats 2000000 in
set_option maxRecDepth 100000 in
theorem zgH {ρ:Ren}(L:Lays.n169 P ρ) (X:Builder.Extra P ρ) (b:Nat) (p:Value) (l:List UInt8) (w:World) (g cap:Nat) (cur:Array Value) (h0:l≠[]) (hbk:w.heap[b]?=some (.cells #[p,.slice (some ⟨g,0,none⟩) l.length cap] (ρ.t 72) (0,0)))
    (hg:w.heap[g]?=some (.cells cur (ρ.t 5) (0,0))) (hnc:l.length≤cap) (hcm:cap≤maxLen) (hcs:cur.size=cap) (htake:cur.toList.take l.length=Lib.byteCells l) :
    Calls P (ρ.f 169) #[.pointer (some ⟨b,0,none⟩)] w fun e w'=>e = .returned (.string ⟨l.toArray⟩)∧w'=w.drew.freeze ⟨g,0,none⟩ l.length:=by
  have hl0:l.length≠0:=by simpa using h0
  have c1:w.drew.cell? ⟨b,1,none⟩=some (.slice (some ⟨g,0,none⟩) l.length cap):=by
    have:w.drew.heap[b]?=some (.cells #[p,.slice (some ⟨g,0,none⟩) l.length cap] (ρ.t 72) (0,0)):=hbk
    rw [Lib.cell_of_heap this];rfl
  have hSD:(Builtin.unsafeSliceData_ #[(ρ.t 37)] (ρ.t 127) #[.slice (some ⟨g,0,none⟩) l.length cap]).run P w.drew = .ok (.pointer (some ⟨g,0,none⟩)) w.drew:=
    Lib.run_unsafeSliceData_row _ _ _ _ _ _ (by omega)
  have hown:w.drew.ownsRow 0 (ρ.t 5) 1 (.slice (some ⟨g,0,none⟩) l.length cap) l.length (Lib.byteCells l):=⟨by simp [Lib.byteCells],.inr ⟨g,cap,cur,rfl,Nat.zero_le _,hg,hnc,hcm,by simpa using hcs,by simpa using htake⟩⟩
  have hUS:(Builtin.unsafeString_ #[(ρ.t 127),(ρ.t 3)] (ρ.t 9) #[.pointer (some ⟨g,0,none⟩),.int .i64 l.length]).run P w.drew = .ok (.string ⟨l.toArray⟩) (w.drew.freeze ⟨g,0,none⟩ l.length):=by
    refine Lib.run_unsafeString_row w.drew (ρ.t 127) (ρ.t 3) (ρ.t 9) (ρ.t 5) L.t127 X.cellsByte g cur.size (by have hg':w.drew.heap[g]?=some (.cells cur (ρ.t 5) (0,0)):=hg;simp [World.shape?,hg']) l h0 (by omega) (by unfold maxLen at hcm;omega) ?_
    intro j x hx
    have:=hown.cells (g:=g) rfl j (.int .u8 x.toNat) (by simp [Lib.byteCells,hx])
    exact this
  clear hown htake hcs hg hnc hcm hbk
  have mixed:=L.mixed
  have t72:=L.t72;have a72:=L.a72;have z72:=L.z72;have v72:=L.v72;have u72:=run_underlying L.t72
  have t70:=L.t70;have a70:=L.a70;have z70:=L.z70;have v70:=L.v70;have u70:=run_underlying L.t70
  have t37:=L.t37;have a37:=L.a37;have z37:=L.z37;have v37:=L.v37;have u37:=run_underlying L.t37
  have t127:=L.t127;have a127:=L.a127;have z127:=L.z127;have v127:=L.v127;have u127:=run_underlying L.t127
  have t3:=L.t3;have a3:=L.a3;have z3:=L.z3;have v3:=L.v3;have u3:=run_underlying L.t3
  have t9:=L.t9;have a9:=L.a9;have z9:=L.z9;have v9:=L.v9;have u9:=run_underlying L.t9
  have t5:=X.t5;have a5:=X.a5;have z5:=X.z5;have v5:=X.v5;have u5:=run_underlying X.t5
  go_enter L.f169,Body.n169_ntmps ρ
  go_wp2
  go_region_o
  all_goals (go_wp2;go_ret;exact ⟨rfl,rfl⟩)
def Yi (T e:TypeId) (a:Addr) (s:ByteArray) (h:za):Prop:=∃ (b:Nat) (p v:Value),a=⟨b,0,none⟩∧(p = .pointer none∨p = .pointer (some ⟨b,0,none⟩))∧(zx b T #[p,v]).le h∧
 ((v = .slice none 0 0∧s.size=0)∨∃ (g cap:Nat) (cur:Array Value),v = .slice (some ⟨g,0,none⟩) s.size cap∧g≠b∧s.size≤cap∧cap≤maxLen∧cur.size=cap∧cur.toList.take s.size=Lib.strCells s∧(zx g e cur).le h)
def Priv.bld (T e:TypeId) (a:Addr) (s:ByteArray):Priv where
 holds _ h:=Yi T e a s h
 mono:=by
  rintro σ τ h g _ m ⟨b,p,v,h1,h2,h3,h4⟩
  refine ⟨b,p,v,h1,h2,h3.trans m,?_⟩
  rcases h4 with q | ⟨g',cap,cur,q1,q2,q3,q4,q5,q6,q7⟩
  ·exact .inl q
  ·exact .inr ⟨g',cap,cur,q1,q2,q3,q4,q5,q6,q7.trans m⟩
theorem xK {w:World}{q:Nat}{e:TypeId}{c:Array Value}{h:za}(hl:(zx q e c).le h) (hs:h.sub w):w.heap[q]?=some (.cells c e (0,0)):=by
 obtain ⟨c1,h1,_,h3⟩:=hs q 0 _ (hl q 0 _ (yJ q e c))
 have:c1=c:=by
  apply Array.ext_getElem?
  intro o
  by_cases ho:o < c.size
  ·obtain ⟨c2,e2,o2,k1,k2,k3⟩:=hs q (o+1) _ (hl q (o+1) _ (yz (q:=q) (e:=e) (c:=c) (j:=o) (u:=c[o]) (by simp [ho])))
   rw [h1] at k1;cases k1
   obtain rfl:o=o2:=by omega
   rw [k3];simp [ho]
  ·rw [Array.getElem?_eq_none (by omega),Array.getElem?_eq_none (by omega)]
 rw [h1,this]
theorem Yi.world {T e:TypeId}{a:Addr}{s:ByteArray}{h:za}{w:World}(k:Yi T e a s h) (hs:h.sub w):∃ (b:Nat) (p v:Value),a=⟨b,0,none⟩∧(p = .pointer none∨p = .pointer (some ⟨b,0,none⟩))∧wX T e b p v s.size (Lib.strCells s) w:=by
 obtain ⟨b,p,v,h1,h2,h3,h4⟩:=k
 refine ⟨b,p,v,h1,h2,xK h3 hs,by simp [Lib.strCells_length],?_⟩
 rcases h4 with q | ⟨g',cap,cur,q1,q2,q3,q4,q5,q6,q7⟩
 ·exact .inl q
 ·exact .inr ⟨g',cap,cur,q1,Nat.zero_le _,xK q7 hs,q3,q4,by simpa using q5,by simpa using q6⟩
theorem Yi.of {T e:TypeId}{b:Nat}{p v:Value}{s:ByteArray}{w:World}(hT:T≠e) (hp:p = .pointer none∨p = .pointer (some ⟨b,0,none⟩)) (k:wX T e b p v s.size (Lib.strCells s) w) :
    ∃ h,Yi T e ⟨b,0,none⟩ s h∧h.sub w∧∀ q i,(h q i).isSome→q=b∨v.ownBlock=some q:=by
  have hne:=k.ne hT
  obtain ⟨hb,_,ho⟩:=k
  rcases ho with ⟨rfl,h0⟩ | ⟨g,cap,cur,rfl,_,hg,h1,h2,h3,h4⟩
  · exact ⟨zx b T #[p,.slice none 0 0],⟨b,p,_,rfl,hp,.refl _,.inl ⟨rfl,h0⟩⟩,yf hb,fun q i hx =>.inl (ZI hx).1⟩
  · have hgb:g≠b:=fun e=>hne (by simp [Value.ownBlock,e])
    have hd:(zx b T #[p,.slice (some ⟨g,0,none⟩) s.size cap]).disj (zx g e cur):=fun q i=>by
      by_cases hq:q=b
      · right
        cases hx:zx g e cur q i with
        |none=>rfl
        |some y=>have:=(ZI (b:=q) (k:=i) (by rw [hx];rfl)).1;exact absurd (this.symm.trans hq) hgb
      · left;simp [zx,hq]
    refine ⟨(zx b T #[p,.slice (some ⟨g,0,none⟩) s.size cap]).or (zx g e cur),⟨b,p,_,rfl,hp,za.le_or _ _,.inr ⟨g,cap,cur,rfl,hgb,h1,h2,by simpa using h3,by simpa using h4,za.le_or_right hd⟩⟩,za.or_sub (yf hb) (yf hg),fun q i hx=>?_⟩
    unfold za.or at hx
    cases hx1:zx b T #[p,.slice (some ⟨g,0,none⟩) s.size cap] q i with
    |some y=>exact .inl (ZI (b:=q) (k:=i) (by rw [hx1];rfl)).1
    |none=>rw [hx1] at hx;exact .inr (by rw [(ZI (b:=q) (k:=i) (by simpa using hx)).1];rfl)
def Cov (h:za) (w:World) (q:Nat):Prop:=∀ c e f,w.heap[q]?=some (.cells c e f)→∀ i,i≤c.size→(h q i).isSome
theorem Cov.of {h:za}{w:World}{q:Nat}{e:TypeId}{c:Array Value}(hl:(zx q e c).le h) (hs:h.sub w):Cov h w q:=fun c1 e1 f1 hc i hi=>by
 rw [xK hl hs] at hc;cases hc
 cases i with
 |zero=>
  have h1:=hl q 0 _ (yJ q e c)
  rw [h1];rfl
 |succ j=>
  have hj:j < c.size:=by omega
  have h1:=hl q (j+1) _ (yz (q:=q) (e:=e) (c:=c) (j:=j) (u:=c[j]) (by simp [hj]))
  rw [h1];rfl
theorem Yi.cov {T e:TypeId}{b0:Nat}{s:ByteArray}{h:za}{w:World}{p v:Value}(k:Yi T e ⟨b0,0,none⟩ s h) (hs:h.sub w) (hw:w.heap[b0]?=some (.cells #[p,v] T (0,0))):Cov h w b0∧∀ q,v.ownBlock=some q→Cov h w q:=by
 obtain ⟨b,p1,v1,h1,h2,h3,h4⟩:=k
 obtain rfl:b0=b:=by injection h1
 have:=xK h3 hs
 rw [hw] at this
 injection this with this;injection this with this
 injection this with this;injection this with e1 e2;injection e2 with e2 _
 subst e1;subst e2
 refine ⟨.of h3 hs,fun q hq=>?_⟩
 rcases h4 with ⟨rfl,_⟩ | ⟨g',cap,cur,rfl,q2,q3,q4,q5,q6,q7⟩
 ·cases hq
 ·simp only [Value.ownBlock,Option.some.injEq] at hq;subst hq;exact .of q7 hs
theorem zdz {h:za}{w:World}(hs:h.sub w) {q i:Nat}{c:Array Value}{e:TypeId}{f:Nat×Nat}(hq:w.heap[q]?=some (.cells c e f)) (hx:(h q i).isSome):i≤c.size:=by
 obtain ⟨x,hx⟩:=Option.isSome_iff_exists.1 hx
 have:=hs q i x hx
 cases x with
 |cell v=>obtain ⟨c1,e1,o,k1,rfl,k3⟩:=this;rw [hq] at k1;cases k1;have:=(Array.getElem?_eq_some_iff.1 k3).1;omega
 |shape e n=>obtain ⟨c1,k1,rfl,k3⟩:=this;omega
 |obj o=>obtain ⟨k1,rfl,k3⟩:=this;omega
theorem zcP (a b:ByteArray):Lib.strCells (a++b)=Lib.strCells a++Lib.strCells b:=by
 simp [Lib.strCells,ByteArray.data_append]
theorem znb {T e:TypeId}{b0:Nat}{p v p' v':Value}{s s':ByteArray}{st:Start}{σ:FS}{w':World}(hT:T≠e) (hpre:Pre st σ [Priv.bld T e ⟨b0,0,none⟩ s]) (hw:wX T e b0 p v s.size (Lib.strCells s) st.w) (hp':p' = .pointer none∨p' = .pointer (some ⟨b0,0,none⟩)) (hw':wX T e b0 p' v' s'.size (Lib.strCells s') w')
    (e1:w'.os=st.w.os) (e2:w'.tape=st.w.tape) (e3:w'.output=st.w.output) (e4:st.w.heap.size≤w'.heap.size) (e5:v'.ownBlock=v.ownBlock∨v'.ownBlock=some st.w.heap.size)
    (e6:∀ k,k < st.w.heap.size→k≠b0→w'.heap[k]?=st.w.heap[k]?∨(v.ownBlock=some k∧v'.ownBlock=some k∧∃ c c',st.w.heap[k]?=some (.cells c e (0,0))∧w'.heap[k]?=some (.cells c' e (0,0))∧c'.size=c.size)) :
    Inv st σ σ [Priv.bld T e ⟨b0,0,none⟩ s'] w':=by
  have hh:Yi T e ⟨b0,0,none⟩ s st.h:=hpre.sep.one_of
  obtain ⟨cb,cv⟩:=hh.cov hpre.own hw.1
  have hb0:∀ i,i≤2→(st.h b0 i).isSome:=fun i hi=>cb _ _ _ hw.1 i (by simpa using hi)
  have hext:Ext st.w st.h w':=by
    refine ⟨e1,e3,e2,e4,fun k=>⟨fun c et f hc=>?_,fun x hx hn=>?_⟩,fun a ha h0=>?_⟩
    · have hk:=(Array.getElem?_eq_some_iff.1 hc).1
      by_cases hkb:k=b0
      · subst hkb
        rw [hw.1] at hc;cases hc
        refine ⟨_,_,hw'.1,rfl,fun o ho=>?_,.inl rfl⟩
        by_cases h2:o < 2
        · have:=hb0 (o+1) (by omega);rw [ho] at this;cases this
        · rw [Array.getElem?_eq_none (by simp;omega),Array.getElem?_eq_none (by simp;omega)]
      · rcases e6 k hk hkb with q | ⟨q1,q2,c1,c2,q3,q4,q5⟩
        · exact ⟨c,f,by rw [q];exact hc,rfl,fun _ _=>rfl,.inl rfl⟩
        · rw [q3] at hc;cases hc
          refine ⟨c2,_,q4,q5,fun o ho=>?_,.inl rfl⟩
          by_cases h2:o < c.size
          · have:=cv k q1 _ _ _ q3 (o+1) (by omega);rw [ho] at this;cases this
          · rw [Array.getElem?_eq_none (by omega),Array.getElem?_eq_none (by omega)]
    · have hk:=(Array.getElem?_eq_some_iff.1 hx).1
      by_cases hkb:k=b0
      · subst hkb;rw [hw.1] at hx;cases hx;cases hn
      · rcases e6 k hk hkb with q | ⟨q1,q2,c1,c2,q3,q4,q5⟩
        · exact ⟨x,by rw [q];exact hx,hn,fun _=>rfl⟩
        · rw [q3] at hx;cases hx;cases hn
    · have hkb:a.block≠b0:=fun e=>by have:=hb0 0 (by omega);rw [e] at h0;rw [h0] at this;cases this
      rcases e6 a.block ha hkb with q | ⟨q1,q2,c1,c2,q3,q4,q5⟩
      · exact World.frozen?_of_block q
      · have:=cv _ q1 _ _ _ q3 0 (Nat.zero_le _);rw [h0] at this;cases this
  obtain ⟨h',k1,k2,k3⟩:=Yi.of hT hp' hw'
  have hmine:∀ q i,(h' q i).isSome→st.w.heap.size≤q∨(st.h q i).isSome:=fun q i hx=>by
    by_cases hq:st.w.heap.size≤q
    · exact .inl hq
    · right
      by_cases hqb:q=b0
      · subst hqb;exact hb0 i (by have:=zdz k2 hw'.1 hx;simpa using this)
      · rcases k3 q i hx with r | r
        · exact absurd r hqb
        · rcases e5 with r2 | r2
          · rcases e6 q (by omega) hqb with z | ⟨q1,q2,c1,c2,q3,q4,q5⟩
            · rw [r] at r2
              have hv:=r2.symm
              have hc:∃ c f,st.w.heap[q]?=some (.cells c e f):=by
                rcases hw.2.2 with ⟨rfl,_⟩ | ⟨g,cap,cur,rfl,_,hg,_⟩
                · cases hv
                · simp only [Value.ownBlock,Option.some.injEq] at hv;subst hv;exact ⟨_,_,hg⟩
              obtain ⟨c,f,hc⟩:=hc
              exact cv q hv _ _ _ hc i (zdz k2 (by rw [z];exact hc) hx)
            · exact cv q q1 _ _ _ q3 i (by rw [← q5];exact zdz k2 q4 hx)
          · rw [r2] at r;injection r with r;omega
  exact ⟨hext.held hpre.apart hpre.sub,.refl σ,fun _ _ _ h =>.inl h,⟨h',.one k1,k2,fun q o hx=>by
    rcases hmine q (o+1) hx with r | r
    · cases hs:σ q o with
      |none=>rfl
      |some y=>have:=hpre.inv.lt hs;omega
    · exact hpre.apart q o r,hmine⟩,hext⟩
theorem zg9 {ids:List Nat}(hn:ids.Nodup) (h:∀ i,i∈ids↔i=0):ids=[0]:=by
 match ids,hn,h with
 |[],_,h=>have:=(h 0).2 rfl;cases this
 |[a],_,h=>have:=(h a).1 (by simp);rw [this]
 |a::b::r,hn,h=>
  have h1:=(h a).1 (by simp);have h2:=(h b).1 (by simp)
  subst h1;subst h2;simp at hn
def wg {α:Type}(x:ByteArray×(ByteArray×Sl α)):Option (Int×(ByteArray×Sl α)):=if x.2.1.size+x.1.size≤140737488355328 then some ((x.1.size:Int),x.2.1++x.1,x.2.2) else none
def XG {α:Type}(x:ByteArray×Sl α):Option ByteArray:=if 0 < x.1.size then some x.1 else none
section
variable {C:Cod}{ρ:Ren}
theorem zb0 {k T0 : Nat} {fn : Func} (L : Lays.n166 P ρ) (X : Builder.Extra P ρ) (hf : P.funcs[ρ.f 166]? = some fn) (hnm : (fn.name == "runtime.NumGoroutine") = false) (hbs : fn.body.isNone = false) (hopv : ∀ hdr a s (z : Sl (C.D T0)), C.opv k T0 hdr a s z = Priv.bld (ρ.t 72) (ρ.t 5) a s) :
    Spec.OK (C:=C) P ⟨ρ.f 166,2,{ts:=[(0,.pc 0 0),(1,.str)],es:=[.obj k T0]},[(.ret,{ts:=[(0,.int .i64),(1,.nili)],es:=[.obj k T0]})],wg (α:=C.D T0)⟩:=by
  refine ⟨fn,hf,hnm,hbs,?_⟩
  show ∀ (x:ByteArray×(ByteArray×Sl (C.D T0))) (r:Int×(ByteArray×Sl (C.D T0))),wg x=some r→_
  rintro ⟨t,s,z⟩ r hr κ st σ hgl PV ν vs ids args hm hargs hA hpre
  have hr:(if s.size+t.size≤140737488355328 then some ((t.size:Int),s++t,z) else none)=some r:=hr
  split at hr
  case isFalse=>cases hr
  rename_i hlen
  cases hr
  obtain rfl:=zg9 hA.nd (fun i=>by
    rw [hA.dom]
    show (bif Nat.beq i 0 then _ else none:Option (Ent C)).isSome=true↔_
    cases e:Nat.beq i 0 with
    |true=>have:=Nat.eq_of_beq_eq_true e;subst this;simp [ESh.ent]
    |false=>simp;intro h;subst h;cases e)
  have hpv:PV=[C.opv k T0 (ν.hdr 0) (ν.adr 0) s z]:=hA.pv
  rw [hopv] at hpv
  subst hpv
  have hh:Yi (ρ.t 72) (ρ.t 5) (ν.adr 0) s st.h:=hpre.sep.one_of
  obtain ⟨b0,p,v,ha,hp,hw⟩:=hh.world hpre.own
  rw [ha] at hpre
  match args,hargs with
  |[a0,a1],_=>
    have h0:=hA.env 0
    rw [ZG] at h0
    have h1:=hA.env 1
    rw [ZG] at h1
    have k0:a0 = .pointer (some ((ν.adr 0).add 0)):=h0
    have k1:a1 = .string t:=VR.str_inv (show VR C σ ν a1 (.str t) from h1)
    have k0:a0 = .pointer (some ⟨b0,0,none⟩):=by rw [k0,ha];rfl
    clear h0 h1
    subst k0 k1
    refine (ziv L X b0 p v s.size _ t st.w hp hw hlen).mono ?_
    rintro e w' ⟨rfl,v',hw',e1,e2,e3,e4,e5,e6⟩
    rw [← zcP,show s.size+t.size=(s++t).size by simp] at hw'
    have hi:=znb X.neB5 hpre hw (.inr rfl) hw' e1 e2 e3 e4 e5 e6
    refine ⟨[_,_],σ,_,rfl,rfl,hi,ν,vs,[0],⟨⟨hA.nd,fun i=>?_,?_,?_,fun i=>?_,hA.one⟩,fun i=>?_,?_,fun i hi' hs=>?_⟩⟩
    · show i∈[0]↔(bif Nat.beq i 0 then some (Ent.obj k T0 (s++t) z) else none:Option (Ent C)).isSome=true
      cases e:Nat.beq i 0 with
      |true=>have:=Nat.eq_of_beq_eq_true e;subst this;simp
      |false=>simp;intro h;subst h;cases e
    · show _=[C.opv k T0 (ν.hdr 0) (ν.adr 0) (s++t) z]
      rw [hopv,ha]
    · intro i cs hc
      exact absurd hc (by
        show (bif Nat.beq i 0 then some (Ent.obj k T0 (s++t) z) else none:Option (Ent C))≠some (.cell cs)
        cases Nat.beq i 0 <;> simp)
    · rw [ZG]
      match i with
      |0=>exact Rv.int
      |1=>exact Rv.nili
      |i+2=>exact trivial
    · match i with
      |0=>exact trivial
      |1=>exact trivial
      |i+2=>exact trivial
    · intro i cs hc
      exact absurd hc (by
        show (bif Nat.beq i 0 then some (Ent.obj k T0 (s++t) z) else none:Option (Ent C))≠some (.cell cs)
        cases Nat.beq i 0 <;> simp)
    · refine hA.keep i hi' ((hA.dom i).1 ?_)
      replace hs:(bif Nat.beq i 0 then some (Ent.obj k T0 (s++t) z) else none:Option (Ent C)).isSome=true:=hs
      cases e:Nat.beq i 0 with
      |true=>have:=Nat.eq_of_beq_eq_true e;subst this;simp
      |false=>rw [e] at hs;cases hs
theorem zgI {k T0 : Nat} {fn : Func} (L : Lays.n169 P ρ) (X : Builder.Extra P ρ) (hf : P.funcs[ρ.f 169]? = some fn) (hnm : (fn.name == "runtime.NumGoroutine") = false) (hbs : fn.body.isNone = false) (hopv : ∀ hdr a s (z : Sl (C.D T0)), C.opv k T0 hdr a s z = Priv.bld (ρ.t 72) (ρ.t 5) a s) :
    Spec.OK (C:=C) P ⟨ρ.f 169,1,{ts:=[(0,.pc 0 0)],es:=[.obj k T0]},[(.ret,{ts:=[(0,.str)],es:=[.gone]})],XG (α:=C.D T0)⟩:=by
  refine ⟨fn,hf,hnm,hbs,?_⟩
  show ∀ (x:ByteArray×Sl (C.D T0)) (r:ByteArray),XG x=some r→_
  rintro ⟨s,z⟩ r hr κ st σ hgl PV ν vs ids args hm hargs hA hpre
  have hr:(if 0 < s.size then some s else none)=some r:=hr
  split at hr
  case isFalse=>cases hr
  rename_i hlen
  cases hr
  obtain rfl:=zg9 hA.nd (fun i=>by
    rw [hA.dom]
    show (bif Nat.beq i 0 then _ else none:Option (Ent C)).isSome=true↔_
    cases e:Nat.beq i 0 with
    |true=>have:=Nat.eq_of_beq_eq_true e;subst this;simp [ESh.ent]
    |false=>simp;intro h;subst h;cases e)
  have hpv:PV=[C.opv k T0 (ν.hdr 0) (ν.adr 0) s z]:=hA.pv
  rw [hopv] at hpv
  subst hpv
  have hh:Yi (ρ.t 72) (ρ.t 5) (ν.adr 0) s st.h:=hpre.sep.one_of
  obtain ⟨b0,p,v,ha,hp,hw⟩:=hh.world hpre.own
  rw [ha] at hpre hh
  match args,hargs with
  |[a0],_=>
    have h0:=hA.env 0
    rw [ZG] at h0
    have k0:a0 = .pointer (some ((ν.adr 0).add 0)):=h0
    have k0:a0 = .pointer (some ⟨b0,0,none⟩):=by rw [k0,ha];rfl
    clear h0
    subst k0
    obtain ⟨cb,cv⟩:=hh.cov hpre.own hw.1
    obtain ⟨hb,_,ho⟩:=hw
    rcases ho with ⟨_,h0⟩ | ⟨g,cap,cur,rfl,_,hg,h1,h2,h3,h4⟩
    · omega
    have hsz:s.data.toList.length=s.size:=by simp
    refine (zgH L X b0 p s.data.toList st.w g cap cur (by intro e;rw [e] at hsz;simp at hsz;omega) (by rw [hsz];exact hb) hg (by omega) h2 (by simpa using h3) (by rw [hsz];simpa [Lib.strCells_eq] using h4)).mono ?_
    rintro e w' ⟨rfl,rfl⟩
    rw [hsz]
    have hheap:∀ q,q≠g→(st.w.drew.freeze ⟨g,0,none⟩ s.size).heap[q]?=st.w.heap[q]?:=fun q hq=>by
      unfold World.freeze
      split
      · rfl
      · simp only [Array.getElem?_modify]
        split
        · rename_i e;exact absurd e.symm hq
        · rfl
    obtain ⟨f',hgg⟩:∃ f',(st.w.drew.freeze ⟨g,0,none⟩ s.size).heap[g]?=some (.cells cur (ρ.t 5) f'):=by
      unfold World.freeze
      split
      · exact ⟨(0,0),hg⟩
      · have hm:∀ f:Obj→Obj,(st.w.drew.heap.modify g f)[g]?=some (f (.cells cur (ρ.t 5) (0,0))):=fun f=>by
          rw [Array.getElem?_modify,if_pos rfl,show st.w.drew.heap[g]?=_ from hg];rfl
        exact ⟨_,hm _⟩
    have hos:(st.w.drew.freeze ⟨g,0,none⟩ s.size).os=st.w.os∧(st.w.drew.freeze ⟨g,0,none⟩ s.size).output=st.w.output∧(st.w.drew.freeze ⟨g,0,none⟩ s.size).tape=st.w.tape∧(st.w.drew.freeze ⟨g,0,none⟩ s.size).heap.size=st.w.heap.size:=by
      unfold World.freeze
      split
      · exact ⟨rfl,rfl,rfl,rfl⟩
      · exact ⟨rfl,rfl,rfl,by simp⟩
    obtain ⟨o1,o2,o3,o4⟩:=hos
    have hcg:=cv g rfl
    have hext:Ext st.w st.h (st.w.drew.freeze ⟨g,0,none⟩ s.size):=by
      refine ⟨o1,o2,o3,by omega,fun q=>⟨fun c et f hc=>?_,fun x hx hn=>?_⟩,fun a ha' h0=>?_⟩
      · by_cases hq:q=g
        · subst hq
          rw [hg] at hc;cases hc
          exact ⟨_,_,hgg,rfl,fun _ _=>rfl,.inr (hcg _ _ _ hg)⟩
        · exact ⟨c,f,by rw [hheap q hq];exact hc,rfl,fun _ _=>rfl,.inl rfl⟩
      · by_cases hq:q=g
        · subst hq;rw [hg] at hx;cases hx;cases hn
        · exact ⟨x,by rw [hheap q hq];exact hx,hn,fun _=>rfl⟩
      · have hq:a.block≠g:=fun e=>by have:=hcg _ _ _ hg 0 (Nat.zero_le _);rw [e] at h0;rw [h0] at this;cases this
        exact World.frozen?_of_block (hheap _ hq)
    refine ⟨[_],σ,[],rfl,rfl,⟨hext.held hpre.apart hpre.sub,.refl σ,fun _ _ _ h =>.inl h,⟨za.none,Sep.nil,⟨(fun _ _ _ (e:(none:Option Bit)=some _)=>nomatch e),(fun _ _ (e:(none:Option Bit).isSome=true)=>nomatch e),(fun _ _ (e:(none:Option Bit).isSome=true)=>nomatch e)⟩⟩,hext⟩,ν,vs,[],⟨⟨List.nodup_nil,fun i=>?_,rfl,?_,fun i=>?_,hA.one⟩,fun i=>?_,?_,fun i _ hs=>?_⟩⟩
    · show _↔(bif Nat.beq i 0 then none else none:Option (Ent C)).isSome=true
      cases Nat.beq i 0 <;> simp
    · intro i cs hc
      exact absurd hc (by
        show (bif Nat.beq i 0 then none else none:Option (Ent C))≠some (.cell cs)
        cases Nat.beq i 0 <;> simp)
    · rw [ZG]
      match i with
      |0=>exact Rv.str
      |i+1=>exact trivial
    · match i with
      |0=>exact trivial
      |i+1=>exact trivial
    · intro i cs hc
      exact absurd hc (by
        show (bif Nat.beq i 0 then none else none:Option (Ent C))≠some (.cell cs)
        cases Nat.beq i 0 <;> simp)
    · exact absurd hs (by
        show ¬ (bif Nat.beq i 0 then none else none:Option (Ent C)).isSome=true
        cases Nat.beq i 0 <;> simp)
end
def zok (T e:Nat) (D:Nat→Type):Nat→(T0:Nat)→Value→Addr→ByteArray→Sl (D T0)→Priv:=fun k _ _ a s _=>match k with
 |0=>Priv.bld T e a s
 |_=>⟨fun _ _=>False,fun _ _ h=>h⟩
def zlm (T:Nat):Nat→List Value→Option (Nat×Nat):=fun t zs=>bif Nat.beq t T then (match zs with
 |[.pointer none,.slice none 0 0]=>some (0,0)
 |_=>none) else none
theorem znc (T e:Nat) (D:Nat→Type):∀ t zs k T0,zlm T t zs=some (k,T0)→∀ (q:Nat) (hdr:Value) (σ:FS) (h:za),(zx q t zs.toArray).le h→(zok T e D k T0 hdr ⟨q,0,none⟩ ⟨#[]⟩ ⟨[],false⟩).holds σ h:=by
 intro t zs k T0 ho q hdr σ h hl
 unfold zlm at ho
 cases ht:Nat.beq t T with
 |false=>rw [ht] at ho;cases ho
 |true=>
  rw [ht,cond_true] at ho
  have:=Nat.eq_of_beq_eq_true ht
  subst this
  split at ho
  ·cases ho
   exact ⟨q,_,_,rfl,.inl rfl,hl,.inl ⟨rfl,rfl⟩⟩
  ·cases ho
end Go.Px
namespace Go.Px
set_option linter.unusedVariables false
set_option linter.unusedSimpArgs false
theorem Vr.of {P:Program}{W:World}{name:String}{g:Nat}{k:IntKind}{zs:List Int}(hg:P.globalNamed name=some g) (h:Lib.TabIs P W name k zs):Vr g k zs W (zay W):=by
 refine ⟨?_,fun j z hj=>?_⟩
 ·unfold Lib.TabIs World.var? at h
  rw [hg] at h
  simp only [Option.bind_some] at h
  split at h
  ·rename_i c e f hh
   cases h
   exact ⟨_,e,f,hh,by simp⟩
  ·cases h
 ·have hl:j < zs.length:=(List.getElem?_eq_some_iff.1 hj).1
  have:=h.cell hg j hl
  rw [List.getD_eq_getElem?_getD,hj] at this
  exact this
end Go.Px
namespace Go.Px
set_option linter.unusedVariables false
def Le {α:Type}(p q:Option α):Prop:=∀ a,p=some a→q=some a
theorem Le.refl {α:Type}(p:Option α):Le p p:=fun _ h=>h
theorem Le.bind {α β:Type}{p q:Option α}{f g:α→Option β}(h:Le p q) (k:∀ a,Le (f a) (g a)):Le (Option.bind p f) (Option.bind q g):=fun b hb=>by
 cases hp:p with
 |none=>rw [hp] at hb;cases hb
 |some a=>rw [hp] at hb;rw [h a hp];exact k a b hb
theorem Le.ite {α:Type}{c:Prop}[d:Decidable c] {p q p' q':Option α}(h:Le p q) (k:Le p' q'):Le (if c then p else p') (if c then q else q'):=by
 by_cases hc:c
 ·rw [if_pos hc,if_pos hc];exact h
 ·rw [if_neg hc,if_neg hc];exact k
theorem Le.iter {s β:Type}{f g:s→Option (Step s β)}(h:∀ x,Le (f x) (g x)):∀ (k:Nat) (x:s),Le (ye f k x) (ye g k x)
 |0,_ =>.refl _
 |k+1,x=>by
  show Le (Option.bind (f x) _) (Option.bind (g x) _)
  refine Le.bind (h x) fun st=>?_
  cases st with
  |next x'=>exact Le.iter h k x'
  |done y=>exact .refl _
theorem Le.loop {s β:Type}{f g:s→Option (Step s β)}{k:Nat}(h:∀ x,Le (f x) (g x)) (x:s):Le (ye f k x) (loopO g x):=fun y hy=>wG.2 ⟨k,Le.iter h k x y hy⟩
end Go.Px
namespace Go.Px
set_option linter.unusedSimpArgs false
set_option linter.unusedVariables false
noncomputable def lpW {s β:Type}(f:s→Option (Step s β)) (x:s):Option β:=ye f 400 x
theorem Le.lpW {s β:Type}{f g:s→Option (Step s β)}(h:∀ x,Le (f x) (g x)) (x:s):Le (lpW f x) (lpO g x):=Le.loop h x
theorem Le.cond {α:Type}{c:Bool}{p q p' q':Option α}(h:Le p q) (k:Le p' q'):Le (bif c then p else p') (bif c then q else q'):=by
 cases c
 ·exact k
 ·exact h
theorem Le.elim {α β γ:Type}{f g:α→Option γ}{f' g':β→Option γ}{y:α⊕β}(h:∀ x,Le (f x) (g x)) (k:∀ x,Le (f' x) (g' x)):Le (Sum.elim f f' y) (Sum.elim g g' y):=by
 cases y
 ·exact h _
 ·exact k _
theorem le_of_eq {α β:Type}{f:α→Option β}{g:α→β}(h:∀ x,f x=some (g x)):∀ x,Le (some (g x)) (f x):=fun x a e=>by rw [h,← e]
def WB {α:Type}[DecidableEq α] (a b:Option α):Option α:=if a=b then a else none
theorem Le.gag {α:Type}[DecidableEq α] {p q p' q':Option α}(h:Le p q) (k:Le p' q'):Le (WB p p') (yc q q'):=by
 intro r e
 unfold WB at e
 split at e
 ·rename_i c
  subst c
  rw [h r e,k r e]
  exact Zb _
 ·cases e
end Go.Px
