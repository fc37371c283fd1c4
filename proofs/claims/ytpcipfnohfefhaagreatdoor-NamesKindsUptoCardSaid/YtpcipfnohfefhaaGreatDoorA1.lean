/- Part A1: PxC1 PxC2 PxMV0 PxC3 PxC4 PxC5. -/
import Derived.WalkKit
import Derived.WalkSpells
import Derived.WalkLawsBesides
import Derived.OrdersHeld
import Derived.KernelRfl
import Derived.Laws.OwnMore
import Derived.MapKept
set_option linter.unusedVariables false
set_option linter.unusedSectionVars false
set_option linter.unusedSimpArgs false
namespace Go.Px
theorem Ui:∀{α:Sort _}(a b:α),(a≠b)=¬a=b:=@ne_eq
theorem Uh:∀{α:Type _}{xs:List α}{i j:Nat},(List.drop i xs)[j]? =xs[i + j]?:=@List.getElem?_drop
theorem Ug:∀ {α : Type _} {l : List α} {i j : Nat},i < j->(List.take j l)[i]? = l[i]?:=@List.getElem?_take_of_lt
theorem Uf:∀{n m:Nat},n.ble m=true->n<=m:=@Nat.le_of_ble_eq_true
theorem Ue:∀ (n:Nat),n + 0=n:=@Nat.add_zero
theorem Ud:∀ {α : Type _} {l₁ l₂ : List α} {i : Nat},i < l₁.length->(l₁++l₂)[i]? = l₁[i]?:=@List.getElem?_append_left
theorem Uc:∀{α:Type _}{l₁ l₂:List α}{i:Nat},l₁.length<=i->(l₁++l₂)[i]? =l₂[i - l₁.length]?:=@List.getElem?_append_right
theorem Ub:∀{α:Type _}(«as» bs cs:List α),«as»++bs++cs=«as»++(bs++cs):=@List.append_assoc
theorem Ua:∀{α:Type _}{b:α}{l:List α}{a:α},a∈b::l↔a=b\/a∈l:=@List.mem_cons
theorem GZ:∀ {x y : Nat},(x.blt y = true) = (x < y):=@Nat.blt_eq
theorem GY:∀ (n:Nat),0 + n=n:=@Nat.zero_add
theorem GX:∀ (P:Program) (w:World),Sem.run P program w=Result.ok P w:=@run_program
theorem GW:∀{α β:Type}(a:α) (w:World) (f:α->World->Result β),(Result.ok a w).andThen f=f a w:=@Result.andThen_ok
theorem GV:∀{α β:Type}(P:Program) (w:World) (x:Sem α) (f:α->Sem β),Sem.run P (x >>=f) w=(Sem.run P x w).andThen fun a w'=> Sem.run P (f a) w':=@Sem.run_bind
theorem GU:∀{P:Program}{t:TypeId}{d:TypeDesc},P.underlying t=some d->∀ (w:World),Sem.run P (underlying t) w=Result.ok d w:=@run_underlying
theorem GT:∀{α:Type}(P:Program) (w:World) (a:α),Sem.run P (pure a) w=Result.ok a w:=@Sem.run_pure
theorem GS:∀{α:Type _}{l:List α}{i:Nat}{a:α},l[i]? =some a->a∈l:=@List.mem_of_getElem?
theorem GR:∀ (n m k:Nat),(n + m) * k=n * k + m * k:=@Nat.add_mul
theorem GQ:∀{α:Type _}{i:Nat}{l:List α},(List.drop i l).length=l.length - i:=@List.length_drop
theorem GP:∀{α:Type _}{l:List α},l.length=0->l=[]:=@List.eq_nil_of_length_eq_zero
theorem GO:∀ (a b:Bool),((a || b)=true)=(a=true\/b=true):=@Bool.or_eq_true
theorem GN:∀{α:Type _}{x:Option α},x.isSome=true↔∃ a,x=some a:=@Option.isSome_iff_exists
theorem GM:∀{n m k:Nat},n<=m->m<=k->n<=k:=@Nat.le_trans
theorem GL:∀ (n:Nat),0<=n:=@Nat.zero_le
theorem GJ:∀ (n:Nat),n<=n:=@Nat.le_refl
theorem GI:∀ {α : Type _} {l : List α} {i : Nat} (h : i < l.length),l[i]? = some l[i]:=@List.getElem?_eq_getElem
theorem GH:∀ {α : Type _} {l : List α} {i j : Nat} {a : α},(l.set i a)[j]? = if i = j then if i < l.length then some a else none else l[j]?:=@List.getElem?_set
theorem GG:∀{α:Type _}{l₁ l₂:List α},(∀ (i:Nat),l₁[i]? =l₂[i]?)->l₁=l₂:=@List.ext_getElem?
theorem GF:∀ (p:Prop),(True/\p)=p:=@true_and
theorem GE:∀{α:Type _}{β:Type _}{f:α->β}{a:α}{l:List α},List.map f (a::l)=f a::List.map f l:=@List.map_cons
theorem GD:∀{α:Type _}{l:List α},l.Nodup↔List.Pairwise (fun x1 x2=> x1≠x2) l:=@List.nodup_iff_pairwise_ne
theorem GC:∀{α:Type _}{i:Nat}{a:α}{l:List α},l[i]? =some a↔∃ h,l[i]=a:=@List.getElem?_eq_some_iff
theorem GB:∀{α:Type _}{β:Type _}(a:α) (f:α->β),Option.map f (some a)=some (f a):=@Option.map_some
theorem GA:∀{α:Type _}{β:Type _}{f:α->β}{l:List α}{i:Nat},(List.map f l)[i]? =Option.map f l[i]?:=@List.getElem?_map
theorem G9:∀{α:Type _}{i:Nat}{b:α}{xs:Array α},xs[i]? =some b↔∃ h,xs[i]=b:=@Array.getElem?_eq_some_iff
theorem G8:∀{α:Sort _}(a b:α),(bif false then a else b)=b:=@cond_false
theorem G7:∀{α:Type _}{xs:Array α}{i:Nat}{d:α},xs.getD i d=xs[i]?.getD d:=@Array.getD_eq_getD_getElem?
theorem G6:∀{α:Type _}{«as»:List α}{i:Nat},«as».length<=i->List.drop i «as»=[]:=@List.drop_eq_nil_of_le
theorem G5:∀{α:Type _}{a:α}{s t:List α},a∈s++t↔a∈s\/a∈t:=@List.mem_append
abbrev G4(a:Int):=IntKind.i64.wrap a
abbrev G3:=@Option
abbrev G0:=ByteArray
theorem jf {α β:Type _}(a:α)(f:α->G3 β):(some a).bind f=f a:=rfl
theorem jg:(false=true)=False:=Bool.false_eq_true
theorem jh {p:Prop}[Decidable p]:(decide p=true)=p:=decide_eq_true_eq
theorem ji {α β γ:Type _}(f:α->γ)(g:β->γ)(a:β):Sum.elim f g (.inr a)=g a:=rfl
theorem jj {α β γ:Type _}(f:α->γ)(g:β->γ)(a:α):Sum.elim f g (.inl a)=f a:=rfl
theorem jk {α:Sort _}{_:Decidable False}(t e:α):ite False t e=e:=if_false t e
theorem jl {α:Sort _}{_:Decidable True}(t e:α):ite True t e=t:=if_true t e
theorem jm (h:Decidable False):decide False=false:=decide_false h
theorem jo (h:Decidable True):decide True=true:=decide_true h
theorem jp:(¬True)=False:=not_true_eq_false
theorem jq:(¬False)=True:=not_false_eq_true
theorem jr {c:Prop}{h:Decidable c}(hc:c){α:Sort _}{t e:α}:ite c t e=t:=if_pos hc
theorem js {c:Prop}{h:Decidable c}(hc:¬c){α:Sort _}{t e:α}:ite c t e=e:=if_neg hc
theorem jt {α:Type _}{as bs:List α}:(as++bs).length=as.length+bs.length:=List.length_append
theorem ju {α:Type _}{a:α}{as:List α}:(a::as).length=as.length+1:=rfl
theorem jv {α:Type _}{a:α}:[a].length=1:=rfl
theorem jx {α:Type _}{l:List α}{n:Nat}(h:n<l.length):l[n]∈l:=List.getElem_mem h
theorem jy {α β:Type _}{o:G3 α}{f:α->G3 β}{b:β}(h:o.bind f=some b):∃ a,o=some a/\f a=some b:=Option.bind_eq_some_iff.1 h
theorem jz {a b:Nat}(h:Nat.beq a b=true):a=b:=Nat.eq_of_beq_eq_true h
theorem g9 (a b:Bool):((a&&b)=true)=(a=true/\b=true):=Bool.and_eq_true a b
theorem ga {α β γ:Type _}(x:G3 α)(f:α->G3 β)(g:β->G3 γ):(x.bind f).bind g=x.bind fun y=>(f y).bind g:=Option.bind_assoc x f g
theorem gc {p:Prop}[Decidable p](h:p):decide p=true:=decide_eq_true h
abbrev FS:=Nat->Nat->G3 Value
def FS.le (Z τ:FS):Prop:=∀ b o v,Z b o=some v->τ b o=some v
theorem FS.le.refl (Z:FS):Z.le Z:=fun _ _ _ h=>h
theorem FS.le.trans {a b c:FS}(h:a.le b) (k:b.le c):a.le c:=fun x o v e=>k x o v (h x o v e)
def FS.cell (Z:FS) (a:Addr):G3 Value:=if a.spot.isSome then none else Z a.block a.off
theorem FS.le.cell {Z τ:FS}(h:Z.le τ) {a:Addr}{v:Value}(hc:Z.cell a=some v):τ.cell a=some v:=by
 unfold FS.cell at *
 split at hc
 ·cases hc
 ·rename_i hs;rw [js hs];exact h _ _ _ hc
def FS.sub (Z:FS) (w:World):Prop:=∀ b o v,Z b o=some v->w.cell? ⟨b,o,none⟩=some v
theorem FS.sub.cell {Z:FS}{w:World}(h:Z.sub w) {a:Addr}{v:Value}(hc:Z.cell a=some v):w.cell? a=some v:=by
 unfold FS.cell at hc;split at hc
 ·cases hc
 ·rename_i hs;have:=h _ _ _ hc;obtain ⟨b,o,sp⟩:=a;cases sp with
  |none=>exact this
  |some _=>simp at hs
theorem FS.le.sub {Z τ:FS}{w:World}(h:Z.le τ) (k:τ.sub w):Z.sub w:=fun b o v e=>k b o v (h b o v e)
def zb4:Value->Bool
 | .agg _=>true
 |_=>false
structure Ty (α:Type) where
 size:Nat
 agg:Bool
 rel:FS->List Value->α->Prop
 len:∀ {Z cs x},rel Z cs x->cs.length=size
 mono:∀ {Z τ:FS} {cs x},Z.le τ->rel Z cs x->rel τ cs x
 one:∀ {Z cs x},rel Z cs x->∀ u∈cs,u.oneCell'=true
 sz:agg=false->size=1
def Ty.vrel {α:Type}(T:Ty α) (Z:FS) (v:Value) (x:α):Prop:=T.rel Z v.cells.toList x/\zb4 v=T.agg
def Ty.rels {α:Type}(T:Ty α) (Z:FS):List Value->List α->Prop
 |cs,[]=>cs=[]
 |cs,x::xs=>∃ c d,cs=c++d/\T.rel Z c x/\T.rels Z d xs
section
variable {α:Type}{T:Ty α}{Z τ:FS}
theorem Ty.rels_mono (h:Z.le τ):∀ {xs:List α}{cs:List Value},T.rels Z cs xs->T.rels τ cs xs
 |[],_,r=>r
 |_::_,_,⟨c,d,e,r,s⟩=>⟨c,d,e,T.mono h r,Ty.rels_mono h s⟩
theorem Ty.rels_len:∀ {xs:List α}{cs:List Value},T.rels Z cs xs->cs.length=xs.length * T.size
 |[],_,r=>by simp [show _=[] from r]
 |x::xs,_,⟨c,d,e,r,s⟩=>by
  subst e;have h1:=T.len r;have h2:=Ty.rels_len s;grind
theorem Ty.rels_one:∀ {xs:List α}{cs:List Value},T.rels Z cs xs->∀ u∈cs,u.oneCell'=true
 |[],_,r=>by rw [show _=[] from r];simp
 |x::xs,_,⟨c,d,e,r,s⟩=>by
  subst e;intro u hu;rcases G5.1 hu with h | h
  ·exact T.one r u h
  ·exact Ty.rels_one s u h
theorem Ty.rels_append:∀ {xs:List α}{cs:List Value}{ys:List α}{ds:List Value},T.rels Z cs xs->T.rels Z ds ys->T.rels Z (cs++ds) (xs++ys)
 |[],_,_,_,r,s=>by rw [show _=[] from r];exact s
 |x::xs,_,_,_,⟨c,d,e,r,q⟩,s=>by subst e;exact ⟨c,_,by grind,r,Ty.rels_append q s⟩
theorem Ty.rels_get:∀ {xs:List α}{cs:List Value}(i:Nat) {x:α},T.rels Z cs xs->xs[i]?=some x->
    T.rel Z ((cs.drop (i * T.size)).take T.size) x
  |[],_,i,_,_,hx=>by simp at hx
  |y::xs,_,0,x,⟨c,d,e,r,s⟩,hx=>by
    simp at hx;subst hx;subst e;have:=T.len r;grind
  |y::xs,_,i+1,x,⟨c,d,e,r,s⟩,hx=>by
    subst e;have h1:=T.len r;have h2:=Ty.rels_get i s (by simpa using hx);rw [show (i+1) * T.size=c.length+i * T.size by grind,List.drop_append];simp only [Nat.add_sub_cancel_left];rw [G6 (by omega)];exact h2
theorem Ty.rels_drop:∀ {xs:List α}{cs:List Value}(i:Nat),T.rels Z cs xs->T.rels Z (cs.drop (i * T.size)) (xs.drop i)
 |xs,cs,0,r=>by simpa using r
 |[],cs,i+1,r=>by rw [show cs=[] from r];simp [Ty.rels]
 |x::xs,_,i+1,⟨c,d,e,r,s⟩=>by
  subst e;have h1:=T.len r;rw [show (i+1) * T.size=c.length+i * T.size by grind,List.drop_append];simp only [Nat.add_sub_cancel_left];rw [G6 (by omega)];exact Ty.rels_drop i s
theorem Ty.rels_take:∀ {xs:List α}{cs:List Value}(i:Nat),T.rels Z cs xs->T.rels Z (cs.take (i * T.size)) (xs.take i)
 |xs,cs,0,r=>by simp [Ty.rels]
 |[],cs,i+1,r=>by rw [show cs=[] from r];simp [Ty.rels]
 |x::xs,_,i+1,⟨c,d,e,r,s⟩=>by
  subst e;have h1:=T.len r;refine ⟨c,d.take (i * T.size),?_,r,Ty.rels_take i s⟩;rw [show (i+1) * T.size=c.length+i * T.size by grind,List.take_append];grind
end
structure Sl (α:Type) where
 xs:List α
 nn:Bool
 deriving Inhabited
def Sl.nil {α:Type}:Sl α:=⟨[],false⟩
def Sl.len {α:Type}(s:Sl α):Int:=(s.xs.length:Int)
def zxk (k:IntKind):Ty Int where
 size:=1
 agg:=false
 rel _ cs x:=cs=[.int k x]
 len h:=by simp [h]
 mono _ h:=h
 one h:=by simp [h,Value.oneCell']
 sz _:=rfl
def zwt:Ty Bool where
 size:=1
 agg:=false
 rel _ cs x:=cs=[.bool x]
 len h:=by simp [h]
 mono _ h:=h
 one h:=by simp [h,Value.oneCell']
 sz _:=rfl
def zlD:Ty ByteArray where
 size:=1
 agg:=false
 rel _ cs x:=cs=[.string x]
 len h:=by simp [h]
 mono _ h:=h
 one h:=by simp [h,Value.oneCell']
 sz _:=rfl
def zwu:Ty Unit where
 size:=0
 agg:=true
 rel _ cs _:=cs=[]
 len h:=by simp [h]
 mono _ h:=h
 one h:=by simp [h]
 sz h:=by simp at h
def slAt {α:Type}(T:Ty α) (Z:FS) (a:G3 Addr) (n c:Nat) (s:Sl α):Prop:=
 n=s.xs.length/\a.isSome=s.nn/\n<=c/\c<=maxLen/\(a=none->n=0/\c=0)/\
 ∃ cells,T.rels Z cells s.xs/\∀ j u,cells[j]?=some u->∃ ad,a=some ad/\Z.cell (ad.add j)=some u
def tSl {α:Type}(T:Ty α):Ty (Sl α) where
 size:=1
 agg:=false
 rel Z cs s:=∃ a n c,cs=[.slice a n c]/\slAt T Z a n c s
 len:=by grind
 mono:=by
  rintro Z τ cs s h ⟨a,n,c,rfl,h1,h2,h3,h4,h5,cells,h6,h7⟩;refine ⟨a,n,c,rfl,h1,h2,h3,h4,h5,cells,T.rels_mono h h6,fun j u hu=>?_⟩;obtain ⟨ad,ha,hc⟩:=h7 j u hu;exact ⟨ad,ha,h.cell hc⟩
 one:=by rintro Z cs s ⟨a,n,c,rfl,_⟩;simp [Value.oneCell']
 sz _:=rfl
def zaK {α β:Type}(A:Ty α) (B:Ty β):Ty (α×β) where
 size:=A.size+B.size
 agg:=true
 rel Z cs x:=∃ c d,cs=c++d/\A.rel Z c x.1/\B.rel Z d x.2
 len:=by rintro Z cs x ⟨c,d,rfl,h,k⟩;simp [A.len h,B.len k]
 mono:=by rintro Z τ cs x h ⟨c,d,rfl,p,q⟩;exact ⟨c,d,rfl,A.mono h p,B.mono h q⟩
 one:=by
  rintro Z cs x ⟨c,d,rfl,h,k⟩ u hu;rcases G5.1 hu with m | m
  ·exact A.one h u m
  ·exact B.one k u m
 sz h:=by simp at h
def Ty.comap {α β:Type}(T:Ty α) (f:β->α):Ty β where
 size:=T.size
 agg:=T.agg
 rel Z cs x:=T.rel Z cs (f x)
 len h:=T.len h
 mono h r:=T.mono h r
 one r:=T.one r
 sz h:=T.sz h
def Ty.aggr {α:Type}(T:Ty α):Ty α where
 size:=T.size
 agg:=true
 rel Z cs x:=T.rel Z cs x
 len h:=T.len h
 mono h r:=T.mono h r
 one r:=T.one r
 sz h:=by simp at h
section
variable {Z:FS}{v:Value}
theorem zof {x:ByteArray}:zlD.vrel Z v x↔v = .string x:=by
 cases v <;> simp [Ty.vrel,zlD,Value.cells,zb4]
theorem Yv {α:Type}{T:Ty α}{s:Sl α}:(tSl T).vrel Z v s↔∃ a n c,v = .slice a n c/\slAt T Z a n c s:=by
 cases v <;> simp [Ty.vrel,tSl,Value.cells,zb4]
def yu (agg:Bool) (cs:List Value):Value:=bif agg then .agg cs.toArray else cs.headD default
end
def look (L:List (Nat×Value)) (b:Nat->Value) (i:Nat):Value:=
 match L with
 |[]=>b i
 |(j,v)::r=>bif Nat.beq i j then v else look r b i
def opv (L:List (Nat×Value)) (b:Nat->Value):Operand->Value
 | .tmp t=>look L b t
 | .const v=>v
 | .global g =>.pointer (some ⟨g,0,none⟩)
 | .func f =>.func (.func f) #[] #[]
class Dfr where
 l:List Deferred
instance dfr0:Dfr:=⟨[]⟩
variable [Dfr]
structure Fits (n:Nat) (L:List (Nat×Value)) (b:Nat->Value) (a:Act):Prop where
 defers:a.defers=Dfr.l
 size:a.tmps.size=n
 get:∀ i,a.tmps.getD i undef=look L b i
theorem Fits.eval {n L b a} (h:Fits n L b a):a.eval=opv L b:=by
 funext x;cases x <;> simp [Act.eval,opv,h.get]
theorem Fits.put {n L b a} (h:Fits n L b a) {d:Nat}(hd:d < n) (v:Value):Fits n ((d,v)::L) b (a.put (some d) v):=by
 refine ⟨h.defers,by simp [Act.put,h.size],fun i=>?_⟩;have hg:=h.get i;have hs:=h.size;simp only [Act.put,look,G7,Array.getElem?_setIfInBounds] at hg |-
 by_cases e:d=i
 ·subst e;simp [hs,hd]
 ·have:Nat.beq i d=false:=by
   cases hb:Nat.beq i d with
   |false=>rfl
   |true=>exact absurd (jz hb).symm e
  grind
def zhs (L:List (Nat×Value)) (b:Nat->Value):List (Nat×Value)->Prop
 |[]=>True
 |(i,v)::r=>look L b i=v/\zhs L b r
omit [Dfr] in
theorem zhs.look {L b}:∀ {M},zhs L b M->∀ i,look M (Px.look L b) i=Px.look L b i
 |[],_,i=>rfl
 |(j,v)::r,⟨h,k⟩,i=>by
  simp only [Px.look];cases e:Nat.beq i j with
  |true=>have:=jz e;grind
  |false=>simp only [G8];exact zhs.look k i
def zd2 (ops:Array Oper) (L:List (Nat×Value)) (b:Nat->Value) (j:Nat):G3 Bool:=
 match (ops[j]?).bind (·.dst) with
 |some d=>match look L b d with
  | .bool c=>some c
  |_=>none
 |none=>none
theorem Fits.yielded {n L b a} (h:Fits n L b a) (ops:Array Oper):Go.yielded ops a.tmps=zd2 ops L b:=by
 funext j;unfold Go.yielded zd2;cases e:(ops[j]?).bind (·.dst) with
 |none=>simp
 |some d=>
  have hg:=h.get d;rw [G7] at hg;simp only [jf];cases e2:a.tmps[d]? with
  |none=>rw [e2] at hg;simp only [Option.getD_none] at hg;rw [<- hg];rfl
  |some v=>grind
inductive Bit where
 |cell (v:Value)
 |shape (e:TypeId) (n:Nat)
 |obj (o:Obj)
abbrev zc:=Nat->Nat->G3 Bit
def Y4:Obj->Bool
 | .cells .. =>true
 |_=>false
def Bit.at (w:World) (b k:Nat):Bit->Prop
 | .cell v=>∃ c e o,w.heap[b]?=some (.cells c e (0,0))/\k=o+1/\c[o]?=some v
 | .shape e n=>∃ c,w.heap[b]?=some (.cells c e (0,0))/\k=0/\c.size=n
 | .obj x=>w.heap[b]?=some x/\k=0/\Y4 x=false
def zc.none:zc:=fun _ _=>Option.none
def zc.sub (h:zc) (w:World):Prop:=∀ b k x,h b k=some x->x.at w b k
def zc.le (h g:zc):Prop:=∀ b k x,h b k=some x->g b k=some x
def zc.disj (h g:zc):Prop:=∀ b k,h b k=Option.none\/g b k=Option.none
def zc.or (h g:zc):zc:=fun b k=>(h b k).or (g b k)
omit [Dfr] in
theorem zc.le.refl (h:zc):h.le h:=fun _ _ _ e=>e
omit [Dfr] in
theorem zc.le.trans {a b c:zc}(h:a.le b) (k:b.le c):a.le c:=fun x y z e=>k x y z (h x y z e)
omit [Dfr] in
theorem zc.none_le (h:zc):zc.none.le h:=fun _ _ _ e=>by cases e
omit [Dfr] in
theorem zc.disj.symm {h g:zc}(k:h.disj g):g.disj h:=fun b i=>(k b i).symm
omit [Dfr] in
theorem zc.disj.mono {a b c d:zc}(k:a.disj b) (h1:c.le a) (h2:d.le b):c.disj d:=fun x y=>by
 rcases k x y with e | e
 ·left;cases h:c x y with
  |none=>rfl
  |some v=>rw [h1 x y v h] at e;cases e
 ·right;cases h:d x y with
  |none=>rfl
  |some v=>rw [h2 x y v h] at e;cases e
omit [Dfr] in
theorem zc.none_disj (h:zc):zc.none.disj h:=fun _ _ =>.inl rfl
theorem zc.disj_none (h:zc):h.disj zc.none:=fun _ _ =>.inr rfl
theorem zc.le_or (h g:zc):h.le (h.or g):=fun b k x e=>by simp [zc.or,e]
theorem zc.le_or_right {h g:zc}(d:h.disj g):g.le (h.or g):=fun b k x e=>by
 rcases d b k with e' | e'
 ·simp [zc.or,e,e']
 grind
theorem zc.or_le {h g a:zc}(k1:h.le a) (k2:g.le a):(h.or g).le a:=fun b k x e=>by
 unfold zc.or at e;cases h1:h b k with
 |some y=>rw [h1] at e;simp at e;subst e;exact k1 _ _ _ h1
 |none=>rw [h1] at e;simp at e;exact k2 _ _ _ e
theorem zc.or_disj {h g a:zc}(k1:h.disj a) (k2:g.disj a):(h.or g).disj a:=fun b k=>by
 rcases k1 b k with e | e
 ·rcases k2 b k with e' | e'
  ·left;simp [zc.or,e,e']
  grind
 grind
omit [Dfr] in
theorem zc.sub.mono {h g:zc}{w:World}(k:g.sub w) (l:h.le g):h.sub w:=fun b i x e=>k b i x (l b i x e)
theorem zc.or_sub {h g:zc}{w:World}(k1:h.sub w) (k2:g.sub w):(h.or g).sub w:=fun b k x e=>by
 unfold zc.or at e;cases h1:h b k with
 |some y=>rw [h1] at e;simp at e;subst e;exact k1 _ _ _ h1
 |none=>rw [h1] at e;simp at e;exact k2 _ _ _ e
theorem Bit.at_lt {w:World}{b k:Nat}{x:Bit}(h:x.at w b k):b < w.heap.size:=by
 cases x with
 |cell v=>obtain ⟨c,e,o,h,_⟩:=h;grind
 |shape e n=>obtain ⟨c,h,_⟩:=h;grind
 |obj o=>exact (G9.1 h.1).1
structure Priv where
 holds:FS->zc->Prop
 mono:∀ {Z τ:FS} {h g:zc},Z.le τ->h.le g->holds Z h->holds τ g
def Sep (Z:FS) (PV:List Priv) (h:zc):Prop:=
 ∃ hs:Nat->zc,(∀ (i:Nat) (p:Priv),PV[i]?=some p->p.holds Z (hs i))/\(∀ i j,i≠j->(hs i).disj (hs j))/\∀ i,(hs i).le h
omit [Dfr] in
theorem Sep.mono {Z τ:FS}{PV:List Priv}{h g:zc}(k:Sep Z PV h) (l:Z.le τ) (m:h.le g):Sep τ PV g:=by
 obtain ⟨hs,h1,h2,h3⟩:=k;exact ⟨hs,fun i p hp=>p.mono l (.refl _) (h1 i p hp),h2,fun i=>(h3 i).trans m⟩
omit [Dfr] in
theorem Sep.nil {Z:FS}{h:zc}:Sep Z [] h:=⟨fun _=>zc.none,fun i p hp=>by simp at hp,fun _ _ _=>zc.none_disj _,fun _=>zc.none_le _⟩
theorem Sep.cons {Z:FS}{p:Priv}{PV:List Priv}{h1 h2 h:zc}(hp:p.holds Z h1) (hs:Sep Z PV h2) (l1:h1.le h) (l2:h2.le h) (d:h1.disj h2):Sep Z (p::PV) h:=by
 obtain ⟨hs,k1,k2,k3⟩:=hs;refine ⟨fun i=>match i with | 0=>h1 | i+1=>hs i,fun i q hq=>?_,fun i j hij=>?_,fun i=>?_⟩
 ·grind
 ·cases i with
  |zero=>cases j with
   |zero=>grind
   |succ j=>exact d.mono (.refl _) (k3 j)
  |succ i=>cases j with
   |zero=>exact (d.mono (.refl _) (k3 i)).symm
   |succ j=>grind
 ·cases i with
  |zero=>exact l1
  |succ i=>exact (k3 i).trans l2
omit [Dfr] in
theorem Sep.one {Z:FS}{p:Priv}{h:zc}(hp:p.holds Z h):Sep Z [p] h :=.cons hp .nil (.refl _) (zc.none_le _) (zc.disj_none _)
theorem Sep.uncons {Z:FS}{p:Priv}{PV:List Priv}{h:zc}(k:Sep Z (p::PV) h):∃ h1 h2,p.holds Z h1/\Sep Z PV h2/\h1.le h/\h2.le h/\h1.disj h2:=by
 obtain ⟨hs,k1,k2,k3⟩:=k
 classical
 refine ⟨hs 0,fun b k=>if ∃ i x,hs (i+1) b k=some x then h b k else none,k1 0 p rfl,⟨fun i=>hs (i+1),fun i q hq=>k1 (i+1) q (by simpa using hq),fun i j e=>k2 _ _ (fun e'=>e (by omega)),fun i b k x e=>?_⟩,k3 0,fun b k x e=>?_,fun b k=>?_⟩
 ·have:∃ i x,hs (i+1) b k=some x:=⟨i,x,e⟩
  simp only [this,jl];exact k3 _ _ _ _ e
 ·by_cases hc:∃ i x,hs (i+1) b k=some x
  all_goals grind
 ·by_cases hc:∃ i x,hs (i+1) b k=some x
  ·obtain ⟨i,x,e⟩:=hc;left;rcases k2 0 (i+1) (by omega) b k with e' | e'
   all_goals grind
  grind
omit [Dfr] in
theorem Sep.one_of {Z:FS}{p:Priv}{h:zc}(k:Sep Z [p] h):p.holds Z h:=by
 obtain ⟨h1,h2,k1,_,l,_⟩:=k.uncons;exact p.mono (.refl _) l k1
theorem Sep.select {Z:FS}{PV PV':List Priv}{h:zc}(k:Sep Z PV h) (idx:List Nat) (hn:idx.Nodup) (hg:idx.map (fun i=>PV[i]?)=PV'.map some):Sep Z PV' h:=by
 obtain ⟨hs,k1,k2,k3⟩:=k;have hget:∀ (k:Nat) (q:Priv),PV'[k]?=some q->∃ m,idx[k]?=some m/\PV[m]?=some q:=by
  intro k q hq;have:=congrArg (fun l=>l[k]?) hg;simp only [GA,hq,GB] at this;cases hk:idx[k]? with
  |none=>grind
  |some m=>grind
 refine ⟨fun k=>match idx[k]? with | some m=>hs m | none=>zc.none,fun i q hq=>?_,fun i j hij=>?_,fun i=>?_⟩
 ·grind
 ·show zc.disj (match idx[i]? with | some m=>hs m | none=>zc.none) (match idx[j]? with | some m=>hs m | none=>zc.none);cases h1:idx[i]? with
  |none=>exact zc.none_disj _
  |some m=>cases h2:idx[j]? with
   |none=>exact zc.disj_none _
   |some m'=>
    refine k2 m m' fun e=>?_
    subst e;obtain ⟨h3,h4⟩:=GC.1 h1;obtain ⟨h5,h6⟩:=GC.1 h2;have hp:=List.pairwise_iff_getElem.1 (GD.1 hn);rcases Nat.lt_or_gt_of_ne hij with hlt | hlt
    all_goals grind
 ·show zc.le (match idx[i]? with | some m=>hs m | none=>zc.none) h;cases idx[i]? with
  |none=>exact zc.none_le _
  |some m=>exact k3 m
omit [Dfr] in
theorem Sep.append {Z:FS}:∀ {A B:List Priv}{h1 h2 h:zc},Sep Z A h1->Sep Z B h2->h1.le h->h2.le h->h1.disj h2->Sep Z (A++B) h
 |[],_,_,_,_,_,k,_,l,_=>k.mono (.refl _) l
 |a::A,_,_,_,_,k1,k2,l1,l2,d=>by
  obtain ⟨g1,g2,e1,e2,e3,e4,e5⟩:=k1.uncons;refine .cons (h2:=g2.or _) e1 (Sep.append e2 k2 (zc.le_or _ _) (zc.le_or_right (d.mono e4 (.refl _))) (d.mono e4 (.refl _))) (e3.trans l1) (zc.or_le (e4.trans l1) l2) ?_;exact (zc.or_disj e5.symm (d.mono e3 (.refl _)).symm).symm
omit [Dfr] in
theorem Sep.split {Z:FS}:∀ {A B:List Priv}{h:zc},Sep Z (A++B) h->∃ h1 h2,Sep Z A h1/\Sep Z B h2/\h1.le h/\h2.le h/\h1.disj h2
 |[],_,h,k=>⟨zc.none,h,.nil,k,zc.none_le _,.refl _,zc.none_disj _⟩
 |a::A,B,h,k=>by
  obtain ⟨g1,g2,e1,e2,e3,e4,e5⟩:=Sep.uncons (PV:=A++B) k;obtain ⟨h1,h2,k1,k2,k3,k4,k5⟩:=Sep.split e2;have hd:g1.disj h1:=e5.mono (.refl _) k3;exact ⟨g1.or h1,h2,.cons e1 k1 (zc.le_or _ _) (zc.le_or_right hd) hd,k2,zc.or_le e3 (k3.trans e4),k4.trans e4,zc.or_disj (e5.mono (.refl _) k4) k5⟩
omit [Dfr] in
theorem Sep.pick {Z:FS}{PV:List Priv}{h:zc}(k:Sep Z PV h) {m:Nat}{p:Priv}(hm:PV[m]?=some p) :
    ∃ h1 h2,p.holds Z h1/\h1.le h/\h2.le h/\h1.disj h2/\Sep Z (PV.eraseIdx m) h2/\∀ p' h1' g,p'.holds Z h1'->h1'.le g->h2.le g->h1'.disj h2->Sep Z (PV.set m p') g:=by
  have hml:m < PV.length:=(GC.1 hm).1;have hsel:Sep Z (p::PV.eraseIdx m) h:=by
    refine k.select (m::(List.range PV.length).eraseIdx m) ?_ ?_
    ·refine List.nodup_cons.2 ⟨fun hx=>?_,List.Nodup.sublist (List.eraseIdx_sublist _ _) List.nodup_range⟩;obtain ⟨i,hi,hne,e⟩:=List.mem_eraseIdx_iff_getElem.1 hx;grind
    · simp only [GE,hm,List.cons.injEq,GF];apply GG;intro i;simp only [GA,List.getElem?_eraseIdx];split
      ·rename_i hlt;grind
      · by_cases hl:i+1 < PV.length
        ·grind
        grind
  obtain ⟨h1,h2,e1,e2,e3,e4,e5⟩:=hsel.uncons;refine ⟨h1,h2,e1,e3,e4,e5,e2,fun p' h1' g q1 q2 q3 q4=>?_⟩;have hnew:Sep Z (p'::PV.eraseIdx m) g :=.cons q1 e2 q2 q3 q4;refine hnew.select ((List.range PV.length).map fun i=>if i < m then i+1 else if i=m then 0 else i) ?_ ?_
  ·rw [GD,List.pairwise_map];refine List.Pairwise.imp ?_ List.pairwise_lt_range;grind
  · apply GG;intro i;simp only [GA,GH];by_cases hl:i < PV.length
    · rw [GI (by simpa using hl)];simp only [List.getElem_range,GB];by_cases h1:i < m
      ·grind
      · by_cases h2:i=m
        ·grind
        · rw [js h1,js h2,js (fun e=>h2 e.symm)];obtain ⟨j,rfl⟩:∃ j,i=j+1:=⟨i - 1,by omega⟩
          grind
    grind
structure Start where
 w:World
 h:zc
def zlE (w0:World) (h0:zc) (w:World) (b:Nat):Prop:=
 (∀ c e f,w0.heap[b]?=some (.cells c e f)->∃ c' f',w.heap[b]?=some (.cells c' e f')/\c'.size=c.size/\(∀ o,h0 b (o+1)=none->c'[o]?=c[o]?)/\(f'=f\/∀ i,i<=c.size->(h0 b i).isSome))/\
 (∀ x,w0.heap[b]?=some x->Y4 x=false->∃ y,w.heap[b]?=some y/\Y4 y=false/\(h0 b 0=none->y=x))
structure Ext (w0:World) (h0:zc) (w:World):Prop where
 os:w.os=w0.os
 output:w.output=w0.output
 tape:w.tape=w0.tape
 size:w0.heap.size<=w.heap.size
 old:∀ b,zlE w0 h0 w b
 fz:∀ a:Addr,a.block < w0.heap.size->h0 a.block 0=none->w.frozen? a=w0.frozen? a
omit [Dfr] in
theorem zlE.same {w0 w:World}{h0:zc}{b:Nat}(h:b < w0.heap.size->w.heap[b]?=w0.heap[b]?):zlE w0 h0 w b:=by
 refine ⟨fun c e f hc=>?_,fun x hx hn=>?_⟩
 ·grind
 grind
omit [Dfr] in
theorem Ext.refl (w:World) (h:zc):Ext w h w:=⟨rfl,rfl,rfl,GJ _,fun _ =>.same fun _=>rfl,fun _ _ _=>rfl⟩
theorem Ext.old_eq {w0 w:World}(h:Ext w0 zc.none w) {b:Nat}(hb:b < w0.heap.size):w.heap[b]?=w0.heap[b]?:=by
 have h1:=Array.getElem?_eq_getElem hb;rw [h1];cases hx:w0.heap[b] with
 |cells c e f=>
  obtain ⟨c',f',e1,e2,e3,e4⟩:=(h.old b).1 c e f (by rw [h1,hx]);have:c'=c:=by
   apply Array.ext_getElem?;intro o;exact e3 o rfl
  have hf:f'=f:=by
   rcases e4 with e4 | e4
   ·exact e4
   ·have:=e4 0 (GL _);cases this
  grind
 |_=>
  obtain ⟨y,e1,_,e3⟩:=(h.old b).2 _ (by rw [h1,hx]) rfl;rw [e1,e3 rfl]
omit [Dfr] in
theorem Ext.trans {w0 w w':World}{h0 h1:zc}(h:Ext w0 h0 w) (k:Ext w h1 w') (hd:∀ b i,b < w0.heap.size->(h1 b i).isSome->(h0 b i).isSome):Ext w0 h0 w':=by
  refine ⟨k.os.trans h.os,k.output.trans h.output,k.tape.trans h.tape,GM h.size k.size,fun b=>⟨fun c e f hc=>?_,fun x hx hn=>?_⟩,fun a ha h0n=>(k.fz a (Nat.lt_of_lt_of_le ha h.size) (by
      cases hh:h1 a.block 0 with
      |none=>rfl
      |some x=>grind)).trans (h.fz a ha h0n)⟩
  · have hb:=(G9.1 hc).1;obtain ⟨c1,fa,e1,e2,e3,e4⟩:=(h.old b).1 c e f hc;obtain ⟨c2,fb,f1,f2,f3,f4⟩:=(k.old b).1 c1 e fa e1;refine ⟨c2,fb,f1,f2.trans e2,fun o ho=>(f3 o ?_).trans (e3 o ho),?_⟩
    · cases hh:h1 b (o+1) with
      |none=>rfl
      |some x=>grind
    grind
  · have hb:=(G9.1 hx).1;obtain ⟨y,e1,e2,e3⟩:=(h.old b).2 x hx hn;obtain ⟨z,f1,f2,f3⟩:=(k.old b).2 y e1 e2;refine ⟨z,f1,f2,fun ho=>?_⟩
    rw [f3 (by
      cases hh:h1 b 0 with
      |none=>rfl
      |some x=>grind),e3 ho]
omit [Dfr] in
theorem Ext.mono {w w':World}{h g:zc}(k:Ext w h w') (l:h.le g):Ext w g w':=by
 have hn:∀ b i,g b i=none->h b i=none:=fun b i hg=>by
  cases hx:h b i with
  |none=>rfl
  |some y=>rw [l _ _ _ hx] at hg;cases hg
 refine ⟨k.os,k.output,k.tape,k.size,fun b=>⟨fun c e f hc=>?_,fun x hx hi=>?_⟩,fun a ha h0=>k.fz a ha (hn _ _ h0)⟩
 ·obtain ⟨c',f',k1,k2,k3,k4⟩:=(k.old b).1 c e f hc
  exact ⟨c',f',k1,k2,fun o ho=>k3 o (hn _ _ ho),k4.imp id fun k4 i hi=>by
   obtain ⟨x,hx⟩:=GN.1 (k4 i hi)
   rw [l _ _ _ hx];rfl⟩
 ·obtain ⟨y,k1,k2,k3⟩:=(k.old b).2 x hx hi;grind
theorem Ext.frag {w w':World}{h g:zc}(k:Ext w h w') (hd:h.disj g) (hs:g.sub w):g.sub w':=by
 intro b i x hx;have hn:h b i=none:=by
  rcases hd b i with e | e
  all_goals grind
 cases x with
 |cell v=>
  obtain ⟨c,e,o,h1,rfl,h3⟩:=hs b i _ hx;obtain ⟨c',f',e1,e2,e3,e4⟩:=(k.old b).1 c e _ h1;have hf:f'=(0,0):=by
   rcases e4 with e4 | e4
   ·exact e4
   grind
  subst hf;exact ⟨c',e,o,e1,rfl,by grind⟩
 |shape e n=>
  obtain ⟨c,h1,rfl,h3⟩:=hs b i _ hx;obtain ⟨c',f',e1,e2,e3,e4⟩:=(k.old b).1 c e _ h1;have hf:f'=(0,0):=by
   grind
  subst hf;exact ⟨c',e1,rfl,e2.trans h3⟩
 |obj o=>
  obtain ⟨h1,rfl,h3⟩:=hs b i _ hx;obtain ⟨y,e1,e2,e3⟩:=(k.old b).2 o h1 h3;exact ⟨by rw [e1,e3 hn],rfl,h3⟩
theorem Ext.held {w w':World}{h:zc}{Z:FS}(k:Ext w h w') (hd:∀ b o,(h b (o+1)).isSome->Z b o=none) (hs:Z.sub w):Z.sub w':=by
 intro b o v hv;have hn:h b (o+1)=none:=by
  cases e:h b (o+1) with
  |none=>rfl
  |some x=>grind
 have:=hs b o v hv;unfold World.cell? at this |-
 simp only [Option.isSome_none,jg,jk] at this |-
 cases hb:w.heap[b]? with
 |none=>grind
 |some x=>
  rw [hb] at this;cases x with
  |cells c e f=>
   obtain ⟨c',f',e1,e2,e3,_⟩:=(k.old b).1 c e f hb;grind
  |_=>cases this
structure Good (w0:Start) (Z:FS) (w:World) (h:zc):Prop where
 sub:h.sub w
 apart:∀ b o,(h b (o+1)).isSome->Z b o=none
 mine:∀ b k,(h b k).isSome->w0.w.heap.size<=b\/(w0.h b k).isSome
omit [Dfr] in
theorem zc.le.isSome {h g:zc}(l:h.le g) {b k:Nat}(e:(h b k).isSome):(g b k).isSome:=by
 obtain ⟨x,hx⟩:=GN.1 e;rw [l b k x hx];rfl
omit [Dfr] in
theorem Good.mono {w0:Start}{Z:FS}{w:World}{h g:zc}(k:Good w0 Z w g) (l:h.le g):Good w0 Z w h:=
 ⟨k.sub.mono l,fun b o e=>k.apart b o (l.isSome e),fun b i e=>k.mine b i (l.isSome e)⟩
structure Inv (w0:Start) (σ0 Z:FS) (PV:List Priv) (w:World):Prop where
 sub:Z.sub w
 le:σ0.le Z
 fresh:∀ b o v,Z b o=some v->σ0 b o=some v\/w0.w.heap.size<=b\/(w0.h b (o+1)).isSome
 own:∃ h,Sep Z PV h/\Good w0 Z w h
 ext:Ext w0.w w0.h w
theorem Inv.start {w:World}{Z:FS}{h:zc}{PV:List Priv}(hs:Z.sub w) (hp:Sep Z PV h) (hg:h.sub w) (ha:∀ b o,(h b (o+1)).isSome->Z b o=none):Inv ⟨w,h⟩ Z Z PV w:=
 ⟨hs,.refl Z,fun _ _ _ h =>.inl h,⟨h,hp,hg,ha,fun _ _ e =>.inr e⟩,.refl w h⟩
theorem Inv.drew {w0:Start}{σ0 Z:FS}{PV:List Priv}{w:World}(h:Inv w0 σ0 Z PV w):Inv w0 σ0 Z PV {w with drawn:=w.drawn+1}:=
 ⟨h.sub,h.le,h.fresh,h.own.elim fun g k=>⟨g,k.1,fun b i x hx=>by have:=k.2.sub b i x hx;cases x <;> exact this,k.2.apart,k.2.mine⟩,⟨h.ext.os,h.ext.output,h.ext.tape,h.ext.size,h.ext.old,h.ext.fz⟩⟩
theorem Inv.sub_own {w0:Start}{σ0 Z:FS}{PV PV':List Priv}{w:World}(h:Inv w0 σ0 Z PV w) (k:∀ g,Sep Z PV g->Sep Z PV' g):Inv w0 σ0 Z PV' w:=
 ⟨h.sub,h.le,h.fresh,h.own.elim fun g q=>⟨g,k g q.1,q.2⟩,h.ext⟩
omit [Dfr] in
theorem Inv.lt {w0:Start}{σ0 Z:FS}{PV:List Priv}{w:World}(h:Inv w0 σ0 Z PV w) {b o:Nat}{v:Value}(hb:Z b o=some v):b < w.heap.size:=by
 have:=h.sub b o v hb;unfold World.cell? at this;simp only [Option.isSome_none,jg,jk] at this;grind
theorem Inv.change {w0:Start}{σ0 Z:FS}{PV:List Priv}{w w':World}(hi:Inv w0 σ0 Z PV w) {m:Nat}{p p':Priv}(hm:PV[m]?=some p)
    (k:∀ h1,p.holds Z h1->h1.sub w->∃ h1',p'.holds Z h1'/\h1'.sub w'/\Ext w h1 w'/\∀ b i,(h1' b i).isSome->(h1 b i).isSome\/w.heap.size<=b):Inv w0 σ0 Z (PV.set m p') w':=by
  obtain ⟨h,hs,hg⟩:=hi.own;obtain ⟨h1,h2,e1,e2,e3,e4,e5,e6⟩:=hs.pick hm;obtain ⟨h1',f1,f2,f3,f4⟩:=k h1 e1 (hg.sub.mono e2);have hd:h1'.disj h2:=by
    intro b i;cases hx:h1' b i with
    |none=>exact .inl rfl
    |some x=>
      right;rcases f4 b i (by simp [hx]) with q | q
      · rcases e4 b i with z | z
        all_goals grind
      · cases hy:h2 b i with
        |none=>rfl
        |some y=>have:=Bit.at_lt (hg.sub b i y (e3 b i y hy));omega
  have g1:=hg.mono e2;have hmine:∀ b i,b < w0.w.heap.size->(h1 b i).isSome->(w0.h b i).isSome:=fun b i hb hx=>by
    rcases g1.mine b i hx with q | q
    ·omega
    ·exact q
  refine ⟨f3.held g1.apart hi.sub,hi.le,hi.fresh,⟨h1'.or h2,e6 p' h1' _ f1 (zc.le_or _ _) (zc.le_or_right hd) hd,zc.or_sub f2 (f3.frag e4 (hg.sub.mono e3)),fun b o hx=>?_,fun b i hx=>?_⟩,hi.ext.trans f3 hmine⟩
  all_goals
    unfold zc.or at hx
  · cases hx1:h1' b (o+1) with
    |some y=>
      rcases f4 b (o+1) (by simp [hx1]) with q | q
      ·exact g1.apart b o q
      · cases hy:Z b o with
        |none=>rfl
        |some v=>have:=hi.lt hy;omega
    |none=>rw [hx1] at hx;exact (hg.mono e3).apart b o (by simpa using hx)
  · cases hx1:h1' b i with
    |some y=>
      rcases f4 b i (by simp [hx1]) with q | q
      ·grind
      ·exact .inl (GM hi.ext.size q)
    |none=>rw [hx1] at hx;exact (hg.mono e3).mine b i (by simpa using hx)
theorem Inv.cons {w0:Start}{σ0 Z:FS}{PV:List Priv}{w w':World}(hi:Inv w0 σ0 Z PV w) {p:Priv}{h1:zc}(hp:p.holds Z h1) (hs:h1.sub w') (hx:Ext w zc.none w') (hn:∀ b i,(h1 b i).isSome->w.heap.size<=b) :
    Inv w0 σ0 Z (p::PV) w':=by
  obtain ⟨h,hsep,hg⟩:=hi.own;have hd:h1.disj h:=fun b i=>by
    cases hx:h1 b i with
    |none=>exact .inl rfl
    |some x=>
      right;have:=hn b i (by simp [hx]);cases hy:h b i with
      |none=>rfl
      |some y=>have:=Bit.at_lt (hg.sub b i y hy);omega
  refine ⟨hx.held (fun b o e=>by cases e) hi.sub,hi.le,hi.fresh,⟨h1.or h,.cons hp hsep (zc.le_or _ _) (zc.le_or_right hd) hd,zc.or_sub hs (hx.frag (zc.none_disj _) hg.sub),fun b o e=>?_,fun b i e=>?_⟩,hi.ext.trans hx fun _ _ _ e=>by cases e⟩
  all_goals unfold zc.or at e
  · cases hx1:h1 b (o+1) with
    |some y=>
      have:=hn b (o+1) (by simp [hx1]);cases hy:Z b o with
      |none=>rfl
      |some v=>have:=hi.lt hy;omega
    |none=>rw [hx1] at e;exact hg.apart b o (by simpa using e)
  · cases hx1:h1 b i with
    |some y=>exact .inl (GM hi.ext.size (hn b i (by simp [hx1])))
    |none=>rw [hx1] at e;exact hg.mine b i (by simpa using e)
def FS.with (Z:FS) (h:zc):FS:=fun b o=>match h b (o+1) with | some (.cell v)=>some v | _=>Z b o
theorem Inv.freeze {w0:Start}{σ0 Z:FS}{PV:List Priv}{w:World}(hi:Inv w0 σ0 Z PV w) {m:Nat}{p:Priv}(hm:PV[m]?=some p) :
    ∃ (h1:zc),p.holds Z h1/\h1.sub w/\Z.le (Z.with h1)/\Inv w0 σ0 (Z.with h1) (PV.eraseIdx m) w:=by
  obtain ⟨h,hs,hg⟩:=hi.own;obtain ⟨h1,h2,e1,e2,e3,e4,e5,_⟩:=hs.pick hm;have g1:=hg.mono e2;have hle:Z.le (Z.with h1):=fun b o v hv=>by
    unfold FS.with;split
    ·rename_i x hx;rw [g1.apart b o (by simp [hx])] at hv;cases hv
    ·exact hv
  have hcase:∀ b o v,(Z.with h1) b o=some v->Z b o=some v\/h1 b (o+1)=some (.cell v):=fun b o v hv=>by
    unfold FS.with at hv;grind
  refine ⟨h1,e1,g1.sub,hle,⟨fun b o v hv=>?_,hi.le.trans hle,fun b o v hv=>?_,⟨h2,e5.mono hle (.refl _),hg.sub.mono e3,fun b o e=>?_,(hg.mono e3).mine⟩,hi.ext⟩⟩
  · rcases hcase b o v hv with q | q
    ·exact hi.sub b o v q
    · obtain ⟨c,e,o',k1,k2,k3⟩:=g1.sub b (o+1) _ q;obtain rfl:o=o':=by omega
      simp [World.cell?,k1,k3]
  · rcases hcase b o v hv with q | q
    ·exact hi.fresh b o v q
    ·exact .inr (g1.mine b (o+1) (by simp [q]))
  · cases hv:(Z.with h1) b o with
    |none=>rfl
    |some v=>
      rcases hcase b o v hv with q | q
      ·rw [(hg.mono e3).apart b o e] at q;cases q
      · rcases e4 b (o+1) with z | z
        all_goals grind
section
variable {ρ:Type}
def J (n:Nat) (w0:Start) (σ0:FS) (p:G3 ρ) (G:ρ->Act->World->Prop) (L:List (Nat×Value)) (b:Nat->Value) (Z:FS) (PV:List Priv):Prop:=
 ∀ r,p=some r->∀ a w,Inv w0 σ0 Z PV w->Fits n L b a->G r a w
variable {n:Nat}{w0:Start}{σ0 Z:FS}{p:G3 ρ}{G G':ρ->Act->World->Prop}{L:List (Nat×Value)}{b:Nat->Value}{PV PV':List Priv}
variable {P:Program}{Q:ρ->Exit->Act->World->Prop}
def zxl (n:Nat) (w0:Start) (σ0:FS) {γ:Type}(Tail:γ->Exit->List (Nat×Value)->FS->List Priv->Prop) (y:γ) (e:Exit) (a:Act) (w:World):Prop:=
 match e with
 | .panic _=>False
 | .outgrown=>False
 |e=>∃ L b Z PV,Tail y e L Z PV/\Fits n L b a/\Inv w0 σ0 Z PV w
theorem wn {p:Nat->Prop}(h:∃ m,p m):∃ m,p m/\∀ k,p k->m<=k:=by
 obtain ⟨m,hm⟩:=h
 induction m using Nat.strongRecOn with
 |_ m ih=>
  by_cases hx:∃ k,k < m/\p k
  ·grind
  grind
inductive Step (s β:Type) where
 |next (x:s)
 |done (y:β)
def Z2 {s β:Type}(f:s->G3 (Step s β)):Nat->s->G3 β
 |0,_=>none
 |k+1,x=>(f x).bind fun
  | .next x'=>Z2 f k x'
  | .done y=>some y
noncomputable def loopO {s β:Type}(f:s->G3 (Step s β)) (x:s):G3 β:=
 @dite _ (∃ k,(Z2 f k x).isSome) (Classical.propDecidable _) (fun h=>Z2 f h.choose x) (fun _=>none)
theorem zaL {s β:Type}{f:s->G3 (Step s β)}:∀ {k m:Nat}{x:s}{y:β},Z2 f k x=some y->k<=m->Z2 f m x=some y
 |0,_,_,_,h,_=>by simp [Z2] at h
 |k+1,0,_,_,_,hm=>by omega
 |k+1,m+1,x,y,h,hm=>by
  simp only [Z2] at h |-
  cases hf:f x with
  |none=>grind
  |some st=>
   rw [hf] at h;cases st with
   |next x'=>exact zaL (k:=k) h (by omega)
   |done y'=>exact h
theorem WG {s β:Type}{f:s->G3 (Step s β)}{x:s}{y:β}:loopO f x=some y↔∃ k,Z2 f k x=some y:=by
 unfold loopO;constructor
 ·intro h;split at h
  all_goals grind
 ·rintro ⟨k,hk⟩;have hex:∃ k,(Z2 f k x).isSome:=⟨k,by simp [hk]⟩
  rw [dif_pos hex];have hs:=hex.choose_spec;obtain ⟨z,hz⟩:=GN.1 hs;rw [hz];rcases Nat.le_total k hex.choose with h | h
  ·rw [zaL hk h] at hz;exact hz.symm
  ·rw [zaL hz h] at hk;exact hk
theorem zpU {s β:Type}(f:s->G3 (Step s β)) (x:s):loopO f x=(f x).bind fun
    | .next x'=>loopO f x'
    | .done y=>some y:=by
  apply Option.ext;intro y;rw [WG];cases hf:f x with
  |none=>
    simp only [Option.bind_none];constructor
    ·rintro ⟨k,hk⟩;cases k <;> simp [Z2,hf] at hk
    grind
  |some st=>
    cases st with
    |next x'=>
      simp only [jf];rw [WG];constructor
      · rintro ⟨k,hk⟩;cases k with
        |zero=>simp [Z2] at hk
        |succ k=>exact ⟨k,by simpa [Z2,hf] using hk⟩
      ·rintro ⟨k,hk⟩;exact ⟨k+1,by simpa [Z2,hf] using hk⟩
    |done y'=>
      simp only [jf];constructor
      · rintro ⟨k,hk⟩;cases k with
        |zero=>simp [Z2] at hk
        |succ k=>simpa [Z2,hf] using hk
      ·intro h;exact ⟨1,by simpa [Z2,hf] using h⟩
def zwv (n:Nat) (w0:Start) (σ0:FS) {s β:Type}(Head:s->List (Nat×Value)->FS->List Priv->Prop)
    (Tail:β->Exit->List (Nat×Value)->FS->List Priv->Prop) (st:Step s β) (e:Exit) (a:Act) (w:World):Prop:=
  match st,e with
  |_,.panic _=>False
  |_,.outgrown=>False
  | .next x,.normal=>∃ L b Z PV,Head x L Z PV/\Fits n L b a/\Inv w0 σ0 Z PV w
  | .next _,_=>False
  | .done _,.normal=>False
  | .done y,e=>∃ L b Z PV,Tail y e L Z PV/\Fits n L b a/\Inv w0 σ0 Z PV w
end
end Go.Px
namespace Go.Px
def Priv.mp (v:Value) (l:List (Value×Value)):Priv:=⟨fun _ h=>∃ r es clock,v = .map (some r)/\h r 0=some (.obj (.map es clock))/\es.toList.map (fun e=>(e.key,e.val))=l,fun _ hl ⟨r,es,c,h1,h2,h3⟩=>⟨r,es,c,h1,hl _ _ _ h2,h3⟩⟩
structure MKey (α:Type) where
 d:TypeDesc
 enc:α->Value
 key:∀ a,MapKept.IsKey d (enc a)
 inj:∀ a b,enc a=enc b->a=b
 bits:∀ a,Instr.sameBits 10000 (enc a) (enc a)=true
def MKey.str:MKey ByteArray:=⟨.string,.string,fun _=>trivial,fun _ _ e=>by cases e;rfl,fun a=>(MapKept.bytes_beq a a).2 rfl⟩
def MKey.i64:MKey Int:=⟨.int .i64,.int .i64,fun _=>by simp [MapKept.IsKey],fun _ _ e=>by cases e;rfl,fun a=>by simp [Instr.sameBits]⟩
section
variable {α:Type}[DecidableEq α]
def wo (k:α):List (α×Value)->G3 Value
 |[]=>none
 |(a,v)::l=>if a=k then some v else wo k l
def vG (k:α) (v:Value):List (α×Value)->List (α×Value)
 |[]=>[(k,v)]
 |(a,u)::l=>if a=k then (a,v)::l else (a,u)::vG k v l
def x6 (K:MKey α) (l:List (α×Value)):List (Value×Value):=l.map fun p=>(K.enc p.1,p.2)
theorem zaM (K:MKey α) (k:α):∀ (l:List MapEntry) (xs:List (α×Value)) (i:Nat),l.map (fun e=>(e.key,e.val))=x6 K xs->
    (wo k xs=none/\Instr.findNow K.d (K.enc k) l i=some none/\∀ u,vG k u xs=xs++[(k,u)])\/
    ∃ v j e,wo k xs=some v/\Instr.findNow K.d (K.enc k) l i=some (some (i+j,v))/\l[j]?=some e/\e.key=K.enc k/\∀ u,x6 K (vG k u xs)=(l.set j {e with val:=u}).map (fun e=>(e.key,e.val))
  |[],[],i,_ =>.inl ⟨rfl,rfl,fun _=>rfl⟩
  |[],_::_,_,h=>by simp [x6] at h
  |_::_,[],_,h=>by simp [x6] at h
  |e::l,(a,v)::xs,i,h=>by
    have h1:e.key=K.enc a/\e.val=v/\l.map (fun e=>(e.key,e.val))=x6 K xs:=by
      simp only [x6,GE,List.cons.injEq,Prod.mk.injEq] at h;exact ⟨h.1.1,h.1.2,h.2⟩
    obtain ⟨e1,e2,e3⟩:=h1;obtain ⟨r,hr,hiff⟩:=MapKept.sameNow_of_keys (K.key k) (K.key a);by_cases hk:a=k
    ·subst hk;have:r=true:=hiff.2 rfl;subst this;refine .inr ⟨v,0,e,by simp [wo],by simp [Instr.findNow,e1,hr,e2],rfl,e1,fun u=>?_⟩;simp [vG,x6,e1,e3]
    · have:r=false:=by
        cases r with
        |false=>rfl
        |true=>exact absurd (K.inj _ _ (hiff.1 rfl)).symm hk
      subst this;have hstep:∀ i,Instr.findNow K.d (K.enc k) (e::l) i=Instr.findNow K.d (K.enc k) l (i+1):=fun i=>by simp [Instr.findNow,e1,hr]
      rcases zaM K k l xs (i+1) e3 with ⟨f1,f2,f3⟩ | ⟨v',j,e',f1,f2,f3,f4,f5⟩
      ·exact .inl ⟨by simp [wo,hk,f1],by rw [hstep,f2],fun u=>by simp [vG,hk,f3]⟩
      · refine .inr ⟨v',j+1,e',by simp [wo,hk,f1],?_,by simpa using f3,f4,fun u=>?_⟩
        ·rw [hstep,f2];congr 3;omega
        · have:=f5 u;simp only [x6,vG,hk,jk,GE,List.set_cons_succ] at this |-
          rw [this,e1,e2]
end
section
variable {α:Type}[DecidableEq α]
def W3 (k:α):List (α×Int)->G3 Int
 |[]=>none
 |(a,v)::l=>if a=k then some v else W3 k l
def Zz (k:α) (l:List (α×Int)):Int:=(W3 k l).getD 0
def Zp (k:α) (v:Int):List (α×Int)->List (α×Int)
 |[]=>[(k,v)]
 |(a,u)::l=>if a=k then (a,v)::l else (a,u)::Zp k v l
def asV (l:List (α×Int)):List (α×Value):=l.map fun p=>(p.1,.int .i64 p.2)
theorem zgD (k:α):∀ l:List (α×Int),wo k (asV l)=(W3 k l).map (Value.int .i64)
 |[]=>rfl
 |(a,v)::l=>by
  show (if a=k then some (Value.int .i64 v) else wo k (asV l))=_;unfold W3;by_cases h:a=k
  ·rw [jr h,jr h];rfl
  ·rw [js h,js h,zgD k l]
theorem ziy (k:α) (v:Int):∀ l:List (α×Int),vG k (.int .i64 v) (asV l)=asV (Zp k v l)
 |[]=>rfl
 |(a,u)::l=>by
  show (if a=k then (a,Value.int .i64 v)::asV l else (a,Value.int .i64 u)::vG k (.int .i64 v) (asV l))=_;unfold Zp;by_cases h:a=k
  ·rw [jr h,jr h];rfl
  ·rw [js h,js h,ziy k v l];rfl
structure MapR (D:Nat->Type) (opv:Nat->(T:Nat)->Value->Addr->ByteArray->Sl (D T)->Priv) (T:Nat) {α:Type}[DecidableEq α] (K:MKey α) where
 q:Nat
 e:D T=(α×Int)
 opv:∀ hdr a b s,opv q T hdr a b s=Priv.mp hdr (x6 K (asV (cast (congrArg List e) s.xs)))
variable {D:Nat->Type}{opv:Nat->(T:Nat)->Value->Addr->ByteArray->Sl (D T)->Priv}{T:Nat}{K:MKey α}
def MapR.l (M:MapR D opv T K) (s:Sl (D T)):List (α×Int):=cast (congrArg List M.e) s.xs
def MapR.s (M:MapR D opv T K) (l:List (α×Int)):Sl (D T):=⟨cast (congrArg List M.e).symm l,true⟩
theorem MapR.ls (M:MapR D opv T K) (l:List (α×Int)):M.l (M.s l)=l:=by simp [MapR.l,MapR.s]
end
section
variable {D:Nat->Type}
def ziz (ms:(T:Nat)->G3 (PLift (D T=(ByteArray×Int)))) (mi:(T:Nat)->G3 (PLift (D T=(Int×Int)))) (k T:Nat) (hdr:Value) (a:Addr) (b:ByteArray) (s:Sl (D T)):Priv:=match ms T with
 |some e=>Priv.mp hdr (x6 MKey.str (asV (cast (congrArg List e.down) s.xs)))
 |none=>match mi T with
  |some e=>Priv.mp hdr (x6 MKey.i64 (asV (cast (congrArg List e.down) s.xs)))
  |none=>⟨fun _ _=>False,fun _ _ h=>h⟩
def zww (ms:(T:Nat)->G3 (PLift (D T=(ByteArray×Int)))) (mi:(T:Nat)->G3 (PLift (D T=(Int×Int)))) (T:Nat):G3 (MapR D (ziz ms mi) T MKey.str):=match h:ms T with
 |some e=>some ⟨0,e.down,fun hdr a b s=>by unfold ziz;rw [h]⟩
 |none=>none
def zwx (ms:(T:Nat)->G3 (PLift (D T=(ByteArray×Int)))) (mi:(T:Nat)->G3 (PLift (D T=(Int×Int)))) (T:Nat):G3 (MapR D (ziz ms mi) T MKey.i64):=match h0:ms T with
 |some _=>none
 |none=>match h:mi T with
  |some e=>some ⟨0,e.down,fun hdr a b s=>by unfold ziz;rw [h0,h]⟩
  |none=>none
end
variable [Dfr]
def zaj (ops:Array Oper):Nat->Nat->Nat->Bool
 |0,_,_=>false
 |n+1,k,i=>match ops[k]? with
  |none=>false
  |some o=>o.after.any fun e=>Region.binds .any e && (e.on == i || zaj ops n e.on i)
def zeD (ops:Array Oper) (listed:Array Bool):Prop:=∀ (k:Nat) (o:Oper),ops[k]?=some o->listed.getD k false=true->∀ e∈o.after,Region.binds .any e=true->listed.getD e.on false=true
omit [Dfr] in
theorem zaj.listed {ops:Array Oper}{listed:Array Bool}(hc:zeD ops listed) {i:Nat}:∀ (n k:Nat),zaj ops n k i=true->listed.getD k false=true->listed.getD i false=true
 |0,_,h,_=>by simp [zaj] at h
 |n+1,k,h,hk=>by
  unfold zaj at h;cases ho:ops[k]? with
  |none=>grind
  |some o=>
   rw [ho] at h;obtain ⟨e,he,hb⟩:=Array.any_eq_true'.1 h;simp only [g9,GO,beq_iff_eq] at hb;have hl:=hc k o ho hk e he hb.1;rcases hb.2 with z | z
   ·grind
   ·exact zaj.listed hc n e.on z hl
omit [Dfr] in
theorem zeD.add {ops:Array Oper}{listed:Array Bool}(hc:zeD ops listed) {j:Nat}{o:Oper}(ho:ops[j]?=some o) (hr:∀ e∈o.after,Region.binds .any e=true->listed.getD e.on false=true):zeD ops (listed.setIfInBounds j true):=by
 have mono:∀ k,listed.getD k false=true->(listed.setIfInBounds j true).getD k false=true:=fun k h=>by
  by_cases hk:j=k
  ·subst hk;rcases Nat.lt_or_ge j listed.size with z | z
   ·rw [G7];simp [z]
   grind
  ·rw [G7,Array.getElem?_setIfInBounds_ne hk,<- G7];exact h
 intro k o' hk hl e he hb;by_cases hkj:j=k
 ·grind
 ·rw [G7,Array.getElem?_setIfInBounds_ne hkj,<- G7] at hl;exact mono _ (hc k o' hk hl e he hb)
section
variable {P:Program}{ops:Array Oper}{Q:Exit->Act->World->Prop}{S:World->Prop}{tr:Nat}
end
class PStab (Q:Exit->Act->World->Prop):Prop where
 st:∀ c (a:Act) d v w,Q (.panic c) (a.put d v) w->Q (.panic c) a w
instance {K:Act->World->Prop}{Q:Exit->Act->World->Prop}[h:PStab Q]:PStab (Exit.then K Q):=⟨fun c a d v w q=>h.st c a d v w q⟩
instance {i:Nat}{Q:Exit->Act->World->Prop}[h:PStab Q]:PStab (Exit.inBlock i Q):=⟨fun c a d v w q=>h.st c a d v w q⟩
instance {P:Program}{fn:Func}{R:Ending->World->Prop}:PStab (bodyPost P fn R):=⟨fun c a d v w q=>⟨by have:=q.1;cases d <;> exact this,q.2⟩⟩
instance {n w0 σ0 γ Tail} {y:γ}:PStab (zxl n w0 σ0 Tail y):=⟨fun c a d v w q=>q⟩
instance {n w0 σ0 s β Head Tail} {st:Step s β}:PStab (zwv n w0 σ0 Head Tail st):=⟨fun c a d v w q=>by cases st <;> exact q⟩
section
variable {ρ:Type}{n:Nat}{w0:Start}{σ0 Z:FS}{p:G3 ρ}{L:List (Nat×Value)}{b:Nat->Value}{PV PV':List Priv}
variable {P:Program}{Q:ρ->Exit->Act->World->Prop}{ops:Array Oper}{o:Oper}{rest:List Oper}
def wq (P:Program) (n:Nat) (w0:Start) (σ0:FS) (o:Oper) (p:G3 ρ) (L:List (Nat×Value)) (b:Nat->Value) (Z:FS) (PV:List Priv)
    (H:G3 ρ->List (Nat×Value)->FS->List Priv->Prop):Prop:=
  ∀ r,p=some r->∀ a w,Inv w0 σ0 Z PV w->Fits n L b a->∀ (K:Act->World->Prop) (Q:Exit->Act->World->Prop),
    (∀ p' L' Z' PV' a' w',p'=some r->Inv w0 σ0 Z' PV' w'->Fits n L' b a'->H p' L' Z' PV'->K a' w')->o.wp P a w K Q
def xn (σr:FS) (PVr:List Priv) (w:World):Prop:=σr.sub w/\∃ h,Sep σr PVr h/\h.sub w
structure HeldOK (σr:FS) (PVr:List Priv) (Z:FS) (PV:List Priv):Prop where
 le:σr.le Z
 all:∀ h,Sep Z PV h->Sep σr PVr h
theorem HeldOK.held {σr:FS}{PVr:List Priv}(h:HeldOK σr PVr Z PV) {w:World}(hi:Inv w0 σ0 Z PV w):xn σr PVr w:=
 ⟨h.le.sub hi.sub,hi.own.elim fun g k=>⟨g,h.all g k.1,k.2.sub⟩⟩
omit [Dfr] in
theorem HeldOK.same {Z:FS}{PVr PV:List Priv}(idx:List Nat) (hn:idx.Nodup) (hg:idx.map (fun i=>PV[i]?)=PVr.map some):HeldOK Z PVr Z PV:=⟨.refl Z,fun h k=>k.select idx hn hg⟩
def V4:List Priv->Prop
 |[]=>True
 |p::r=>(∀ Z τ h,p.holds Z h->p.holds τ h)/\V4 r
omit [Dfr] in
theorem V4.get:∀ {l:List Priv},V4 l->∀ (i:Nat) p,l[i]?=some p->∀ Z τ h,p.holds Z h->p.holds τ h
 |[],_,i,_,h=>by simp at h
 |p::r,⟨h,k⟩,i,q,hq=>by
  cases i with
  |zero=>grind
  |succ i=>exact k.get i q (by simpa using hq)
omit [Dfr] in
theorem V4.sep {l:List Priv}(f:V4 l) {Z τ:FS}{h:zc}(k:Sep Z l h):Sep τ l h:=by
 obtain ⟨hs,k1,k2,k3⟩:=k;exact ⟨hs,fun i p hp=>f.get i p hp Z τ _ (k1 i p hp),k2,k3⟩
omit [Dfr] in
theorem V4.append:∀ {l m:List Priv},V4 l->V4 m->V4 (l++m)
 |[],_,_,h=>h
 |_::_,_,⟨h,k⟩,g=>⟨h,k.append g⟩
theorem HeldOK.plain {σr Z:FS}{PVr PV:List Priv}(hl:σr.le Z) (idx:List Nat) (hn:idx.Nodup) (hg:idx.map (fun i=>PV[i]?)=PVr.map some) (hp:V4 PVr):HeldOK σr PVr Z PV:=⟨hl,fun h k=>hp.sep (k.select idx hn hg)⟩
abbrev zog (i tr:Nat) (listed:Array Bool) (σr:FS) (PVr:List Priv) (Z:FS) (PV:List Priv):Prop:=(i=tr\/listed.getD tr false=true)\/HeldOK σr PVr Z PV
theorem zog.world {i tr:Nat}{listed:Array Bool}{σr:FS}{PVr:List Priv}(h:zog i tr listed σr PVr Z PV) {w:World}(hi:Inv w0 σ0 Z PV w):(i=tr\/listed.getD tr false=true)\/xn σr PVr w:=h.imp id fun k=>k.held hi
inductive W2 (α β:Type) where
 |a (x:α)
 |b (x:β)
structure Pre (s:Start) (Z:FS) (PV:List Priv):Prop where
 sub:Z.sub s.w
 sep:Sep Z PV s.h
 own:s.h.sub s.w
 apart:∀ b o,(s.h b (o+1)).isSome->Z b o=none
theorem Pre.inv {s:Start}{Z:FS}{PV:List Priv}(h:Pre s Z PV):Inv s Z Z PV s.w :=.start h.sub h.sep h.own h.apart
theorem Pre.empty {w:World}{Z:FS}(h:Z.sub w):Pre ⟨w,zc.none⟩ Z []:=⟨h,Sep.nil,fun _ _ _ (e:(none:G3 Bit)=some _)=>(by cases e),fun _ _ (e:(none:G3 Bit).isSome=true)=>by simp at e⟩
def zkR (P:Program) (fn:Func) (w0:Start) (σ0:FS) (post:ρ->FS->List Priv->Value->Prop) (r:ρ):Exit->Act->World->Prop:=
 bodyPost P fn fun e w'=>∃ v Z' PV',e = .returned v/\Inv w0 σ0 Z' PV' w'/\post r Z' PV' v
instance {P:Program}{fn:Func}{w0:Start}{σ0:FS}{post:ρ->FS->List Priv->Value->Prop}{r:ρ}:PStab (zkR P fn w0 σ0 post r):=by unfold zkR;infer_instance
def yh:Nat->List Value->List (Nat×Value)
 |_,[]=>[]
 |i,v::r=>(i,v)::yh (i+1) r
theorem V5:∀ (args:List Value) (k i:Nat),look (yh k args) (fun _=>undef) i=if i < k then undef else (args[i - k]?).getD undef
 |[],k,i=>by simp [yh,look]
 |v::r,k,i=>by
  simp only [yh,look];rw [V5 r (k+1) i];cases e:Nat.beq i k with
  |true=>have:=jz e;grind
  |false=>
   have hne:i≠k:=fun h=>by subst h;simp at e
   simp only [G8];by_cases h:i < k
   ·grind
   grind
theorem W4 {args:List Value}{k:Nat}(h:args.length<=k) :
    Fits k (yh 0 args) (fun _=>undef) {tmps:=args.toArray++Array.replicate (k - args.toArray.size) undef,defers:=Dfr.l}:=by
  refine ⟨rfl,by simp;omega,fun i=>?_⟩;rw [V5];simp only [Nat.not_lt_zero,jk,Nat.sub_zero,G7];by_cases hi:i < args.length
  ·grind
  · rw [Array.getElem?_append_right (by simpa using hi)];simp only [List.size_toArray];rw [List.getElem?_eq_none (by omega)];simp only [Option.getD_none];cases e:(Array.replicate (k - args.length) undef)[i - args.length]? with
    |none=>rfl
    |some v=>
      grind
omit [Dfr] in
theorem Inv.call {w w':World}{A' C:List Priv}{Z':FS}{h1 h2:zc}(hi:Inv w0 σ0 Z PV w) {h:zc}(hg:Good w0 Z w h) (s2:Sep Z C h2) (l1:h1.le h) (l2:h2.le h) (d:h1.disj h2)
    (k:Inv ⟨w,h1⟩ Z Z' A' w'):Inv w0 σ0 Z' (A'++C) w':=by
  obtain ⟨g1,q1,q2⟩:=k.own;have e1:=hg.mono l1;have e2:=hg.mono l2;have hlt:∀ b i,(h2 b i).isSome->b < w.heap.size:=fun b i e=>by
    obtain ⟨x,hx⟩:=GN.1 e;exact Bit.at_lt (e2.sub b i x hx)
  have hd:g1.disj h2:=fun b i=>by
    cases hx:h2 b i with
    |none=>exact .inr rfl
    |some x=>
      left;cases hy:g1 b i with
      |none=>rfl
      |some y=>
        rcases q2.mine b i (by simp [hy]) with z | z
        ·grind
        · simp only at z;rcases d b i with u | u
          all_goals grind
  have hmine:∀ b i,(h1 b i).isSome->w0.w.heap.size<=b\/(w0.h b i).isSome:=e1.mine
  refine ⟨k.sub,hi.le.trans k.le,fun b o v hv=>?_,⟨g1.or h2,q1.append (s2.mono k.le (.refl _)) (zc.le_or _ _) (zc.le_or_right hd) hd,zc.or_sub q2.sub (k.ext.frag d e2.sub),fun b o e=>?_,fun b i e=>?_⟩,hi.ext.trans k.ext fun b i hb e=>?_⟩
  · rcases k.fresh b o v hv with z | z | z
    ·exact hi.fresh b o v z
    ·exact .inr (.inl (GM hi.ext.size z))
    grind
  · unfold zc.or at e;cases hx:g1 b (o+1) with
    |some y=>exact q2.apart b o (by simp [hx])
    |none=>
      rw [hx] at e;have e':(h2 b (o+1)).isSome:=by simpa using e
      cases hv:Z' b o with
      |none=>rfl
      |some v=>
        rcases k.fresh b o v hv with z | z | z
        ·rw [e2.apart b o e'] at z;cases z
        ·grind
        · simp only at z;rcases d b (o+1) with u | u
          all_goals grind
  · unfold zc.or at e;cases hx:g1 b i with
    |some y=>
      rcases q2.mine b i (by simp [hx]) with z | z
      ·exact .inl (GM hi.ext.size z)
      grind
    |none=>rw [hx] at e;exact e2.mine b i (by simpa using e)
  grind
end
end Go.Px
namespace Go.Px
variable [Dfr]
structure OTy (α:Type) where
 size:Nat
 agg:Bool
 rel:FS->zc->List Value->α->Prop
 len:∀ {Z h cs x},rel Z h cs x->cs.length=size
 mono:∀ {Z τ:FS} {h g:zc} {cs x},Z.le τ->h.le g->rel Z h cs x->rel τ g cs x
 one:∀ {Z h cs x},rel Z h cs x->∀ u∈cs,u.oneCell'=true
 sz:agg=false->size=1
def OTy.vrel {α:Type}(T:OTy α) (Z:FS) (h:zc) (v:Value) (x:α):Prop:=T.rel Z h v.cells.toList x/\zb4 v=T.agg
def OTy.rels {α:Type}(T:OTy α) (Z:FS) (h:zc) (cs:List Value) (xs:List α):Prop:=
 cs.length=xs.length * T.size/\∃ hs:Nat->zc,(∀ (i:Nat) (x:α),xs[i]?=some x->T.rel Z (hs i) ((cs.drop (i * T.size)).take T.size) x)/\(∀ i j,i≠j->(hs i).disj (hs j))/\∀ i,(hs i).le h
omit [Dfr] in
theorem OTy.rels_mono {α:Type}{T:OTy α}{Z τ:FS}{h g:zc}{cs:List Value}{xs:List α}(l:Z.le τ) (m:h.le g) (r:T.rels Z h cs xs):T.rels τ g cs xs:=by
 obtain ⟨h1,hs,h2,h3,h4⟩:=r;exact ⟨h1,hs,fun i x hx=>T.mono l (.refl _) (h2 i x hx),h3,fun i=>(h4 i).trans m⟩
theorem OTy.rels_nil {α:Type}{T:OTy α}{Z:FS}{h:zc}:T.rels Z h [] []:=⟨by simp,fun _=>zc.none,fun i x hx=>by simp at hx,fun _ _ _=>zc.none_disj _,fun _=>zc.none_le _⟩
def Ty.o {α:Type}(T:Ty α):OTy α where
 size:=T.size
 agg:=T.agg
 rel Z _ cs x:=T.rel Z cs x
 len h:=T.len h
 mono l _ r:=T.mono l r
 one r:=T.one r
 sz:=T.sz
theorem Ty.rels_of {α:Type}{T:Ty α}{Z:FS}:∀ {xs:List α}{cs:List Value},cs.length=xs.length * T.size->(∀ (i:Nat) (x:α),xs[i]?=some x->T.rel Z ((cs.drop (i * T.size)).take T.size) x)->T.rels Z cs xs
 |[],cs,hl,_=>GP (by simpa using hl)
 |x::xs,cs,hl,h=>by
  refine ⟨cs.take T.size,cs.drop T.size,(List.take_append_drop _ _).symm,by simpa using h 0 x rfl,Ty.rels_of ?_ ?_⟩
  ·simp only [GQ,hl,ju,GR];omega
  ·intro i y hy;have:=h (i+1) y (by simpa using hy);rw [List.drop_drop,show T.size+i * T.size=(i+1) * T.size by grind];exact this
theorem Ty.rels_o {α:Type}{T:Ty α}{Z:FS}{h:zc}{xs:List α}{cs:List Value}:T.o.rels Z h cs xs↔T.rels Z cs xs:=by
 constructor
 ·rintro ⟨h1,hs,h2,_⟩;exact Ty.rels_of h1 h2
 ·intro r;exact ⟨T.rels_len r,fun _=>zc.none,fun i x hx=>T.rels_get i r hx,fun _ _ _=>zc.none_disj _,fun _=>zc.none_le _⟩
theorem OTy.rels_one {α:Type}{T:OTy α}{Z:FS}{h:zc}{cs:List Value}{xs:List α}(r:T.rels Z h cs xs):∀ u∈cs,u.oneCell'=true:=by
 obtain ⟨hl,hs,h2,_⟩:=r;intro u hu;obtain ⟨j,hj⟩:=List.mem_iff_getElem?.1 hu;have hlt:=(GC.1 hj).1;have h0:0 < T.size:=by
  grind
 have hi:j / T.size < xs.length:=by rw [Nat.div_lt_iff_lt_mul h0];omega
 refine T.one (h2 (j / T.size) _ (GI hi)) u ?_;have hm:=Nat.mod_lt j h0;have hdm:=Nat.div_add_mod j T.size;rw [Nat.mul_comm] at hdm;refine GS (i:=j % T.size) ?_;grind
def ZW (a:Addr) (cs:List Value) (h:zc):Prop:=a.spot=none/\∀ (j:Nat) (u:Value),cs[j]?=some u->h a.block (a.off+j+1)=some (.cell u)
def Priv.cell (a:Addr) (cs:List Value):Priv where
 holds _ h:=ZW a cs h
 mono _ l k:=⟨k.1,fun j u hj=>l _ _ _ (k.2 j u hj)⟩
def zo {α:Type}(T:OTy α) (e:TypeId) (v:Value) (s:Sl α) (Z:FS) (h:zc):Prop:=
 (v = .slice none 0 0/\s=⟨[],false⟩)\/(∃ a:Addr,v = .slice (some a) 0 0/\s=⟨[],true⟩)\/
 ∃ (q cap:Nat) (cur:List Value) (hb g:zc),v = .slice (some ⟨q,0,none⟩) s.xs.length cap/\s.nn=true/\s.xs.length<=cap/\cap<=maxLen/\cap * T.size<=cur.length/\
  hb.le h/\hb q 0=some (.shape e cur.length)/\(∀ (j:Nat) (u:Value),cur[j]?=some u->hb q (j+1)=some (.cell u))/\g.le h/\hb.disj g/\T.rels Z g (cur.take (s.xs.length * T.size)) s.xs
omit [Dfr] in
theorem zo.mono {α:Type}{T:OTy α}{e:TypeId}{v:Value}{s:Sl α}{Z τ:FS}{h g:zc}(l:Z.le τ) (m:h.le g) (r:zo T e v s Z h):zo T e v s τ g:=by
 rcases r with r | r | ⟨q,cap,cur,hb,gg,r1,r2,r3,r4,r5,r0,r6,r7,r8,r9,r10⟩
 ·exact .inl r
 ·exact .inr (.inl r)
 ·exact .inr <| .inr ⟨q,cap,cur,hb,gg,r1,r2,r3,r4,r5,r0.trans m,r6,r7,r8.trans m,r9,T.rels_mono l (.refl _) r10⟩
omit [Dfr] in
def Priv.row {α:Type}(T:OTy α) (e:TypeId) (v:Value) (s:Sl α):Priv where
 holds Z h:=zo T e v s Z h
 mono l m r:=r.mono l m
omit [Dfr] in
theorem zo.form {α:Type}{T:OTy α}{e:TypeId}{v:Value}{s:Sl α}{Z:FS}{h:zc}(r:zo T e v s Z h):∃ a c,v = .slice a s.xs.length c/\a.isSome=s.nn/\(a=none->s.xs.length=0)/\(a=none->c=0)/\s.xs.length<=c/\c<=maxLen:=by
 rcases r with ⟨rfl,rfl⟩ | ⟨a,rfl,rfl⟩ | ⟨q,cap,cur,hb,gg,rfl,r2,r3,r4,r5,r0,r6,r7,r8,r9,r10⟩
 rotate_left
 ·exact ⟨some a,0,rfl,rfl,(fun h=>by cases h),(fun h=>by cases h),GJ _,by simp [maxLen]⟩
 rotate_left
 ·exact ⟨none,0,rfl,rfl,fun _=>rfl,fun _=>rfl,GJ _,by simp [maxLen]⟩
 grind
omit [Dfr] in
def zuy {α:Type}(T:OTy α) (e:TypeId):OTy (Sl α) where
 size:=1
 agg:=false
 rel Z h cs s:=∃ v,cs=[v]/\zo T e v s Z h
 len:=by grind
 mono:=by rintro Z τ h g cs s l m ⟨v,rfl,r⟩;exact ⟨v,rfl,r.mono l m⟩
 one:=by rintro Z h cs s ⟨v,rfl,r⟩ u hu;obtain ⟨a,c,rfl,_⟩:=r.form;simp at hu;subst hu;rfl
 sz _:=rfl
omit [Dfr] in
def zaN {α β:Type}(A:OTy α) (B:OTy β):OTy (α×β) where
 size:=A.size+B.size
 agg:=true
 rel Z h cs x:=∃ c d h1 h2,cs=c++d/\h1.le h/\h2.le h/\h1.disj h2/\A.rel Z h1 c x.1/\B.rel Z h2 d x.2
 len:=by rintro Z h cs x ⟨c,d,h1,h2,rfl,_,_,_,h,k⟩;simp [A.len h,B.len k]
 mono:=by rintro Z τ h g cs x l m ⟨c,d,h1,h2,rfl,l1,l2,dd,p,q⟩;exact ⟨c,d,h1,h2,rfl,l1.trans m,l2.trans m,dd,A.mono l (.refl _) p,B.mono l (.refl _) q⟩
 one:=by
  rintro Z h cs x ⟨c,d,h1,h2,rfl,_,_,_,h,k⟩ u hu;rcases G5.1 hu with m | m
  ·exact A.one h u m
  ·exact B.one k u m
 sz h:=by simp at h
def OTy.comap {α β:Type}(T:OTy α) (f:β->α):OTy β where
 size:=T.size
 agg:=T.agg
 rel Z h cs x:=T.rel Z h cs (f x)
 len h:=T.len h
 mono l m r:=T.mono l m r
 one r:=T.one r
 sz h:=T.sz h
def OTy.aggr {α:Type}(T:OTy α):OTy α where
 size:=T.size
 agg:=true
 rel Z h cs x:=T.rel Z h cs x
 len h:=T.len h
 mono l m r:=T.mono l m r
 one r:=T.one r
 sz h:=by simp at h
omit [Dfr] in
theorem Sep.get {Z:FS}{PV:List Priv}{h:zc}(k:Sep Z PV h) {m:Nat}{p:Priv}(hm:PV[m]?=some p):p.holds Z h:=by
 obtain ⟨hs,k1,_,k3⟩:=k;exact p.mono (.refl _) (k3 m) (k1 m p hm)
omit [Dfr] in
theorem xn.get {Z:FS}{PV:List Priv}{w:World}(k:xn Z PV w) {m:Nat}{p:Priv}(hm:PV[m]?=some p):∃ h,p.holds Z h/\h.sub w:=by
 obtain ⟨_,h,k1,k2⟩:=k;exact ⟨h,k1.get hm,k2⟩
omit [Dfr] in
theorem zc.sub.cell {h:zc}{w:World}(k:h.sub w) {b o:Nat}{v:Value}(e:h b (o+1)=some (.cell v)):w.cell? ⟨b,o,Option.none⟩=some v:=by
 obtain ⟨c,e,o',h1,h2,h3⟩:=k _ _ _ e;obtain rfl:o=o':=by omega
 simp [World.cell?,h1,h3]
theorem Addr.add_eq (a:Addr) (h:a.spot=none) (k:Nat):a.add k=⟨a.block,a.off+k,none⟩:=by
 obtain ⟨b,o,sp⟩:=a;simp at h;subst h;unfold Addr.add;grind
omit [Dfr] in
theorem ZW.cell {a:Addr}{cs:List Value}{h:zc}{w:World}(r:ZW a cs h) (k:h.sub w) {j:Nat}{u:Value}(hj:cs[j]?=some u):w.cell? (a.add j)=some u:=by
 rw [Addr.add_eq a r.1];exact k.cell (r.2 j u hj)
abbrev zZ (P:Program) (Z:FS) (PV:List Priv) (L:List (Nat×Value)) (b:Nat->Value) (o:Oper) (v:Value):Prop:=
 ∀ w,xn Z PV w->(execOp (opv L b) o).run P w = .ok (.value v) w
def zwy (P:Program) (Z:FS) (PV:List Priv) (L:List (Nat×Value)) (b:Nat->Value) (o:Oper) (C:Value->Prop):Prop:=
 ∃ v,C v/\zZ P Z PV L b o v
def zh (v:Value) (k:Nat):Addr:=
 match v with
 | .slice (some a) _ _=>a.add k
 |_=>⟨0,k,none⟩
theorem Addr.add_add (a:Addr) (j k:Nat):(a.add j).add k=a.add (j+k):=by
 unfold Addr.add;grind
theorem Yb (v:Value) (j k:Nat):(zh v j).add k=zh v (j+k):=by
 unfold zh;split
 ·exact Addr.add_add _ j k
 ·unfold Addr.add;grind
class Plain {α:Type}(T:Ty α) where
 cells:α->List Value
 spec:∀ Z cs x,T.rel Z cs x↔cs=cells x
instance {k:IntKind}:Plain (zxk k):=⟨fun x=>[.int k x],fun _ _ _=>Iff.rfl⟩
instance:Plain zwt:=⟨fun x=>[.bool x],fun _ _ _=>Iff.rfl⟩
instance:Plain zlD:=⟨fun x=>[.string x],fun _ _ _=>Iff.rfl⟩
instance:Plain zwu:=⟨fun _=>[],fun _ _ _=>Iff.rfl⟩
instance {α β:Type}{A:Ty α}{C:Ty β}[a:Plain A] [c:Plain C]:Plain (zaK A C):=⟨fun x=>a.cells x.1++c.cells x.2,fun Z cs x=>by
 constructor
 ·rintro ⟨p,q,rfl,h,k⟩;rw [(a.spec _ _ _).1 h,(c.spec _ _ _).1 k]
 ·rintro rfl;exact ⟨_,_,rfl,(a.spec _ _ _).2 rfl,(c.spec _ _ _).2 rfl⟩⟩
instance {α β:Type}{T:Ty α}{f:β->α}[a:Plain T]:Plain (T.comap f):=⟨fun x=>a.cells (f x),fun Z cs x=>a.spec Z cs (f x)⟩
instance {α:Type}{T:Ty α}[a:Plain T]:Plain T.aggr:=⟨a.cells,fun Z cs x=>a.spec Z cs x⟩
omit [Dfr] in
theorem Plain.rels {α:Type}{T:Ty α}[a:Plain T] {Z τ:FS}:∀ {xs:List α}{cs:List Value},T.rels Z cs xs->T.rels τ cs xs
 |[],_,h=>h
 |_::_,_,⟨c,d,e,h,k⟩=>⟨c,d,e,(a.spec _ _ _).2 ((a.spec _ _ _).1 h),Plain.rels k⟩
def zd {α:Type}(s:Sl α) (i:Int):G3 α:=if 0<=i then s.xs[i.toNat]? else none
def zp {α:Type}(bytes:Nat) (s:Sl α) (t:List α):G3 (Sl α):=
 if (s.xs.length+t.length) * bytes<=140737488355328/\s.xs.length+t.length<=140737488355328 then some ⟨s.xs++t,s.nn || !t.isEmpty⟩ else none
def Zv {α:Type}(s:Sl α) (lo hi:Int):G3 (Sl α):=
 if 0<=lo/\lo<=hi/\hi<=s.xs.length then some ⟨(s.xs.take hi.toNat).drop lo.toNat,s.nn⟩ else none
def Zb (s:ByteArray) (i:Int):G3 Int:=if 0<=i then (s.data.toList[i.toNat]?).map (fun c=>(c.toNat:Int)) else none
def ZB (s:ByteArray) (lo hi:Int):G3 ByteArray:=if 0<=lo/\lo<=hi/\hi<=s.size then some (s.extract lo.toNat hi.toNat) else none
def ziA (k:IntKind) (x y:Int):G3 Int:=if y=0 then none else some (k.wrap (x.tdiv y))
def ziB (k:IntKind) (x y:Int):G3 Int:=if y=0 then none else some (x.tmod y)
theorem yB {α:Type}{s:Sl α}{i:Int}{x:α}:zd s i=some x↔0<=i/\s.xs[i.toNat]?=some x:=by
 unfold zd;grind
theorem zak {α:Type}{s:Sl α}{i:Int}{x:α}(h:zd s i=some x):0<=i/\i < s.xs.length:=by
 obtain ⟨h0,h1⟩:=yB.1 h;grind
section
variable {ρ:Type}{n:Nat}{w0:Start}{σ0 Z:FS}{p:G3 ρ}{L:List (Nat×Value)}{b:Nat->Value}{PV PV':List Priv}
variable {P:Program}{Q:ρ->Exit->Act->World->Prop}{ops:Array Oper}{o:Oper}{rest:List Oper}
variable {H:G3 ρ->List (Nat×Value)->FS->List Priv->Prop}{d:Nat}{v:Value}{t t' ty:TypeId}{ps:String}{af:Array Edge}{g:G3 (Nat×Bool)}
variable {x y z:Operand}{k:IntKind}{i j:Int}
theorem Inv.held {w:World}(h:Inv w0 σ0 Z PV w):xn Z PV w:=⟨h.sub,h.own.elim fun g k=>⟨g,k.1,k.2.sub⟩⟩
theorem zuz (h:opv L b x=v):zZ P Z PV L b ⟨some d,.move x,ty,ps,af,g⟩ v:=fun w _=>by
 simp only [execOp,GT,h]
theorem zpV (h:opv L b x=v):zZ P Z PV L b ⟨some d,.assign x,ty,ps,af,g⟩ v:=fun w _=>by
 simp only [execOp,GT,h]
theorem zpW {e:Bool}(hx:opv L b x = .bool e) (he:e=true) (h:opv L b y=v):zZ P Z PV L b ⟨some d,.pick x y z,ty,ps,af,g⟩ v:=fun w _=>by
 simp [execOp,hx,he,h,asBool,go_sem]
theorem zpX {e:Bool}(hx:opv L b x = .bool e) (he:e=false) (h:opv L b z=v):zZ P Z PV L b ⟨some d,.pick x y z,ty,ps,af,g⟩ v:=fun w _=>by
 simp [execOp,hx,he,h,asBool,go_sem]
theorem zwz (hx:opv L b x = .int k i) (hy:opv L b y = .int k j):zZ P Z PV L b ⟨some d,.binOp .add t x y t',ty,ps,af,g⟩ (.int k (k.wrap (i+j))):=fun w _=>by
 simp [execOp,hx,hy,eqGuard,binOp,Op.intArith]
theorem zwA (hx:opv L b x = .int k i) (hy:opv L b y = .int k j):zZ P Z PV L b ⟨some d,.binOp .sub t x y t',ty,ps,af,g⟩ (.int k (k.wrap (i - j))):=fun w _=>by
 simp [execOp,hx,hy,eqGuard,binOp,Op.intArith]
theorem zwB (hx:opv L b x = .int k i) (hy:opv L b y = .int k j):zZ P Z PV L b ⟨some d,.binOp .mul t x y t',ty,ps,af,g⟩ (.int k (k.wrap (i * j))):=fun w _=>by
 simp [execOp,hx,hy,eqGuard,binOp,Op.intArith]
theorem zwC (hx:opv L b x = .int k i) (hy:opv L b y = .int k j):zZ P Z PV L b ⟨some d,.binOp .lss t x y t',ty,ps,af,g⟩ (.bool (decide (i < j))):=fun w _=>by
 simp [execOp,hx,hy,eqGuard,binOp,Op.intCmp]
theorem zwD (hx:opv L b x = .int k i) (hy:opv L b y = .int k j):zZ P Z PV L b ⟨some d,.binOp .leq t x y t',ty,ps,af,g⟩ (.bool (decide (i<=j))):=fun w _=>by
 simp [execOp,hx,hy,eqGuard,binOp,Op.intCmp]
theorem zwE (hx:opv L b x = .int k i) (hy:opv L b y = .int k j):zZ P Z PV L b ⟨some d,.binOp .gtr t x y t',ty,ps,af,g⟩ (.bool (decide (j < i))):=fun w _=>by
 simp [execOp,hx,hy,eqGuard,binOp,Op.intCmp]
theorem zwF (hx:opv L b x = .int k i) (hy:opv L b y = .int k j):zZ P Z PV L b ⟨some d,.binOp .geq t x y t',ty,ps,af,g⟩ (.bool (decide (j<=i))):=fun w _=>by
 simp [execOp,hx,hy,eqGuard,binOp,Op.intCmp]
theorem zwG (hx:opv L b x = .int k i) (hy:opv L b y = .int k j):zZ P Z PV L b ⟨some d,.binOp .eql t x y t',ty,ps,af,g⟩ (.bool (decide (i=j))):=fun w _=>by
 have:(i == j)=decide (i=j):=by grind
 simp [execOp,hx,hy,eqGuard,binOp,Op.intCmp,this]
theorem zwH (hx:opv L b x = .int k i) (hy:opv L b y = .int k j):zZ P Z PV L b ⟨some d,.binOp .neq t x y t',ty,ps,af,g⟩ (.bool (decide (i≠j))):=fun w _=>by
 have:(i != j) = !decide (i=j):=by grind
 simp [execOp,hx,hy,eqGuard,binOp,Op.intCmp,this]
theorem zwI {q:Int}(hx:opv L b x = .int k i) (hy:opv L b y = .int k j) (hq:ziA k i j=some q):zZ P Z PV L b ⟨some d,.binOp .quo t x y t',ty,ps,af,g⟩ (.int k q):=fun w _=>by
 unfold ziA at hq;split at hq
 ·cases hq
 ·rename_i h;cases hq;simp [execOp,hx,hy,eqGuard,binOp,Op.intDiv,h]
theorem zwJ {q:Int}(hx:opv L b x = .int k i) (hy:opv L b y = .int k j) (hq:ziB k i j=some q):zZ P Z PV L b ⟨some d,.binOp .rem t x y t',ty,ps,af,g⟩ (.int k q):=fun w _=>by
 unfold ziB at hq;split at hq
 ·cases hq
 ·rename_i h;cases hq;simp [execOp,hx,hy,eqGuard,binOp,Op.intDiv,h]
theorem zuA {e q:Bool}(hu:P.underlying t=some .bool) (hx:opv L b x = .bool e) (hy:opv L b y = .bool q):zZ P Z PV L b ⟨some d,.binOp .eql t x y t',ty,ps,af,g⟩ (.bool (e == q)):=fun w _=>by
 simp [execOp,hx,hy,eqGuard,binOp,run_equal_bool w t e q hu]
theorem zuB {e q:Bool}(hu:P.underlying t=some .bool) (hx:opv L b x = .bool e) (hy:opv L b y = .bool q):zZ P Z PV L b ⟨some d,.binOp .neq t x y t',ty,ps,af,g⟩ (.bool (e != q)):=fun w _=>by
 simp [execOp,hx,hy,eqGuard,binOp,run_equal_bool w t e q hu,bne]
theorem zwK {e:Bool}(hx:opv L b x = .bool e):zZ P Z PV L b ⟨some d,.unOp .not t x,ty,ps,af,g⟩ (.bool !e):=fun w _=>by
 simp [execOp,hx,Op.unary]
theorem zwL (hx:opv L b x = .int k i):zZ P Z PV L b ⟨some d,.unOp .neg t x,ty,ps,af,g⟩ (.int k (k.wrap (0 - i))):=fun w _=>by
 simp [execOp,hx,Op.unary,Op.intArith]
theorem zoh {vs:Array Value}{m:Nat}(hx:opv L b x = .tuple vs) (h:vs[m]?=some v):zZ P Z PV L b ⟨some d,.extract x m,ty,ps,af,g⟩ v:=fun w _=>by
 simp [execOp,hx,Instr.extract,h]
theorem zeE {fn:Fn}{first captured:Array Operand}{fs cs:List Value}(hf:first.toList.map (opv L b)=fs) (hc:captured.toList.map (opv L b)=cs) :
    zZ P Z PV L b ⟨some d,.makeFunc fn first captured,ty,ps,af,g⟩ (.func fn fs.toArray cs.toArray):=fun w _=>by
  subst hf;subst hc;simp [execOp,Instr.makeFunc,<- Array.toList_map]
theorem zwM {ats:Array TypeId}(hx:opv L b x = .int k i) (hy:opv L b y = .int k j) :
    zZ P Z PV L b ⟨some d,.call {callee :=.builtin .min,args:= #[x,y],argTypes:=ats},ty,ps,af,g⟩ (.int k (if j < i then j else i)):=fun w _=>by
  simp [execOp,resolve,invoke,builtin,hx,hy,Builtin.min_,Builtin.min2]
theorem zwN {ats:Array TypeId}(hx:opv L b x = .int k i) (hy:opv L b y = .int k j) :
    zZ P Z PV L b ⟨some d,.call {callee :=.builtin .max,args:= #[x,y],argTypes:=ats},ty,ps,af,g⟩ (.int k (if i < j then j else i)):=fun w _=>by
  simp [execOp,resolve,invoke,builtin,hx,hy,Builtin.max_,Builtin.max2]
theorem vH {α:Type}{τ:FS}{T:Ty α}{s:Sl α}{e:TypeId}(hu:P.underlying t=some (.slice e)) (hx:opv L b x=v) (hv:(tSl T).vrel τ v s) :
    zZ P Z PV L b ⟨some d,.call {callee :=.builtin .len,args:= #[x],argTypes:= #[t]},ty,ps,af,g⟩ (.int .i64 s.len):=fun w _=>by
  obtain ⟨a,m,c,rfl,h1,h2⟩:=Yv.1 hv;simp [execOp,resolve,invoke,builtin,hx,Builtin.len_,GU hu,goInt,Sl.len,h1]
theorem zb5 {α:Type}{T:OTy α}{s:Sl α}{e e':TypeId}(m:Nat) (hu:P.underlying t=some (.slice e)) (hx:opv L b x=v) (hp:PV[m]?=some (.row T e' v s)) :
    zZ P Z PV L b ⟨some d,.call {callee :=.builtin .len,args:= #[x],argTypes:= #[t]},ty,ps,af,g⟩ (.int .i64 s.len):=fun w hw=>by
  obtain ⟨hh,hr,_⟩:=hw.get hp;obtain ⟨a,c,rfl,_⟩:=zo.form hr;simp [execOp,resolve,invoke,builtin,hx,Builtin.len_,GU hu,goInt,Sl.len]
theorem ziC {s:ByteArray}(hu:P.underlying t=some .string) (hx:opv L b x = .string s) :
    zZ P Z PV L b ⟨some d,.call {callee :=.builtin .len,args:= #[x],argTypes:= #[t]},ty,ps,af,g⟩ (.int .i64 (s.size:Int)):=fun w _=>by
  simp [execOp,resolve,invoke,builtin,hx,Builtin.len_,GU hu,goInt]
theorem Vo {w:World}{e:TypeId}{a:G3 Addr}{m c:Nat}(hu:P.underlying t=some (.slice e)) :
    (Op.equal t (.slice a m c) (.slice none 0 0)).run P w = .ok (!a.isSome) w:=by
  rw [run_equal_slice_nil w t e a m c hu];grind
theorem wV {α:Type}{τ:FS}{T:Ty α}{s:Sl α}{e:TypeId}(hu:P.underlying t=some (.slice e)) (hx:opv L b x=v) (hy:opv L b y = .slice none 0 0) (hv:(tSl T).vrel τ v s) :
    zZ P Z PV L b ⟨some d,.binOp .eql t x y t',ty,ps,af,g⟩ (.bool !s.nn):=fun w _=>by
  obtain ⟨a,m,c,rfl,h1,h2,_⟩:=Yv.1 hv;simp [execOp,hx,hy,eqGuard,binOp,Vo hu,h2]
theorem wW {α:Type}{τ:FS}{T:Ty α}{s:Sl α}{e:TypeId}(hu:P.underlying t=some (.slice e)) (hx:opv L b x=v) (hy:opv L b y = .slice none 0 0) (hv:(tSl T).vrel τ v s) :
    zZ P Z PV L b ⟨some d,.binOp .neq t x y t',ty,ps,af,g⟩ (.bool s.nn):=fun w _=>by
  obtain ⟨a,m,c,rfl,h1,h2,_⟩:=Yv.1 hv;simp [execOp,hx,hy,eqGuard,binOp,Vo hu,h2]
theorem V6 {α:Type}{T:OTy α}{s:Sl α}{e e':TypeId}(m:Nat) (hu:P.underlying t=some (.slice e)) (hx:opv L b x=v) (hy:opv L b y = .slice none 0 0) (hp:PV[m]?=some (.row T e' v s)) :
    zZ P Z PV L b ⟨some d,.binOp .eql t x y t',ty,ps,af,g⟩ (.bool !s.nn):=fun w hw=>by
  obtain ⟨hh,hr,_⟩:=hw.get hp;obtain ⟨a,c,rfl,h2,_⟩:=zo.form hr;simp [execOp,hx,hy,eqGuard,binOp,Vo hu,h2]
theorem V7 {α:Type}{T:OTy α}{s:Sl α}{e e':TypeId}(m:Nat) (hu:P.underlying t=some (.slice e)) (hx:opv L b x=v) (hy:opv L b y = .slice none 0 0) (hp:PV[m]?=some (.row T e' v s)) :
    zZ P Z PV L b ⟨some d,.binOp .neq t x y t',ty,ps,af,g⟩ (.bool s.nn):=fun w hw=>by
  obtain ⟨hh,hr,_⟩:=hw.get hp;obtain ⟨a,c,rfl,h2,_⟩:=zo.form hr;simp [execOp,hx,hy,eqGuard,binOp,Vo hu,h2]
theorem Wu {fs:Array Field}{f:Field}{m:Nat}{a r:Addr}{ti:TypeInfo}(hu:P.underlying t=some (.struct fs)) (hf:fs[m]?=some f) (hi:P.info? f.type=some ti) (hz:ti.size≠0)
    (hx:opv L b x = .pointer (some a)) (hr:a.add f.offset=r):zZ P Z PV L b ⟨some d,.fieldAddr t x m,ty,ps,af,g⟩ (.pointer (some r)):=fun w _=>by
  subst hr;simp [execOp,hx,Instr.fieldAt,GU hu,hf,Instr.sureAddr,fieldPlace,sizeOf,typeInfo,hi,hz]
theorem zkn {e:TypeId}{n i:Nat}{a r:Addr}{ti:TypeInfo}(hu:P.underlying t=some (.array n e)) (hi:P.info? e=some ti) (hz:ti.size≠0)
    (hx:opv L b x = .pointer (some a)) (hy:opv L b y = .int .i64 (i:Int)) (hlt:i < n) (hr:a.add (i * ti.size)=r) :
    zZ P Z PV L b ⟨some d,.indexAddr t x y,ty,ps,af,g⟩ (.pointer (some r)):=fun w _=>by
  subst hr;simp [execOp,hx,hy,Instr.indexAt,asIntOf,GU hu,Instr.sureAddr,sizeOf,typeInfo,hi,hlt]
theorem zal {α:Type}{τ:FS}{T:Ty α}{s:Sl α}{q:α}{e:TypeId}{ti:TypeInfo}(hu:P.underlying t=some (.slice e)) (hi:P.info? e=some ti) (hz:ti.size=T.size)
    (hx:opv L b x=v) (hy:opv L b y = .int k i) (hv:(tSl T).vrel τ v s) (hq:zd s i=some q) :
    zZ P Z PV L b ⟨some d,.indexAddr t x y,ty,ps,af,g⟩ (.pointer (some (zh v (i.toNat * T.size)))):=fun w _=>by
  obtain ⟨a,m,c,rfl,h1,h2,h3,h4,h5,_⟩:=Yv.1 hv;have hlt:=zak hq;rw [<- h1] at hlt;cases a with
  |none=>grind
  |some a=>
    simp [execOp,hx,hy,Instr.indexAt,asIntOf,GU hu,sizeOf,typeInfo,hi,hz,hlt,zh]
theorem V8 {α:Type}{T:OTy α}{s:Sl α}{q:α}{e e':TypeId}{ti:TypeInfo}(m:Nat) (hu:P.underlying t=some (.slice e)) (hi:P.info? e=some ti) (hz:ti.size=T.size)
    (hx:opv L b x=v) (hy:opv L b y = .int k i) (hp:PV[m]?=some (.row T e' v s)) (hq:zd s i=some q) :
    zZ P Z PV L b ⟨some d,.indexAddr t x y,ty,ps,af,g⟩ (.pointer (some (zh v (i.toNat * T.size)))):=fun w hw=>by
  obtain ⟨hh,hr,_⟩:=hw.get hp;obtain ⟨a,c,rfl,h1,h2,_⟩:=zo.form hr;have hlt:=zak hq;cases a with
  |none=>grind
  |some a=>
    simp [execOp,hx,hy,Instr.indexAt,asIntOf,GU hu,sizeOf,typeInfo,hi,hz,hlt,zh]
def Zd:TypeDesc->Bool
 | .struct _ | .array _ _=>true
 |_=>false
theorem zd3 {w:World}(a:Addr) (cs:List Value) (h:∀ (j:Nat) (u:Value),cs[j]?=some u->w.cell? (a.add j)=some u):(loadCells a cs.length).run P w = .ok cs.toArray w:=
 run_loadCells_list w a cs h
theorem W1 {w:World}{td:TypeDesc}{ti:TypeInfo}(a:Addr) (cs:List Value) (hu:P.underlying t=some td) (hi:P.info? t=some ti) (hz:ti.size=cs.length) (h1:Zd td=false->cs.length=1)
    (h:∀ (j:Nat) (u:Value),cs[j]?=some u->w.cell? (a.add j)=some u):(loadVar t a).run P w = .ok (yu (Zd td) cs) w:=by
  unfold loadVar;have hagg:(Go.isAgg t).run P w=Result.ok (Zd td) w:=by
    unfold Go.isAgg;rw [GV,GU hu];cases td <;> rfl
  rw [GV,hagg];simp only [GW];cases hd:Zd td with
  |true=>
    simp only [jl,GV,sizeOf,typeInfo,GX,GW,hi,GT,hz];rw [zd3 a cs h];simp [yu]
  |false=>
    have hl:=h1 hd
    match cs,hl with
    |[u],_=>
      have:=h 0 u rfl;simp only [Addr.add,jl] at this;simp [load,Sem.run,this,yu]
def Xo {α β:Type}(T:Ty α) (off:Nat) (Tf:Ty β) (proj:α->β):Prop:=∀ Z cs x,T.rel Z cs x->Tf.rel Z ((cs.drop off).take Tf.size) (proj x)
theorem Xo.self {α:Type}(T:Ty α):Xo T 0 T id:=fun Z cs x h=>by
 have:=T.len h;grind
omit [Dfr] in
theorem Xo.fst {α β:Type}{A:Ty α}{C:Ty β}:Xo (zaK A C) 0 A Prod.fst:=by
 rintro Z cs x ⟨c,d,rfl,h,k⟩;have:=A.len h;grind
omit [Dfr] in
theorem Xo.snd {α β:Type}{A:Ty α}{C:Ty β}:Xo (zaK A C) A.size C Prod.snd:=by
 rintro Z cs x ⟨c,d,rfl,h,k⟩;have h1:=A.len h;have h2:=C.len k;grind
end
end Go.Px
namespace Go.Px
variable [Dfr]
theorem Vp (w:World) (o:Obj) (b:Nat) (h:b < w.heap.size):(w.alloc o).heap[b]?=w.heap[b]?:=heap_alloc_old w o h
theorem Yo (w:World) (o:Obj):(w.alloc o).heap[w.heap.size]?=some o:=heap_alloc_new w o
theorem zb6 (w:World) (c:Array Value) (t:TypeId) (a:Addr):(w.alloc (.cells c t (0,0))).frozen? a=w.frozen? a:=by
 by_cases h:a.block=w.heap.size
 ·have h1:(w.alloc (.cells c t (0,0))).heap[a.block]?=some (.cells c t (0,0)):=by rw [h];exact Yo _ _
  have h2:w.heap[a.block]?=none:=by rw [h];simp
  simp [World.frozen?,h1,h2]
 ·exact World.frozen?_alloc_old w _ a h
theorem zhl (w:World) (g:Nat) (cs:Array Value) (a:Addr):(w.setRow g cs).frozen? a=w.frozen? a:=by
 unfold World.frozen? World.setRow;grind
def z8 (q:Nat) (e:TypeId) (c:Array Value):zc:=fun b k=>if b=q then (match k with | 0=>some (.shape e c.size) | j+1=>(c[j]?).map .cell) else none
theorem XQ {w:World}{q:Nat}{e:TypeId}{c:Array Value}(h:w.heap[q]?=some (.cells c e (0,0))):(z8 q e c).sub w:=by
 intro b k x hx;unfold z8 at hx;split at hx
 ·rename_i hb;subst hb;cases k with
  |zero=>simp at hx;subst hx;exact ⟨c,h,rfl,rfl⟩
  |succ j=>
   simp only at hx;cases hc:c[j]? with
   |none=>grind
   |some v=>rw [hc] at hx;cases hx;exact ⟨c,e,j,h,rfl,hc⟩
 ·cases hx
theorem Y5 {q:Nat}{e:TypeId}{c:Array Value}{b k:Nat}(h:(z8 q e c b k).isSome):b=q/\(k=0\/k - 1 < c.size):=by
 unfold z8 at h;split at h
 ·rename_i hb;refine ⟨hb,?_⟩;grind
 ·cases h
theorem Vq (q:Nat) (e:TypeId) (c:Array Value):z8 q e c q 0=some (.shape e c.size):=by simp [z8]
theorem wX {q:Nat}{e:TypeId}{c:Array Value}{j:Nat}{u:Value}(h:c.toList[j]?=some u):z8 q e c q (j+1)=some (.cell u):=by
 have:c[j]?=some u:=by simpa using h
 simp [z8,this]
theorem Vr (w:World) (c:Array Value) (t:TypeId) (h:zc):Ext w h (w.alloc (.cells c t (0,0))):=
 ⟨rfl,rfl,rfl,by simp,fun b =>.same fun hb=>Vp _ _ _ hb,fun a _ _=>zb6 w c t a⟩
theorem zlF {w:World}{q:Nat}{c c':Array Value}{e:TypeId}{f:Nat×Nat}{h:zc}(hq:w.heap[q]?=some (.cells c e f)) (hs:c'.size=c.size) (hc:∀ o,h q (o+1)=none->c'[o]?=c[o]?):Ext w h (w.setRow q c'):=by
 refine ⟨rfl,rfl,rfl,by simp [World.setRow],fun b=>?_,fun a _ _=>zhl w q c' a⟩;by_cases hb:b=q
 ·subst hb;refine ⟨fun c1 e1 f1 h1=>?_,fun x hx hn=>?_⟩
  ·rw [hq] at h1;cases h1;exact ⟨c',_,setRow_heap w b c c' e f hq,hs,hc,.inl rfl⟩
  ·rw [hq] at hx;cases hx;cases hn
 ·exact .same fun _=>setRow_other w q b c' hb
section
variable {ρ:Type}{n:Nat}{w0:Start}{σ0 Z:FS}{p:G3 ρ}{G:ρ->Act->World->Prop}{L:List (Nat×Value)}{b:Nat->Value}{PV PV':List Priv}
variable {P:Program}{ops:Array Oper}{o:Oper}{rest:List Oper}
variable {H:G3 ρ->List (Nat×Value)->FS->List Priv->Prop}{B d:Nat}{v:Value}{t t' ty:TypeId}{ps:String}{af:Array Edge}{g:G3 (Nat×Bool)}
variable {x y z:Operand}{k:IntKind}{i j:Int}
theorem Inv.alloc_cell {w:World}(h:Inv w0 σ0 Z PV w) (cs:List Value) (T:TypeId):Inv w0 σ0 Z (.cell ⟨w.heap.size,0,none⟩ cs::PV) (w.alloc (.cells cs.toArray T (0,0))):=by
 refine h.cons (h1:=z8 w.heap.size T cs.toArray) ⟨rfl,fun j u hj=>?_⟩ (XQ (Yo _ _)) (Vr _ _ _ _) fun b i hb=>by rw [(Y5 hb).1];grind
 simp only [GY];exact wX (by simpa using hj)
class Frz {α:Type}(T:OTy α) (T':outParam (Ty α)):Prop where
 size:T'.size=T.size
 agg:T'.agg=T.agg
 spec:∀ {Z τ:FS} {h:zc} {cs:List Value} {x:α},Z.le τ->(∀ b o v,h b (o+1)=some (.cell v)->τ b o=some v)->T.rel Z h cs x->T'.rel τ cs x
instance {α:Type}{T:Ty α}:Frz T.o T:=⟨rfl,rfl,fun l _ r=>T.mono l r⟩
omit [Dfr] in
theorem Frz.rels {α:Type}{T:OTy α}{T':Ty α}[f:Frz T T'] {Z τ:FS}{h:zc}{cs:List Value}{xs:List α}(l:Z.le τ) (hh:∀ b o v,h b (o+1)=some (.cell v)->τ b o=some v) (r:T.rels Z h cs xs):T'.rels τ cs xs:=by
 obtain ⟨h1,hs,h2,h3,h4⟩:=r;refine Ty.rels_of (by rw [h1,f.size]) fun i x hx=>?_
 rw [f.size];exact f.spec l (fun b o v e=>hh b o v (h4 i _ _ _ e)) (h2 i x hx)
omit [Dfr] in
theorem zo.fast {α:Type}{T:OTy α}{T':Ty α}[f:Frz T T'] {e:TypeId}{v:Value}{s:Sl α}{Z τ:FS}{h:zc}(l:Z.le τ) (hh:∀ b o v,h b (o+1)=some (.cell v)->τ b o=some v) (r:zo T e v s Z h):(tSl T').vrel τ v s:=by
 refine Yv.2 ?_;rcases r with ⟨rfl,rfl⟩ | ⟨a,rfl,rfl⟩ | ⟨q,cap,cur,hb,gg,rfl,r2,r3,r4,r5,r0,r6,r7,r8,r9,r10⟩
 ·exact ⟨none,0,0,rfl,rfl,rfl,GJ _,GL _,fun _=>⟨rfl,rfl⟩,[],rfl,fun j u hj=>by simp at hj⟩
 ·exact ⟨some a,0,0,rfl,rfl,rfl,GJ _,GL _,(fun h=>by cases h),[],rfl,fun j u hj=>by simp at hj⟩
 ·refine ⟨_,_,_,rfl,rfl,by simp [r2],r3,r4,(fun h=>by cases h),cur.take (s.xs.length * T.size),f.rels l (fun b o v e=>hh b o v (r8 _ _ _ e)) r10,fun j u hj=>⟨_,rfl,?_⟩⟩;rw [Addr.add_eq _ rfl];rw [List.getElem?_take] at hj;split at hj
  ·simpa [FS.cell] using hh _ _ _ (r0 _ _ _ (r7 j u hj))
  ·cases hj
omit [Dfr] in
instance {α:Type}{T:OTy α}{T':Ty α}{e:TypeId}[f:Frz T T']:Frz (zuy T e) (tSl T'):=⟨rfl,rfl,by
 rintro Z τ h cs x l hh ⟨v,rfl,r⟩;have:=r.fast l hh;obtain ⟨a,m,c,rfl,q⟩:=Yv.1 this
 exact ⟨a,m,c,rfl,q⟩⟩
omit [Dfr] in
instance {α β:Type}{A:OTy α}{B:OTy β}{A':Ty α}{B':Ty β}[f:Frz A A'] [k:Frz B B']:Frz (zaN A B) (zaK A' B'):=⟨by simp [zaN,zaK,f.size,k.size],rfl,by
 rintro Z τ h cs x l hh ⟨c,d,h1,h2,rfl,l1,l2,dd,p,q⟩
 exact ⟨c,d,rfl,f.spec l (fun b o v e=>hh b o v (l1 _ _ _ e)) p,k.spec l (fun b o v e=>hh b o v (l2 _ _ _ e)) q⟩⟩
instance {α β:Type}{T:OTy α}{T':Ty α}{g:β->α}[f:Frz T T']:Frz (T.comap g) (T'.comap g):=⟨f.size,f.agg,fun l hh r=>f.spec l hh r⟩
instance {α:Type}{T:OTy α}{T':Ty α}[f:Frz T T']:Frz T.aggr T'.aggr:=⟨f.size,rfl,fun l hh r=>f.spec l hh r⟩
theorem x7 {Z:FS}{h:zc}(b o:Nat) (v:Value) (e:h b (o+1)=some (.cell v)):(Z.with h) b o=some v:=by simp [FS.with,e]
theorem zoi {cs:List Value}(hn:Nat.blt d n=true) (hx:(opv L b x).cells.toList=cs) (h:∀ c:Addr,H p ((d,.pointer (some (c.add 0)))::L) Z (.cell c cs::PV)) :
    wq P n w0 σ0 ⟨some d,.box t x,ty,ps,af,g⟩ p L b Z PV H:=by
  intro r hp a w hi hf K Q hK;unfold Oper.wp;have:(execOp a.eval ⟨some d,.box t x,ty,ps,af,g⟩).run P w = .ok (.value (.pointer (some ⟨w.heap.size,0,none⟩))) (w.alloc (.cells cs.toArray t (0,0))):=by
    subst hx;rw [hf.eval];simp [execOp,Instr.box,newVar,newRow,newObj,Sem.run]
  rw [this,Oper.upon_value];exact hK p _ Z _ _ _ hp (hi.alloc_cell cs t) (hf.put (by simpa [GZ] using hn) _) (h _)
theorem ziD {cs:List Value}{ti:TypeInfo}{zv:Value}(hn:Nat.blt d n=true) (hi':P.info? t=some ti) (hz:ti.zero=some zv) (hx:zv.cells.toList=cs) (h:∀ c:Addr,H p ((d,.pointer (some (c.add 0)))::L) Z (.cell c cs::PV)) :
    wq P n w0 σ0 ⟨some d,.alloc t,ty,ps,af,g⟩ p L b Z PV H:=by
  intro r hp a w hi hf K Q hK;unfold Oper.wp;have:(execOp a.eval ⟨some d,.alloc t,ty,ps,af,g⟩).run P w = .ok (.value (.pointer (some ⟨w.heap.size,0,none⟩))) (w.alloc (.cells cs.toArray t (0,0))):=by
    subst hx;rw [hf.eval];simp [execOp,Instr.alloc,zeroValue,typeInfo,hi',hz,newVar,newRow,newObj,Sem.run]
  rw [this,Oper.upon_value];exact hK p _ Z _ _ _ hp (hi.alloc_cell cs t) (hf.put (by simpa [GZ] using hn) _) (h _)
def zb7:List Value->Prop
 |[]=>True
 |v::r=>v.oneCell'=true/\zb7 r
theorem zb7.mem:∀ {l:List Value},zb7 l->∀ u∈l,u.oneCell'=true
 |[],_,_,h=>by simp at h
 |v::r,⟨h,k⟩,u,hu=>by
  rcases Ua.1 hu with rfl | hu
  ·exact h
  ·exact k.mem u hu
def zc.put (h:zc) (q off:Nat) (vs:List Value):zc:=fun b k=>if b=q/\off < k/\k<=off+vs.length then (vs[k - 1 - off]?).map .cell else h b k
theorem zc.put_in {h:zc}{q off:Nat}{vs:List Value}{j:Nat}{u:Value}(hj:vs[j]?=some u):h.put q off vs q (off+j+1)=some (.cell u):=by
 have hl:=(GC.1 hj).1;unfold zc.put;grind
theorem zc.put_out {h:zc}{q off:Nat}{vs:List Value}{b k:Nat}(hc:¬ (b=q/\off < k/\k<=off+vs.length)):h.put q off vs b k=h b k:=by
 unfold zc.put;rw [js hc]
theorem zc.put_dom {h:zc}{q off:Nat}{vs:List Value}(hall:∀ j,j < vs.length->(h q (off+j+1)).isSome) {b k:Nat}(hx:(h.put q off vs b k).isSome):(h b k).isSome:=by
 by_cases hc:b=q/\off < k/\k<=off+vs.length
 ·obtain ⟨rfl,h1,h2⟩:=hc;have:=hall (k - 1 - off) (by omega);grind
 ·rwa [zc.put_out hc] at hx
theorem zeF {w:World}{h:zc}{q off:Nat}{vs:List Value}{c:Array Value}{e:TypeId}(hs:h.sub w) (hb:w.heap[q]?=some (.cells c e (0,0))) (hfit:off+vs.length<=c.size) (hcells:∀ j,j < vs.length->∃ u,h q (off+j+1)=some (.cell u)) :
    (h.put q off vs).sub (w.setRow q (c.toList.take off++vs++c.toList.drop (off+vs.length)).toArray)/\Ext w h (w.setRow q (c.toList.take off++vs++c.toList.drop (off+vs.length)).toArray):=by
  have hget:∀ o,(c.toList.take off++vs++c.toList.drop (off+vs.length)).toArray[o]?=if off<=o/\o < off+vs.length then vs[o - off]? else c[o]?:=by
    intro o;have htl:(c.toList.take off).length=off:=by simp;omega
    simp only [List.getElem?_toArray];by_cases h1:o < off
    ·grind
    · by_cases h2:o < off+vs.length
      ·rw [jr ⟨by omega,h2⟩,Ub,Uc (by omega),htl,Ud (by omega)]
      grind
  have hsize:(c.toList.take off++vs++c.toList.drop (off+vs.length)).toArray.size=c.size:=by simp;omega
  refine ⟨?_,zlF hb hsize fun o ho=>?_⟩
  · intro b k x hx;have hnew:=setRow_heap w q c (c.toList.take off++vs++c.toList.drop (off+vs.length)).toArray e (0,0) hb;by_cases hc:b=q/\off < k/\k<=off+vs.length
    · obtain ⟨rfl,h1,h2⟩:=hc;unfold zc.put at hx;rw [jr ⟨rfl,h1,h2⟩] at hx;have hlt2:k - 1 - off < vs.length:=by omega
      rw [GI hlt2] at hx;cases hx;refine ⟨_,e,k - 1,hnew,by omega,?_⟩;grind
    · rw [zc.put_out hc] at hx;have:=hs b k x hx;by_cases hbq:b=q
      · subst hbq;cases x with
        |cell v=>
          obtain ⟨c',e',o',h1,rfl,h3⟩:=this;rw [hb] at h1;cases h1;refine ⟨_,e,o',hnew,rfl,?_⟩;grind
        |shape e' n'=>
          obtain ⟨c',h1,rfl,h3⟩:=this;rw [hb] at h1;cases h1;exact ⟨_,hnew,rfl,hsize.trans h3⟩
        |obj o=>obtain ⟨h1,_,h3⟩:=this;rw [hb] at h1;cases h1;cases h3
      · have ho:=setRow_other w q b (c.toList.take off++vs++c.toList.drop (off+vs.length)).toArray hbq;cases x with
        |cell v=>obtain ⟨c',e',o',h1,h2,h3⟩:=this;exact ⟨c',e',o',ho.trans h1,h2,h3⟩
        |shape e' n'=>obtain ⟨c',h1,h2,h3⟩:=this;exact ⟨c',ho.trans h1,h2,h3⟩
        |obj o=>obtain ⟨h1,h2,h3⟩:=this;exact ⟨ho.trans h1,h2,h3⟩
  ·rw [hget,js];rintro ⟨h1,h2⟩;obtain ⟨u,hu⟩:=hcells (o - off) (by omega);rw [show off+(o - off)+1=o+1 by omega,ho] at hu;cases hu
theorem zaO {w:World}{h:zc}{q off:Nat}{vs:List Value}(hs:h.sub w) (hlt:q < w.heap.size) (hcells:∀ j,j < vs.length->∃ u,h q (off+j+1)=some (.cell u)) (hone:∀ u∈vs,u.oneCell'=true) (hne:vs≠[]) :
    ∃ w',(storeCells ⟨q,off,none⟩ vs).run P w = .ok () w'/\(h.put q off vs).sub w'/\Ext w h w':=by
  obtain ⟨u0,hu0⟩:=hcells 0 (by grind);obtain ⟨c,e,o0,hb,_,_⟩:=hs _ _ _ hu0;have hin:∀ j,j < vs.length->off+j < c.size:=fun j hj=>by
    obtain ⟨u,hu⟩:=hcells j hj;obtain ⟨c',e',o',hb',h2,h3⟩:=hs _ _ _ hu;grind
  have hfit:off+0+vs.length<=c.size:=by
    have hl:0 < vs.length:=by grind
    have:=hin (vs.length - 1) (by omega);omega
  have hst:=run_storeCells_at (P:=P) q off e vs 0 c w hb hfit hone;simp only [Ue] at hst hfit;have hst2:(storeCells ⟨q,off,none⟩ vs).run P w = .ok () (w.setRow q (c.toList.take off++vs++c.toList.drop (off+vs.length)).toArray):=hst;exact ⟨_,hst2,zeF hs hb hfit hcells⟩
theorem zhm {a:Addr}{off:Nat}{cs vs cs':List Value}{ti:TypeInfo}(m:Nat) (hi':P.info? t=some ti) (hx:opv L b x = .pointer (some (a.add off))) (hy:(opv L b y).cells.toList=vs)
    (hs:ti.size=vs.length) (h1:zb7 vs) (hm:PV[m]?=some (.cell a cs)) (ho:Nat.ble (off+vs.length) cs.length=true) (hcs:cs.take off++vs++cs.drop (off+vs.length)=cs') (hPV:PV.set m (.cell a cs')=PV') (h0:Nat.blt 0 vs.length=true)
    (h:H p L Z PV'):wq P n w0 σ0 ⟨none,.store t x y,ty,ps,af,g⟩ p L b Z PV H:=by
  intro r hp ac w hi hf K Q hK;unfold Oper.wp;have ho':off+vs.length<=cs.length:=Uf ho;have hsz:(opv L b y).cells.size=vs.length:=by grind
  subst hPV;have key:∃ w',(storeCells (a.add off) vs).run P w = .ok () w'/\Inv w0 σ0 Z (PV.set m (.cell a cs')) w':=by
    obtain ⟨hh,hsep,hg⟩:=hi.own;obtain ⟨h1',h2',e1,e2,e3,e4,e5,_⟩:=hsep.pick hm;have e1:ZW a cs h1':=e1;have hne:vs≠[]:=by intro e;subst e;simp at h0
    have hcells:∀ g,ZW a cs g->∀ j,j < vs.length->∃ u,g a.block (a.off+off+j+1)=some (.cell u):=fun g hg j hj=>by
      have hlt:off+j < cs.length:=by omega
      exact ⟨_,by rw [show a.off+off+j=a.off+(off+j) by omega];exact hg.2 (off+j) _ (GI hlt)⟩
    have hlt:a.block < w.heap.size:=by
      obtain ⟨u,hu⟩:=hcells _ e1 0 (by grind);exact Bit.at_lt (hg.sub _ _ _ (e2 _ _ _ hu))
    obtain ⟨w',k1,k2,k3⟩:=zaO (P:=P) (hg.sub.mono e2) hlt (hcells _ e1) h1.mem hne;rw [Addr.add_eq a e1.1];refine ⟨w',k1,hi.change hm fun g hg' hgs=>?_⟩;have hg':ZW a cs g:=hg';obtain ⟨w'',j1,j2,j3⟩:=zaO (P:=P) hgs hlt (hcells _ hg') h1.mem hne;rw [k1] at j1;cases j1;refine ⟨_,⟨hg'.1,fun j u hj=>?_⟩,j2,j3,fun b i hx =>.inl (zc.put_dom (fun j hj=>by grind) hx)⟩;subst hcs;have htl:(cs.take off).length=off:=by simp;omega
    by_cases c1:j < off
    ·rw [Ub,Ud (by omega),Ug c1] at hj;rw [zc.put_out (by omega)];exact hg'.2 j u hj
    · by_cases c2:j < off+vs.length
      ·rw [Ub,Uc (by omega),htl,Ud (by omega)] at hj;rw [show a.off+j+1=a.off+off+(j - off)+1 by omega];exact zc.put_in hj
      ·rw [Uc (by simp;omega),Uh] at hj;simp only [jt,htl] at hj;rw [show off+vs.length+(j - (off+vs.length))=j by omega] at hj;rw [zc.put_out (by omega)];exact hg'.2 j u hj
  obtain ⟨w',hst,hi2⟩:=key;have:(execOp ac.eval ⟨none,.store t x y,ty,ps,af,g⟩).run P w = .ok .skip w':=by
    rw [hf.eval];simp only [execOp,Instr.storeAt,Instr.sureAddr,hx,storeVar,sizeOf,typeInfo,GV,GT,GX,GW,hi',hsz,hs,Ui,not_true,jk,hy,hst]
  rw [this,Oper.upon_skip];exact hK p L Z _ _ _ hp hi2 hf h
end
end Go.Px
