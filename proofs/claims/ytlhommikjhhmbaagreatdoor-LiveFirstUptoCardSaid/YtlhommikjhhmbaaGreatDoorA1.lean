/- Part A1. -/
import Derived.WalkKit
import Derived.WalkSpells
import Derived.WalkLawsBesides
import Derived.OrdersHeld
import Derived.KernelRfl
import Derived.Laws.OwnMore
import Derived.MapKept
set_option linter.unusedVariables false
set_option linter.unusedSectionVars false
set_option linter.unusedSimpArgs false
open Array renaming replicate->qN,getElem?_setIfInBounds_ne->qO
open Bool renaming true->I,false->N
open Go.Instr renaming findNow->W,sureAddr->qx,indexAt->qy,sameBits->qM
open Go.Op renaming intCmp->U,intArith->qk,unary->qG,intDiv->qH
open Go.Result renaming ok->X
open Go.Sem renaming run->O
open Go.Value renaming oneCell'->qb,cells->qC
open Go.World renaming cell?->Y,setRow->qA,frozen?->qB
open List renaming map->qs,drop->qv,range->qJ,drop_append->qK,cons->qL
open Nat renaming beq->V,blt->qo,add_sub_cancel_left->qI
open Option renaming some->E,none->F,none->qc,map->qD,isSome_none->qE,getD_none->qF
namespace Go.Px
theorem Zc{p:Prop}(h:p:=by omega):p:=h
theorem jO{p:Prop}(h:p:=by kernel_rfl):p:=h
theorem je{p:Prop}(h:p:=by simp):p:=h
theorem jE{p:Prop}(h:p:=by grind):p:=h
theorem ji{p:Prop}(h:p:=by simp;omega):p:=h
theorem jI{p:Prop}(h:p:=by decide):p:=h
theorem ja{p:Prop}(h:p:=by decide +kernel):p:=h
theorem Dj:∀{α:Sort _}(a b:α),(a≠b)=¬a=b:=@ne_eq
theorem Di:∀{α:Type _}{xs:List α}{i j:Nat},(qv i xs)[j]? =xs[i + j]?:=@List.getElem?_drop
theorem Dh:∀{α : Type _} {l : List α} {i j : Nat},i < j->(List.take j l)[i]? = l[i]?:=@List.getElem?_take_of_lt
theorem Dg:∀{n m:Nat},n.ble m=I->n<=m:=@Nat.le_of_ble_eq_true
theorem Df:∀(n:Nat),n + 0=n:=@Nat.add_zero
theorem De:∀{α : Type _} {a c : List α} {i : Nat},i < a.length->(a++c)[i]? = a[i]?:=@List.getElem?_append_left
theorem Dd:∀{α:Type _}{a c:List α}{i:Nat},a.length<=i->(a++c)[i]? =c[i - a.length]?:=@List.getElem?_append_right
theorem Dc:∀{α:Type _}(«as» bs cs:List α),«as»++bs++cs=«as»++(bs++cs):=@List.append_assoc
theorem Db:∀{α:Type _}{b:α}{l:List α}{a:α},a∈b::l↔a=b\/a∈l:=@List.mem_cons
theorem Da:∀{x y : Nat},(x.blt y = I) = (x < y):=@Nat.blt_eq
theorem UZ:∀(n:Nat),0 + n=n:=@Nat.zero_add
theorem UY:∀(P:Program) (w:World),O P program w=X P w:=@run_program
theorem UX:∀{α β:Type}(a:α) (w:World) (f:α->World->Result β),(X a w).andThen f=f a w:=@Result.andThen_ok
theorem UW:∀{α β:Type}(P:Program) (w:World) (x:Sem α) (f:α->Sem β),O P (x >>=f) w=(O P x w).andThen λa w'=> O P (f a) w':=@Sem.run_bind
theorem UV:∀{P:Program}{t:TypeId}{d:TypeDesc},P.underlying t=E d->∀(w:World),O P (underlying t) w=X d w:=@run_underlying
theorem UU:∀{α:Type}(P:Program) (w:World) (a:α),O P (pure a) w=X a w:=@Sem.run_pure
theorem UT:∀{α:Type _}{l:List α}{i:Nat}{a:α},l[i]? =E a->a∈l:=@List.mem_of_getElem?
theorem US:∀(n m k:Nat),(n + m) * k=n * k + m * k:=@Nat.add_mul
theorem UR:∀{α:Type _}{i:Nat}{l:List α},(qv i l).length=l.length - i:=@List.length_drop
theorem UQ:∀{α:Type _}{l:List α},l.length=0->l=[]:=@List.eq_nil_of_length_eq_zero
theorem UP:∀{α:Type _}{l:List α}{i:Nat},l.length<=i->l[i]? =none:=@List.getElem?_eq_none
theorem UO:∀(a b:Bool),((a || b)=I)=(a=I\/b=I):=@Bool.or_eq_true
theorem UN:∀{α:Type _}{x:Option α},x.isSome=I↔∃a,x=E a:=@Option.isSome_iff_exists
theorem UM:∀{n m k:Nat},n<=m->m<=k->n<=k:=@Nat.le_trans
theorem UL:∀(n:Nat),0<=n:=@Nat.zero_le
theorem UK:∀(n:Nat),n<=n:=@Nat.le_refl
theorem UJ:∀{α : Type _} {l : List α} {i : Nat} (h : i < l.length),l[i]? = E l[i]:=@List.getElem?_eq_getElem
theorem UI:∀{α : Type _} {l : List α} {i j : Nat} {a : α},(l.set i a)[j]? = if i = j then if i < l.length then E a else F else l[j]?:=@List.getElem?_set
theorem UH:∀{α:Type _}{a c:List α},(∀(i:Nat),a[i]? =c[i]?)->a=c:=@List.ext_getElem?
theorem UG:∀(p:Prop),(True/\p)=p:=@true_and
theorem UF:∀{α:Type _}{β:Type _}{f:α->β}{a:α}{l:List α},qs f (a::l)=f a::qs f l:=@List.map_cons
theorem UE:∀{α:Type _}{a:α}{l:List α},(a::l).Nodup↔¬a∈l/\l.Nodup:=@List.nodup_cons
theorem UD:∀{α:Type _}{l:List α},l.Nodup↔List.Pairwise (λa c=> a≠c) l:=@List.nodup_iff_pairwise_ne
theorem UC:∀{α:Type _}{i:Nat}{a:α}{l:List α},l[i]? =E a↔∃h,l[i]=a:=@List.getElem?_eq_some_iff
theorem UB:∀{α:Type _}{β:Type _}(a:α) (f:α->β),qD f (E a)=E (f a):=@Option.map_some
theorem UA:∀{α:Type _}{β:Type _}{f:α->β}{l:List α}{i:Nat},(qs f l)[i]? =qD f l[i]?:=@List.getElem?_map
theorem U9:∀{α:Type _}{i:Nat}{b:α}{xs:Array α},xs[i]? =E b↔∃h,xs[i]=b:=@Array.getElem?_eq_some_iff
theorem U8:∀{α:Sort _}(a b:α),(bif N then a else b)=b:=@cond_false
theorem U7:∀{α:Type _}{xs:Array α}{i:Nat}{d:α},xs.getD i d=xs[i]?.getD d:=@Array.getD_eq_getD_getElem?
theorem U6:∀{α:Type _}{«as»:List α}{i:Nat},«as».length<=i->qv i «as»=[]:=@List.drop_eq_nil_of_le
theorem U5:∀{α:Type _}{a:α}{s t:List α},a∈s++t↔a∈s\/a∈t:=@List.mem_append
abbrev U4(a:Int):=IntKind.i64.wrap a
abbrev U3:=@Option
abbrev U0:=ByteArray
theorem jj{α β:Type _}(a:α)(f:α->U3 β):(E a).bind f=f a:=rfl
theorem jk:(N=I)=False:=Bool.false_eq_true
theorem jl{p:Prop}[Decidable p]:(decide p=I)=p:=decide_eq_true_eq
theorem jm{α β γ:Type _}(f:α->γ)(g:β->γ)(a:β):Sum.elim f g (.inr a)=g a:=rfl
theorem jo{α β γ:Type _}(f:α->γ)(g:β->γ)(a:α):Sum.elim f g (.inl a)=f a:=rfl
theorem jp{α:Sort _}{_:Decidable False}(t e:α):ite False t e=e:=if_false t e
theorem jq{α:Sort _}{_:Decidable True}(t e:α):ite True t e=t:=if_true t e
theorem jr(h:Decidable False):decide False=false:=decide_false h
theorem js(h:Decidable True):decide True=true:=decide_true h
theorem jt:(¬True)=False:=not_true_eq_false
theorem ju:(¬False)=True:=not_false_eq_true
theorem jv{c:Prop}{h:Decidable c}(a:c){α:Sort _}{t e:α}:ite c t e=t:=if_pos a
theorem jx{c:Prop}{h:Decidable c}(a:¬c){α:Sort _}{t e:α}:ite c t e=e:=if_neg a
theorem jy{α:Type _}{a bs:List α}:(a++bs).length=a.length+bs.length:=List.length_append
theorem jz{α:Type _}{a:α}{c:List α}:(a::c).length=c.length+1:=rfl
theorem g9{α:Type _}{a:α}:[a].length=1:=rfl
theorem gc{α:Type _}{l:List α}{n:Nat}(h:n<l.length):l[n]∈l:=List.getElem_mem h
theorem gd{α β:Type _}{o:U3 α}{f:α->U3 β}{b:β}(h:o.bind f=E b):∃a,o=E a/\f a=E b:=Option.bind_eq_some_iff.1 h
theorem ge{a b:Nat}(h:V a b=I):a=b:=Nat.eq_of_beq_eq_true h
theorem gf(a b:Bool):((a&&b)=I)=(a=I/\b=I):=Bool.and_eq_true a b
theorem gh{α β γ:Type _}(x:U3 α)(f:α->U3 β)(g:β->U3 γ):(x.bind f).bind g=x.bind λy=>(f y).bind g:=Option.bind_assoc x f g
theorem gm{p:Prop}[Decidable p](h:p):decide p=true:=decide_eq_true h
abbrev FS:=Nat->Nat->U3 Value
def FS.le(Z τ:FS):Prop:=∀b o v,Z b o=E v->τ b o=E v
theorem FS.le.refl(Z:FS):Z.le Z:=λ_ _ _ h=>h
theorem FS.le.trans{a b c:FS}(h:a.le b)(k:b.le c):a.le c:=λx o v e=>k x o v (h x o v e)
def FS.cell(Z:FS)(a:Addr):U3 Value:=if a.spot.isSome then F else Z a.block a.off
theorem FS.le.cell{Z τ:FS}(h:Z.le τ){a:Addr}{v:Value}(c:Z.cell a=E v):τ.cell a=E v:=by
 unfold FS.cell at *
 split at c
 ·cases c
 ·rename_i hs;rw[jx hs];exact h _ _ _ c
def FS.sub(Z:FS)(w:World):Prop:=∀b o v,Z b o=E v->w.cell? ⟨b,o,F⟩=E v
theorem FS.sub.cell{Z:FS}{w:World}(h:Z.sub w){a:Addr}{v:Value}(c:Z.cell a=E v):w.cell? a=E v:=by
 unfold FS.cell at c;split at c
 ·cases c
 ·rename_i hs;have:=h _ _ _ c;let⟨b,o,e⟩:=a;cases e with
  |none=>exact this
  |some _=>simp at hs
theorem FS.le.sub{Z τ:FS}{w:World}(h:Z.le τ)(k:τ.sub w):Z.sub w:=λb o v e=>k b o v (h b o v e)
def zc2:Value->Bool
 | .agg _=>I
 |_=>N
structure Ty(α:Type) where
 size:Nat
 agg:Bool
 rel:FS->List Value->α->Prop
 len:∀{Z cs x},rel Z cs x->cs.length=size
 mono:∀{Z τ:FS} {cs x},Z.le τ->rel Z cs x->rel τ cs x
 one:∀{Z cs x},rel Z cs x->∀u∈cs,u.oneCell'=I
 sz:agg=N->size=1
def Ty.vrel{α:Type}(T:Ty α)(Z:FS)(v:Value)(x:α):Prop:=T.rel Z v.cells.toList x/\zc2 v=T.agg
def Ty.rels{α:Type}(T:Ty α)(Z:FS):List Value->List α->Prop
 |cs,[]=>cs=[]
 |cs,x::xs=>∃c d,cs=c++d/\T.rel Z c x/\T.rels Z d xs
section
variable {α:Type}{T:Ty α}{Z τ:FS}
theorem Ty.rels_mono(h:Z.le τ):∀{xs:List α}{cs:List Value},T.rels Z cs xs->T.rels τ cs xs
 |[],_,r=>r
 |_::_,_,⟨c,d,e,r,s⟩=>⟨c,d,e,T.mono h r,Ty.rels_mono h s⟩
theorem Ty.rels_len:∀{xs:List α}{cs:List Value},T.rels Z cs xs->cs.length=xs.length * T.size
 |[],_,r=>by simp[show _=[] from r]
 |x::xs,_,⟨c,d,e,r,s⟩=>by
  subst e;have h1:=T.len r;have h2:=Ty.rels_len s;grind
theorem Ty.rels_one:∀{xs:List α}{cs:List Value},T.rels Z cs xs->∀u∈cs,u.oneCell'=I
 |[],_,r=>by rw[show _=[] from r];simp
 |x::xs,_,⟨c,d,e,r,s⟩=>by
  subst e;intro u a;rcases U5.1 a with h | h
  ·exact T.one r u h
  ·exact Ty.rels_one s u h
theorem Ty.rels_append:∀{xs:List α}{cs:List Value}{a:List α}{ds:List Value},T.rels Z cs xs->T.rels Z ds a->T.rels Z (cs++ds) (xs++a)
 |[],_,_,_,r,s=>by rw[show _=[] from r];exact s
 |x::xs,_,_,_,⟨c,d,e,r,q⟩,s=>by subst e;exact⟨c,_,jE,r,Ty.rels_append q s⟩
theorem Ty.rels_get:∀{xs:List α}{cs:List Value}(i:Nat) {x:α},T.rels Z cs xs->xs[i]?=E x->
    T.rel Z ((cs.drop (i * T.size)).take T.size) x
 |[],_,i,_,_,hx=>by simp at hx
 |y::xs,_,0,x,⟨c,d,e,r,s⟩,hx=>by
  simp at hx;subst hx;subst e;have:=T.len r;grind
 |y::xs,_,i+1,x,⟨c,d,e,r,s⟩,hx=>by
  subst e;have h1:=T.len r;have h2:=Ty.rels_get i s (by simpa using hx);rw[(jE:(i+1) * T.size=c.length+i * T.size),qK];simp only[qI];rw[U6 Zc];exact h2
theorem Ty.rels_drop:∀{xs:List α}{cs:List Value}(i:Nat),T.rels Z cs xs->T.rels Z (cs.drop (i * T.size)) (xs.drop i)
 |xs,cs,0,r=>by simpa using r
 |[],cs,i+1,r=>by rw[show cs=[] from r];simp[Ty.rels]
 |x::xs,_,i+1,⟨c,d,e,r,s⟩=>by
  subst e;have h1:=T.len r;rw[(jE:(i+1) * T.size=c.length+i * T.size),qK];simp only[qI];rw[U6 Zc];exact Ty.rels_drop i s
theorem Ty.rels_take:∀{xs:List α}{cs:List Value}(i:Nat),T.rels Z cs xs->T.rels Z (cs.take (i * T.size)) (xs.take i)
 |xs,cs,0,r=>by simp[Ty.rels]
 |[],cs,i+1,r=>by rw[show cs=[] from r];simp[Ty.rels]
 |x::xs,_,i+1,⟨c,d,e,r,s⟩=>by
  subst e;have h1:=T.len r;refine⟨c,d.take (i * T.size),?_,r,Ty.rels_take i s⟩;rw[(jE:(i+1) * T.size=c.length+i * T.size),List.take_append];grind
end
structure Sl(α:Type) where
 xs:List α
 nn:Bool
 deriving Inhabited
def Sl.nil{α:Type}:Sl α:=⟨[],N⟩
def Sl.len{α:Type}(s:Sl α):Int:=(s.xs.length:Int)
def zAO(k:IntKind):Ty Int where
 size:=1
 agg:=false
 rel _ cs x:=cs=[.int k x]
 len h:=by simp[h]
 mono _ h:=h
 one h:=by simp[h,qb]
 sz _:=rfl
def zzT:Ty Bool where
 size:=1
 agg:=false
 rel _ cs x:=cs=[.bool x]
 len h:=by simp[h]
 mono _ h:=h
 one h:=by simp[h,qb]
 sz _:=rfl
def znX:Ty ByteArray where
 size:=1
 agg:=false
 rel _ cs x:=cs=[.string x]
 len h:=by simp[h]
 mono _ h:=h
 one h:=by simp[h,qb]
 sz _:=rfl
def zzU:Ty Unit where
 size:=0
 agg:=true
 rel _ cs _:=cs=[]
 len h:=by simp[h]
 mono _ h:=h
 one h:=by simp[h]
 sz h:=by simp at h
def slAt{α:Type}(T:Ty α)(Z:FS)(a:U3 Addr)(n c:Nat)(s:Sl α):Prop:=
 n=s.xs.length/\a.isSome=s.nn/\n<=c/\c<=maxLen/\(a=F->n=0/\c=0)/\
 ∃cells,T.rels Z cells s.xs/\∀j u,cells[j]?=E u->∃e,a=E e/\Z.cell (e.add j)=E u
def tSl{α:Type}(T:Ty α):Ty (Sl α) where
 size:=1
 agg:=false
 rel Z cs s:=∃a n c,cs=[.slice a n c]/\slAt T Z a n c s
 len:=jE
 mono:=by
  rintro Z τ cs s h ⟨a,n,c,rfl,h1,h2,K,q,m,cells,e,r⟩;refine⟨a,n,c,rfl,h1,h2,K,q,m,cells,T.rels_mono h e,λj u A=>?_⟩;let⟨w,C,l⟩:=r j u A;exact⟨w,C,h.cell l⟩
 one:=by rintro Z cs s ⟨a,n,c,rfl,_⟩;simp[qb]
 sz _:=rfl
def zby{α β:Type}(A:Ty α)(B:Ty β):Ty (α×β) where
 size:=A.size+B.size
 agg:=true
 rel Z cs x:=∃c d,cs=c++d/\A.rel Z c x.1/\B.rel Z d x.2
 len:=by rintro Z cs x ⟨c,d,rfl,h,k⟩;simp[A.len h,B.len k]
 mono:=by rintro Z τ cs x h ⟨c,d,rfl,p,q⟩;exact⟨c,d,rfl,A.mono h p,B.mono h q⟩
 one:=by
  rintro Z cs x ⟨c,d,rfl,h,k⟩ u a;rcases U5.1 a with m | m
  ·exact A.one h u m
  ·exact B.one k u m
 sz h:=by simp at h
def Ty.comap{α β:Type}(T:Ty α)(f:β->α):Ty β where
 size:=T.size
 agg:=T.agg
 rel Z cs x:=T.rel Z cs (f x)
 len h:=T.len h
 mono h r:=T.mono h r
 one r:=T.one r
 sz h:=T.sz h
def Ty.aggr{α:Type}(T:Ty α):Ty α where
 size:=T.size
 agg:=true
 rel Z cs x:=T.rel Z cs x
 len h:=T.len h
 mono h r:=T.mono h r
 one r:=T.one r
 sz h:=by simp at h
section
variable {Z:FS}{v:Value}
theorem zqy{x:ByteArray}:znX.vrel Z v x↔v = .string x:=by
 cases v<;>simp[Ty.vrel,znX,qC,zc2]
theorem YS{α:Type}{T:Ty α}{s:Sl α}:(tSl T).vrel Z v s↔∃a n c,v = .slice a n c/\slAt T Z a n c s:=by
 cases v<;>simp[Ty.vrel,tSl,qC,zc2]
def yF(agg:Bool)(cs:List Value):Value:=bif agg then .agg cs.toArray else cs.headD default
end
def look(L:List (Nat×Value))(b:Nat->Value)(i:Nat):Value:=
 match L with
 |[]=>b i
 |(j,v)::r=>bif V i j then v else look r b i
def opv(L:List (Nat×Value))(b:Nat->Value):Operand->Value
 | .tmp t=>look L b t
 | .const v=>v
 | .global g =>.pointer (E ⟨g,0,F⟩)
 | .func f =>.func (.func f) #[] #[]
class Dfr where
 l:List Deferred
instance dfr0:Dfr:=⟨[]⟩
variable [Dfr]
structure Fits(n:Nat)(L:List (Nat×Value))(b:Nat->Value)(a:Act):Prop where
 defers:a.defers=Dfr.l
 size:a.tmps.size=n
 get:∀i,a.tmps.getD i undef=look L b i
theorem Fits.eval{n L b a}(h:Fits n L b a):a.eval=opv L b:=by
 funext x;cases x<;>simp[Act.eval,opv,h.get]
theorem Fits.put{n L b a}(h:Fits n L b a){d:Nat}(hd:d < n)(v:Value):Fits n ((d,v)::L) b (a.put (E d) v):=by
 refine⟨h.defers,by simp[Act.put,h.size],λi=>?_⟩;have c:=h.get i;have hs:=h.size;simp only[Act.put,look,U7,Array.getElem?_setIfInBounds] at c |-
 by_cases e:d=i
 ·subst e;simp[hs,hd]
 ·have:V i d=false:=by
   cases hb:V i d with
   |false=>rfl
   |true=>exact absurd (ge hb).symm e
  grind
def zi9(L:List (Nat×Value))(b:Nat->Value):List (Nat×Value)->Prop
 |[]=>True
 |(i,v)::r=>look L b i=v/\zi9 L b r
omit [Dfr] in
theorem zi9.look{L b}:∀{M},zi9 L b M->∀i,look M (Px.look L b) i=Px.look L b i
 |[],_,i=>rfl
 |(j,v)::r,⟨h,k⟩,i=>by
  simp only[Px.look];cases e:V i j with
  |true=>have:=ge e;grind
  |false=>simp only[U8];exact zi9.look k i
def zfi(ops:Array Oper)(L:List (Nat×Value))(b:Nat->Value)(j:Nat):U3 Bool:=
 match(ops[j]?).bind (·.dst) with
 |some d=>match look L b d with
  | .bool c=>E c
  |_=>F
 |none=>F
theorem Fits.yielded{n L b a}(h:Fits n L b a)(ops:Array Oper):Go.yielded ops a.tmps=zfi ops L b:=by
 funext j;unfold Go.yielded zfi;cases e:(ops[j]?).bind (·.dst) with
 |none=>simp
 |some d=>
  have c:=h.get d;rw[U7] at c;simp only[jj];cases l:a.tmps[d]? with
  |none=>rw[l] at c;simp only[qF] at c;rw[<- c];rfl
  |some v=>grind
inductive Bit where
 |cell (v:Value)
 |shape (e:TypeId) (n:Nat)
 |obj (o:Obj)
abbrev zc:=Nat->Nat->U3 Bit
def xv:Obj->Bool
 | .cells .. =>I
 |_=>N
def Bit.at(w:World)(b k:Nat):Bit->Prop
 | .cell v=>∃c e o,w.heap[b]?=E (.cells c e (0,0))/\k=o+1/\c[o]?=E v
 | .shape e n=>∃c,w.heap[b]?=E (.cells c e (0,0))/\k=0/\c.size=n
 | .obj x=>w.heap[b]?=E x/\k=0/\xv x=N
def zc.none:zc:=λ_ _=>qc
def zc.sub(h:zc)(w:World):Prop:=∀b k x,h b k=E x->x.at w b k
def zc.le(h g:zc):Prop:=∀b k x,h b k=E x->g b k=E x
def zc.disj(h g:zc):Prop:=∀b k,h b k=qc\/g b k=qc
def zc.or(h g:zc):zc:=λb k=>(h b k).or (g b k)
omit [Dfr] in
theorem zc.le.refl(h:zc):h.le h:=λ_ _ _ e=>e
omit [Dfr] in
theorem zc.le.trans{a b c:zc}(h:a.le b)(k:b.le c):a.le c:=λx y z e=>k x y z (h x y z e)
omit [Dfr] in
theorem zc.none_le(h:zc):zc.none.le h:=λ_ _ _ e=>by cases e
omit [Dfr] in
theorem zc.disj.symm{h g:zc}(k:h.disj g):g.disj h:=λb i=>(k b i).symm
omit [Dfr] in
theorem zc.disj.mono{a b c d:zc}(k:a.disj b)(h1:c.le a)(h2:d.le b):c.disj d:=λx y=>by
 rcases k x y with e | e
 ·left;cases h:c x y with
  |none=>rfl
  |some v=>rw[h1 x y v h] at e;cases e
 ·right;cases h:d x y with
  |none=>rfl
  |some v=>rw[h2 x y v h] at e;cases e
omit [Dfr] in
theorem zc.none_disj(h:zc):zc.none.disj h:=λ_ _ =>.inl rfl
theorem zc.disj_none(h:zc):h.disj zc.none:=λ_ _ =>.inr rfl
theorem zc.le_or(h g:zc):h.le (h.or g):=λb k x e=>by simp[zc.or,e]
theorem zc.le_or_right{h g:zc}(d:h.disj g):g.le (h.or g):=λb k x e=>by
 rcases d b k with e' | e'
 ·simp[zc.or,e,e']
 grind
theorem zc.or_le{h g a:zc}(c:h.le a)(l:g.le a):(h.or g).le a:=λb k x e=>by
 unfold zc.or at e;cases h1:h b k with
 |some y=>rw[h1] at e;simp at e;subst e;exact c _ _ _ h1
 |none=>rw[h1] at e;simp at e;exact l _ _ _ e
theorem zc.or_disj{h g a:zc}(c:h.disj a)(l:g.disj a):(h.or g).disj a:=λb k=>by
 rcases c b k with e | e
 ·rcases l b k with e' | e'
  ·left;simp[zc.or,e,e']
  grind
 grind
omit [Dfr] in
theorem zc.sub.mono{h g:zc}{w:World}(k:g.sub w)(l:h.le g):h.sub w:=λb i x e=>k b i x (l b i x e)
theorem zc.or_sub{h g:zc}{w:World}(a:h.sub w)(c:g.sub w):(h.or g).sub w:=λb k x e=>by
 unfold zc.or at e;cases h1:h b k with
 |some y=>rw[h1] at e;simp at e;subst e;exact a _ _ _ h1
 |none=>rw[h1] at e;simp at e;exact c _ _ _ e
theorem Bit.at_lt{w:World}{b k:Nat}{x:Bit}(h:x.at w b k):b < w.heap.size:=by
 cases x with
 |cell v=>let⟨c,e,o,h,_⟩:=h;grind
 |shape e n=>let⟨c,h,_⟩:=h;grind
 |obj o=>exact(U9.1 h.1).1
structure Priv where
 holds:FS->zc->Prop
 mono:∀{Z τ:FS} {h g:zc},Z.le τ->h.le g->holds Z h->holds τ g
def Sep(Z:FS)(PV:List Priv)(h:zc):Prop:=
 ∃hs:Nat->zc,(∀(i:Nat) (p:Priv),PV[i]?=E p->p.holds Z (hs i))/\(∀i j,i≠j->(hs i).disj (hs j))/\∀i,(hs i).le h
omit [Dfr] in
theorem Sep.mono{Z τ:FS}{PV:List Priv}{h g:zc}(k:Sep Z PV h)(l:Z.le τ)(m:h.le g):Sep τ PV g:=by
 let⟨hs,h1,h2,a⟩:=k;exact⟨hs,λi p hp=>p.mono l (.refl _) (h1 i p hp),h2,λi=>(a i).trans m⟩
omit [Dfr] in
theorem Sep.nil{Z:FS}{h:zc}:Sep Z [] h:=⟨λ_=>zc.none,λi p hp=>by simp at hp,λ_ _ _=>zc.none_disj _,λ_=>zc.none_le _⟩
theorem Sep.cons{Z:FS}{p:Priv}{PV:List Priv}{h1 h2 h:zc}(hp:p.holds Z h1)(hs:Sep Z PV h2)(e:h1.le h)(l2:h2.le h)(d:h1.disj h2):Sep Z (p::PV) h:=by
 let⟨hs,m,r,a⟩:=hs;refine⟨λi=>match i with | 0=>h1 | i+1=>hs i,λi q l=>?_,λi j c=>?_,λi=>?_⟩
 ·grind
 ·cases i with
  |zero=>cases j with
   |zero=>grind
   |succ j=>exact d.mono (.refl _) (a j)
  |succ i=>cases j with
   |zero=>exact(d.mono (.refl _) (a i)).symm
   |succ j=>grind
 ·cases i with
  |zero=>exact e
  |succ i=>exact(a i).trans l2
omit [Dfr] in
theorem Sep.one{Z:FS}{p:Priv}{h:zc}(hp:p.holds Z h):Sep Z [p] h :=.cons hp .nil (.refl _) (zc.none_le _) (zc.disj_none _)
theorem Sep.uncons{Z:FS}{p:Priv}{PV:List Priv}{h:zc}(k:Sep Z (p::PV) h):∃h1 h2,p.holds Z h1/\Sep Z PV h2/\h1.le h/\h2.le h/\h1.disj h2:=by
 let⟨hs,l,m,a⟩:=k
 classical
 refine⟨hs 0,λb k=>if∃i x,hs (i+1) b k=E x then h b k else F,l 0 p rfl,⟨λi=>hs (i+1),λi q r=>l (i+1) q (by simpa using r),λi j e=>m _ _ (λe'=>e Zc),λi b k x e=>?_⟩,a 0,λb k x e=>?_,λb k=>?_⟩
 ·have:∃i x,hs (i+1) b k=E x:=⟨i,x,e⟩
  simp only[this,jq];exact a _ _ _ _ e
 ·by_cases c:∃i x,hs (i+1) b k=E x
  all_goals grind
 ·by_cases c:∃i x,hs (i+1) b k=E x
  ·let⟨i,x,e⟩:=c;left;rcases m 0 (i+1) Zc b k with e' | e'
   all_goals grind
  grind
omit [Dfr] in
theorem Sep.one_of{Z:FS}{p:Priv}{h:zc}(k:Sep Z [p] h):p.holds Z h:=by
 let⟨h1,h2,a,_,l,_⟩:=k.uncons;exact p.mono (.refl _) l a
theorem Sep.select{Z:FS}{PV PV':List Priv}{h:zc}(k:Sep Z PV h)(idx:List Nat)(K:idx.Nodup)(A:idx.map (λi=>PV[i]?)=PV'.map E):Sep Z PV' h:=by
 let⟨hs,k1,w,u⟩:=k;have r:∀(k:Nat) (q:Priv),PV'[k]?=E q->∃m,idx[k]?=E m/\PV[m]?=E q:=by
  intro k q s;have:=congrArg (λl=>l[k]?) A;simp only[UA,s,UB] at this;cases R:idx[k]? with
  |none=>grind
  |some m=>grind
 refine⟨λk=>match idx[k]? with | some m=>hs m | none=>zc.none,λi q s=>?_,λi j c=>?_,λi=>?_⟩
 ·grind
 ·show zc.disj (match idx[i]? with | some m=>hs m | none=>zc.none) (match idx[j]? with | some m=>hs m | none=>zc.none);cases h1:idx[i]? with
  |none=>exact zc.none_disj _
  |some m=>cases h2:idx[j]? with
   |none=>exact zc.disj_none _
   |some C=>
    refine w m C λe=>?_
    subst e;let⟨h3,h4⟩:=UC.1 h1;let⟨h5,M⟩:=UC.1 h2;have hp:=List.pairwise_iff_getElem.1 (UD.1 K);rcases Nat.lt_or_gt_of_ne c with a | a
    all_goals grind
 ·show zc.le (match idx[i]? with | some m=>hs m | none=>zc.none) h;cases idx[i]? with
  |none=>exact zc.none_le _
  |some m=>exact u m
omit [Dfr] in
theorem Sep.append{Z:FS}:∀{A B:List Priv}{h1 h2 h:zc},Sep Z A h1->Sep Z B h2->h1.le h->h2.le h->h1.disj h2->Sep Z (A++B) h
 |[],_,_,_,_,_,k,_,l,_=>k.mono (.refl _) l
 |a::A,_,_,_,_,r,k2,l1,l2,d=>by
  let⟨u,g2,m,s,e,c,q⟩:=r.uncons;refine .cons (h2:=g2.or _) m (Sep.append s k2 (zc.le_or _ _) (zc.le_or_right (d.mono c (.refl _))) (d.mono c (.refl _))) (e.trans l1) (zc.or_le (c.trans l1) l2) ?_;exact(zc.or_disj q.symm (d.mono e (.refl _)).symm).symm
omit [Dfr] in
theorem Sep.split{Z:FS}:∀{A B:List Priv}{h:zc},Sep Z (A++B) h->∃h1 h2,Sep Z A h1/\Sep Z B h2/\h1.le h/\h2.le h/\h1.disj h2
 |[],_,h,k=>⟨zc.none,h,.nil,k,zc.none_le _,.refl _,zc.none_disj _⟩
 |a::A,B,h,k=>by
  let⟨l,g2,u,K,s,m,q⟩:=Sep.uncons (PV:=A++B) k;let⟨h1,h2,w,C,c,e,r⟩:=Sep.split K;have hd:l.disj h1:=q.mono (.refl _) c;exact⟨l.or h1,h2,.cons u w (zc.le_or _ _) (zc.le_or_right hd) hd,C,zc.or_le s (c.trans m),e.trans m,zc.or_disj (q.mono (.refl _) e) r⟩
omit [Dfr] in
theorem Sep.pick {Z:FS}{PV:List Priv}{h:zc}(k:Sep Z PV h) {m:Nat}{p:Priv}(q:PV[m]?=E p) :
    ∃h1 h2,p.holds Z h1/\h1.le h/\h2.le h/\h1.disj h2/\Sep Z (PV.eraseIdx m) h2/\∀p' h1' g,p'.holds Z h1'->h1'.le g->h2.le g->h1'.disj h2->Sep Z (PV.set m p') g:=by
 have hml:m < PV.length:=(UC.1 q).1;have a:Sep Z (p::PV.eraseIdx m) h:=by
  refine k.select (m::(qJ PV.length).eraseIdx m) ?_ ?_
  ·refine UE.2 ⟨λA=>?_,List.Nodup.sublist (List.eraseIdx_sublist _ _) List.nodup_range⟩;let⟨i,hi,hne,e⟩:=List.mem_eraseIdx_iff_getElem.1 A;grind
  · simp only[UF,q,qL.injEq,UG];apply UH;intro i;simp only[UA,List.getElem?_eraseIdx];split
    ·rename_i C;grind
    · by_cases l:i+1 < PV.length
      ·grind
      grind
 let⟨h1,h2,R,r,w,e4,e5⟩:=a.uncons;refine⟨h1,h2,R,w,e4,e5,r,λp' h1' g u s K M=>?_⟩;have c:Sep Z (p'::PV.eraseIdx m) g :=.cons u r s K M;refine c.select ((qJ PV.length).map λi=>if i < m then i+1 else if i=m then 0 else i) ?_ ?_
 ·rw[UD,List.pairwise_map];refine List.Pairwise.imp ?_ List.pairwise_lt_range;grind
 · apply UH;intro i;simp only[UA,UI];by_cases l:i < PV.length
   · rw[UJ (by simpa using l)];simp only[List.getElem_range,UB];by_cases h1:i < m
     ·grind
     · by_cases h2:i=m
       ·grind
       · rw[jx h1,jx h2,jx (λe=>h2 e.symm)];obtain⟨j,rfl⟩:∃j,i=j+1:=⟨i - 1,Zc⟩
         grind
   grind
structure Start where
 w:World
 h:zc
def znY(w0:World)(h0:zc)(w:World)(b:Nat):Prop:=
 (∀c e f,w0.heap[b]?=E (.cells c e f)->∃c' a,w.heap[b]?=E (.cells c' e a)/\c'.size=c.size/\(∀o,h0 b (o+1)=F->c'[o]?=c[o]?)/\(a=f\/∀i,i<=c.size->(h0 b i).isSome))/\
 (∀x,w0.heap[b]?=E x->xv x=N->∃y,w.heap[b]?=E y/\xv y=N/\(h0 b 0=F->y=x))
structure Ext(w0:World)(h0:zc)(w:World):Prop where
 os:w.os=w0.os
 output:w.output=w0.output
 tape:w.tape=w0.tape
 size:w0.heap.size<=w.heap.size
 old:∀b,znY w0 h0 w b
 fz:∀a:Addr,a.block < w0.heap.size->h0 a.block 0=F->w.frozen? a=w0.frozen? a
omit [Dfr] in
theorem znY.same{w0 w:World}{h0:zc}{b:Nat}(h:b < w0.heap.size->w.heap[b]?=w0.heap[b]?):znY w0 h0 w b:=by
 refine⟨λc e f a=>?_,λx m l=>?_⟩
 ·grind
 grind
omit [Dfr] in
theorem Ext.refl(w:World)(h:zc):Ext w h w:=⟨rfl,rfl,rfl,UK _,λ_ =>.same λ_=>rfl,λ_ _ _=>rfl⟩
theorem Ext.old_eq{w0 w:World}(h:Ext w0 zc.none w){b:Nat}(hb:b < w0.heap.size):w.heap[b]?=w0.heap[b]?:=by
 have h1:=Array.getElem?_eq_getElem hb;rw[h1];cases m:w0.heap[b] with
 |cells c e f=>
  let⟨c',r,q,u,l,a⟩:=(h.old b).1 c e f (by rw[h1,m]);have:c'=c:=by
   apply Array.ext_getElem?;intro o;exact l o rfl
  have s:r=f:=by
   rcases a with a | a
   ·exact a
   ·have:=a 0 (UL _);cases this
  grind
 |_=>
  obtain⟨y,q,_,l⟩:=(h.old b).2 _ (by rw[h1,m]) rfl;rw[q,l rfl]
omit [Dfr] in
theorem Ext.trans{w0 w w':World}{h0 h1:zc}(h:Ext w0 h0 w)(k:Ext w h1 w')(hd:∀b i,b < w0.heap.size->(h1 b i).isSome->(h0 b i).isSome):Ext w0 h0 w':=by
 refine ⟨k.os.trans h.os,k.output.trans h.output,k.tape.trans h.tape,UM h.size k.size,λb=>⟨λc e f M=>?_,λx K hn=>?_⟩,λa ha u=>(k.fz a (Nat.lt_of_lt_of_le ha h.size) (by
     cases R:h1 a.block 0 with
     |none=>rfl
     |some x=>grind)).trans (h.fz a ha u)⟩
 · have hb:=(U9.1 M).1;let⟨c1,fa,s,C,l,e4⟩:=(h.old b).1 c e f M;let⟨c2,fb,r,A,m,f4⟩:=(k.old b).1 c1 e fa s;refine⟨c2,fb,r,A.trans C,λo q=>(m o ?_).trans (l o q),?_⟩
   · cases R:h1 b (o+1) with
     |none=>rfl
     |some x=>grind
   grind
 · have hb:=(U9.1 K).1;let⟨y,s,C,l⟩:=(h.old b).2 x K hn;let⟨z,r,A,m⟩:=(k.old b).2 y s C;refine⟨z,r,A,λq=>?_⟩
   rw[m (by
    cases R:h1 b 0 with
    |none=>rfl
    |some x=>grind),l q]
omit [Dfr] in
theorem Ext.mono{w w':World}{h g:zc}(k:Ext w h w')(l:h.le g):Ext w g w':=by
 have C:∀b i,g b i=F->h b i=none:=λb i u=>by
  cases m:h b i with
  |none=>rfl
  |some y=>rw[l _ _ _ m] at u;cases u
 refine⟨k.os,k.output,k.tape,k.size,λb=>⟨λc e f M=>?_,λx m hi=>?_⟩,λa ha h0=>k.fz a ha (C _ _ h0)⟩
 ·let⟨c',R,A,s,r,q⟩:=(k.old b).1 c e f M
  exact⟨c',R,A,s,λo K=>r o (C _ _ K),q.imp id λq i hi=>by
   let⟨x,m⟩:=UN.1 (q i hi)
   rw[l _ _ _ m];rfl⟩
 ·let⟨y,A,s,r⟩:=(k.old b).2 x m hi;grind
theorem Ext.frag{w w':World}{h g:zc}(k:Ext w h w')(hd:h.disj g)(hs:g.sub w):g.sub w':=by
 intro b i x r;have C:h b i=none:=by
  rcases hd b i with e | e
  all_goals grind
 cases x with
 |cell v=>
  obtain⟨c,e,o,h1,rfl,m⟩:=hs b i _ r;let⟨c',u,a,A,q,l⟩:=(k.old b).1 c e _ h1;have s:u=(0,0):=by
   rcases l with l | l
   ·exact l
   grind
  subst s;exact⟨c',e,o,a,rfl,jE⟩
 |shape e n=>
  obtain⟨c,h1,rfl,m⟩:=hs b i _ r;let⟨c',u,a,A,q,l⟩:=(k.old b).1 c e _ h1;have s:u=(0,0):=by
   grind
  subst s;exact⟨c',a,rfl,A.trans m⟩
 |obj o=>
  obtain⟨h1,rfl,m⟩:=hs b i _ r;let⟨y,a,A,q⟩:=(k.old b).2 o h1 m;exact⟨by rw[a,q C],rfl,m⟩
theorem Ext.held{w w':World}{h:zc}{Z:FS}(k:Ext w h w')(hd:∀b o,(h b (o+1)).isSome->Z b o=F)(hs:Z.sub w):Z.sub w':=by
 intro b o v a;have r:h b (o+1)=none:=by
  cases e:h b (o+1) with
  |none=>rfl
  |some x=>grind
 have:=hs b o v a;unfold Y at this |-
 simp only[qE,jk,jp] at this |-
 cases hb:w.heap[b]? with
 |none=>grind
 |some x=>
  rw[hb] at this;cases x with
  |cells c e f=>
   let⟨c',q,m,s,l,_⟩:=(k.old b).1 c e f hb;grind
  |_=>cases this
structure Good(w0:Start)(Z:FS)(w:World)(h:zc):Prop where
 sub:h.sub w
 apart:∀b o,(h b (o+1)).isSome->Z b o=F
 mine:∀b k,(h b k).isSome->w0.w.heap.size<=b\/(w0.h b k).isSome
omit [Dfr] in
theorem zc.le.isSome{h g:zc}(l:h.le g){b k:Nat}(e:(h b k).isSome):(g b k).isSome:=by
 let⟨x,a⟩:=UN.1 e;rw[l b k x a];rfl
omit [Dfr] in
theorem Good.mono{w0:Start}{Z:FS}{w:World}{h g:zc}(k:Good w0 Z w g)(l:h.le g):Good w0 Z w h:=
 ⟨k.sub.mono l,λb o e=>k.apart b o (l.isSome e),λb i e=>k.mine b i (l.isSome e)⟩
structure Inv(w0:Start)(σ0 Z:FS)(PV:List Priv)(w:World):Prop where
 sub:Z.sub w
 le:σ0.le Z
 fresh:∀b o v,Z b o=E v->σ0 b o=E v\/w0.w.heap.size<=b\/(w0.h b (o+1)).isSome
 own:∃h,Sep Z PV h/\Good w0 Z w h
 ext:Ext w0.w w0.h w
theorem Inv.start{w:World}{Z:FS}{h:zc}{PV:List Priv}(hs:Z.sub w)(hp:Sep Z PV h)(c:h.sub w)(a:∀b o,(h b (o+1)).isSome->Z b o=F):Inv ⟨w,h⟩ Z Z PV w:=
 ⟨hs,.refl Z,λ_ _ _ h =>.inl h,⟨h,hp,c,a,λ_ _ e =>.inr e⟩,.refl w h⟩
theorem Inv.drew{w0:Start}{σ0 Z:FS}{PV:List Priv}{w:World}(h:Inv w0 σ0 Z PV w):Inv w0 σ0 Z PV {w with drawn:=w.drawn+1}:=
 ⟨h.sub,h.le,h.fresh,h.own.elim λg k=>⟨g,k.1,λb i x a=>by have:=k.2.sub b i x a;cases x<;>exact this,k.2.apart,k.2.mine⟩,⟨h.ext.os,h.ext.output,h.ext.tape,h.ext.size,h.ext.old,h.ext.fz⟩⟩
theorem Inv.sub_own{w0:Start}{σ0 Z:FS}{PV PV':List Priv}{w:World}(h:Inv w0 σ0 Z PV w)(k:∀g,Sep Z PV g->Sep Z PV' g):Inv w0 σ0 Z PV' w:=
 ⟨h.sub,h.le,h.fresh,h.own.elim λg q=>⟨g,k g q.1,q.2⟩,h.ext⟩
omit [Dfr] in
theorem Inv.lt{w0:Start}{σ0 Z:FS}{PV:List Priv}{w:World}(h:Inv w0 σ0 Z PV w){b o:Nat}{v:Value}(hb:Z b o=E v):b < w.heap.size:=by
 have:=h.sub b o v hb;unfold Y at this;simp only[qE,jk,jp] at this;grind
theorem Inv.change {w0:Start}{σ0 Z:FS}{PV:List Priv}{w w':World}(hi:Inv w0 σ0 Z PV w) {m:Nat}{p p':Priv}(R:PV[m]?=E p)
    (k:∀h1,p.holds Z h1->h1.sub w->∃h1',p'.holds Z h1'/\h1'.sub w'/\Ext w h1 w'/\∀b i,(h1' b i).isSome->(h1 b i).isSome\/w.heap.size<=b):Inv w0 σ0 Z (PV.set m p') w':=by
 let⟨h,hs,l⟩:=hi.own;let⟨h1,h2,e1,M,r,K,e5,e6⟩:=hs.pick R;let⟨h1',f1,f2,s,A⟩:=k h1 e1 (l.sub.mono M);have hd:h1'.disj h2:=by
  intro b i;cases c:h1' b i with
  |none=>exact .inl rfl
  |some x=>
   right;rcases A b i (by simp[c]) with q | q
   · rcases K b i with z | z
     all_goals grind
   · cases C:h2 b i with
     |none=>rfl
     |some y=>have:=Bit.at_lt (l.sub b i y (r b i y C));omega
 have u:=l.mono M;have e:∀b i,b < w0.w.heap.size->(h1 b i).isSome->(w0.h b i).isSome:=λb i hb c=>by
  rcases u.mine b i c with q | q
  ·omega
  ·exact q
 refine⟨s.held u.apart hi.sub,hi.le,hi.fresh,⟨h1'.or h2,e6 p' h1' _ f1 (zc.le_or _ _) (zc.le_or_right hd) hd,zc.or_sub f2 (s.frag K (l.sub.mono r)),λb o c=>?_,λb i c=>?_⟩,hi.ext.trans s e⟩
 all_goals
  unfold zc.or at c
 · cases a:h1' b (o+1) with
   |some y=>
    rcases A b (o+1) (by simp[a]) with q | q
    ·exact u.apart b o q
    · cases C:Z b o with
      |none=>rfl
      |some v=>have:=hi.lt C;omega
   |none=>rw[a] at c;exact(l.mono r).apart b o (by simpa using c)
 · cases a:h1' b i with
   |some y=>
    rcases A b i (by simp[a]) with q | q
    ·grind
    ·exact .inl (UM hi.ext.size q)
   |none=>rw[a] at c;exact(l.mono r).mine b i (by simpa using c)
theorem Inv.cons {w0:Start}{σ0 Z:FS}{PV:List Priv}{w w':World}(hi:Inv w0 σ0 Z PV w) {p:Priv}{h1:zc}(hp:p.holds Z h1) (hs:h1.sub w') (c:Ext w zc.none w') (q:∀b i,(h1 b i).isSome->w.heap.size<=b) :
    Inv w0 σ0 Z (p::PV) w':=by
 let⟨h,l,m⟩:=hi.own;have hd:h1.disj h:=λb i=>by
  cases c:h1 b i with
  |none=>exact .inl rfl
  |some x=>
   right;have:=q b i (by simp[c]);cases r:h b i with
   |none=>rfl
   |some y=>have:=Bit.at_lt (m.sub b i y r);omega
 refine⟨c.held (λb o e=>by cases e) hi.sub,hi.le,hi.fresh,⟨h1.or h,.cons hp l (zc.le_or _ _) (zc.le_or_right hd) hd,zc.or_sub hs (c.frag (zc.none_disj _) m.sub),λb o e=>?_,λb i e=>?_⟩,hi.ext.trans c λ_ _ _ e=>by cases e⟩
 all_goals unfold zc.or at e
 · cases a:h1 b (o+1) with
   |some y=>
    have:=q b (o+1) (by simp[a]);cases r:Z b o with
    |none=>rfl
    |some v=>have:=hi.lt r;omega
   |none=>rw[a] at e;exact m.apart b o (by simpa using e)
 · cases a:h1 b i with
   |some y=>exact .inl (UM hi.ext.size (q b i (by simp[a])))
   |none=>rw[a] at e;exact m.mine b i (by simpa using e)
def FS.with(Z:FS)(h:zc):FS:=λb o=>match h b (o+1) with | some (.cell v)=>E v | _=>Z b o
theorem Inv.freeze {w0:Start}{σ0 Z:FS}{PV:List Priv}{w:World}(hi:Inv w0 σ0 Z PV w) {m:Nat}{p:Priv}(hm:PV[m]?=E p) :
    ∃(h1:zc),p.holds Z h1/\h1.sub w/\Z.le (Z.with h1)/\Inv w0 σ0 (Z.with h1) (PV.eraseIdx m) w:=by
 let⟨h,hs,u⟩:=hi.own;let⟨h1,h2,M,e2,A,R,e5,_⟩:=hs.pick hm;have s:=u.mono e2;have r:Z.le (Z.with h1):=λb o v l=>by
  unfold FS.with;split
  ·rename_i x K;rw[s.apart b o (by simp[K])] at l;cases l
  ·exact l
 have a:∀b o v,(Z.with h1) b o=E v->Z b o=E v\/h1 b (o+1)=E (.cell v):=λb o v l=>by
  unfold FS.with at l;grind
 refine⟨h1,M,s.sub,r,⟨λb o v l=>?_,hi.le.trans r,λb o v l=>?_,⟨h2,e5.mono r (.refl _),u.sub.mono A,λb o e=>?_,(u.mono A).mine⟩,hi.ext⟩⟩
 · rcases a b o v l with q | q
   ·exact hi.sub b o v q
   · let⟨c,e,o',k1,k2,C⟩:=s.sub b (o+1) _ q;obtain rfl:o=o':=Zc
     simp[Y,k1,C]
 · rcases a b o v l with q | q
   ·exact hi.fresh b o v q
   ·exact .inr (s.mine b (o+1) (by simp[q]))
 · cases l:(Z.with h1) b o with
   |none=>rfl
   |some v=>
    rcases a b o v l with q | q
    ·rw[(u.mono A).apart b o e] at q;cases q
    · rcases R b (o+1) with z | z
      all_goals grind
section
variable {ρ:Type}
def J(n:Nat)(w0:Start)(σ0:FS)(p:U3 ρ)(G:ρ->Act->World->Prop)(L:List (Nat×Value))(b:Nat->Value)(Z:FS)(PV:List Priv):Prop:=
 ∀r,p=E r->∀a w,Inv w0 σ0 Z PV w->Fits n L b a->G r a w
variable {n:Nat}{w0:Start}{σ0 Z:FS}{p:U3 ρ}{G G':ρ->Act->World->Prop}{L:List (Nat×Value)}{b:Nat->Value}{PV PV':List Priv}
variable {P:Program}{Q:ρ->Exit->Act->World->Prop}
def zAP(n:Nat)(w0:Start)(σ0:FS){γ:Type}(c:γ->Exit->List (Nat×Value)->FS->List Priv->Prop)(y:γ)(e:Exit)(a:Act)(w:World):Prop:=
 match e with
 | .panic _=>False
 | .outgrown=>False
 |e=>∃L b Z PV,c y e L Z PV/\Fits n L b a/\Inv w0 σ0 Z PV w
theorem wZ{p:Nat->Prop}(h:∃m,p m):∃m,p m/\∀k,p k->m<=k:=by
 let⟨m,a⟩:=h
 induction m using Nat.strongRecOn with
 |_ m e=>
  by_cases c:∃k,k < m/\p k
  ·grind
  grind
inductive Step(s β:Type) where
 |next (x:s)
 |done (y:β)
def ya{s β:Type}(f:s->U3 (Step s β)):Nat->s->U3 β
 |0,_=>F
 |k+1,x=>(f x).bind λ
  | .next a=>ya f k a
  | .done y=>E y
noncomputable def loopO{s β:Type}(f:s->U3 (Step s β))(x:s):U3 β:=
 @dite _ (∃k,(ya f k x).isSome) (Classical.propDecidable _) (λh=>ya f h.choose x) (λ_=>F)
theorem zbz{s β:Type}{f:s->U3 (Step s β)}:∀{k m:Nat}{x:s}{y:β},ya f k x=E y->k<=m->ya f m x=E y
 |0,_,_,_,h,_=>by simp[ya] at h
 |k+1,0,_,_,_,hm=>Zc
 |k+1,m+1,x,y,h,hm=>by
  simp only[ya] at h |-
  cases a:f x with
  |none=>grind
  |some st=>
   rw[a] at h;cases st with
   |next e=>exact zbz (k:=k) h Zc
   |done c=>exact h
theorem vz{s β:Type}{f:s->U3 (Step s β)}{x:s}{y:β}:loopO f x=E y↔∃k,ya f k x=E y:=by
 unfold loopO;constructor
 ·intro h;split at h
  all_goals grind
 ·rintro⟨k,c⟩;have a:∃k,(ya f k x).isSome:=⟨k,by simp[c]⟩
  rw[dif_pos a];have hs:=a.choose_spec;let⟨z,e⟩:=UN.1 hs;rw[e];rcases Nat.le_total k a.choose with h | h
  ·rw[zbz c h] at e;exact e.symm
  ·rw[zbz e h] at c;exact c
theorem zsl {s β:Type}(f:s->U3 (Step s β)) (x:s):loopO f x=(f x).bind λ
    | .next e=>loopO f e
    | .done y=>E y:=by
 apply Option.ext;intro y;rw[vz];cases c:f x with
 |none=>
  simp only[Option.bind_none];constructor
  ·rintro⟨k,a⟩;cases k<;>simp[ya,c] at a
  grind
 |some st=>
  cases st with
  |next e=>
   simp only[jj];rw[vz];constructor
   · rintro⟨k,a⟩;cases k with
     |zero=>simp[ya] at a
     |succ k=>exact⟨k,by simpa[ya,c] using a⟩
   ·rintro⟨k,a⟩;exact⟨k+1,by simpa[ya,c] using a⟩
  |done l=>
   simp only[jj];constructor
   · rintro⟨k,a⟩;cases k with
     |zero=>simp[ya] at a
     |succ k=>simpa[ya,c] using a
   ·intro h;exact⟨1,by simpa[ya,c] using h⟩
def zzV(n:Nat)(w0:Start)(σ0:FS){s β:Type}(h:s->List (Nat×Value)->FS->List Priv->Prop)
    (c:β->Exit->List (Nat×Value)->FS->List Priv->Prop) (st:Step s β) (e:Exit) (a:Act) (w:World):Prop:=
 match st,e with
 |_,.panic _=>False
 |_,.outgrown=>False
 | .next x,.normal=>∃L b Z PV,h x L Z PV/\Fits n L b a/\Inv w0 σ0 Z PV w
 | .next _,_=>False
 | .done _,.normal=>False
 | .done y,e=>∃L b Z PV,c y e L Z PV/\Fits n L b a/\Inv w0 σ0 Z PV w
end
end Go.Px
namespace Go.Px
def Priv.mp(v:Value)(l:List (Value×Value)):Priv:=⟨λ_ h=>∃r es a,v = .map (E r)/\h r 0=E (.obj (.map es a))/\es.toList.map (λe=>(e.key,e.val))=l,λ_ m ⟨r,es,c,h1,h2,q⟩=>⟨r,es,c,h1,m _ _ _ h2,q⟩⟩
structure MKey(α:Type) where
 d:TypeDesc
 enc:α->Value
 key:∀a,MapKept.IsKey d (enc a)
 inj:∀a b,enc a=enc b->a=b
 bits:∀a,qM 10000 (enc a) (enc a)=I
def MKey.str:MKey ByteArray:=⟨.string,.string,λ_=>trivial,λ_ _ e=>by cases e;rfl,λa=>(MapKept.bytes_beq a a).2 rfl⟩
def MKey.i64:MKey Int:=⟨.int .i64,.int .i64,λ_=>by simp[MapKept.IsKey],λ_ _ e=>by cases e;rfl,λa=>by simp[qM]⟩
section
variable {α β:Type}[DecidableEq α]
def ym(k:α):List (α×β)->U3 β
 |[]=>F
 |(a,v)::l=>if a=k then E v else ym k l
def ZB(k:α)(z:β)(l:List (α×β)):β:=(ym k l).getD z
def yA(k:α)(v:β):List (α×β)->List (α×β)
 |[]=>[(k,v)]
 |(a,u)::l=>if a=k then(a,v)::l else(a,u)::yA k v l
def yB(k:α):List (α×β)->List (α×β)
 |[]=>[]
 |(a,u)::l=>if a=k then l else(a,u)::yB k l
end
section
variable {α:Type}[DecidableEq α]
def Yw(K:MKey α)(l:List (α×Value)):List (Value×Value):=l.map λp=>(K.enc p.1,p.2)
theorem vV (K:MKey α) (k:α):∀(l:List MapEntry) (xs:List (α×Value)) (i:Nat),l.map (λe=>(e.key,e.val))=Yw K xs->
    (ym k xs=F/\W K.d (K.enc k) l i=E F/\(∀u,yA k u xs=xs++[(k,u)])/\yB k xs=xs)\/
    ∃v j e,ym k xs=E v/\W K.d (K.enc k) l i=E (E (i+j,v))/\l[j]?=E e/\e.key=K.enc k/\(∀u,Yw K (yA k u xs)=(l.set j {e with val:=u}).map (λe=>(e.key,e.val)))/\Yw K (yB k xs)=(l.eraseIdx j).map λe=>(e.key,e.val)
 |[],[],i,_ =>.inl ⟨rfl,rfl,λ_=>rfl,rfl⟩
 |[],_::_,_,h=>by simp[Yw] at h
 |_::_,[],_,h=>by simp[Yw] at h
 |e::l,(a,v)::xs,i,h=>by
  have h1:e.key=K.enc a/\e.val=v/\l.map (λe=>(e.key,e.val))=Yw K xs:=by
   simp only[Yw,UF,qL.injEq,Prod.mk.injEq] at h;exact⟨h.1.1,h.1.2,h.2⟩
  let⟨s,e2,w⟩:=h1;let⟨r,hr,m⟩:=MapKept.sameNow_of_keys (K.key k) (K.key a);by_cases c:a=k
  · subst c;have:r=true:=m.2 rfl;subst this;refine .inr ⟨v,0,e,by simp[ym],by simp[W,s,hr,e2],rfl,s,λu=>?_,?_⟩
    ·simp[yA,Yw,s,w]
    ·simp[yB,Yw,w]
  · have:r=false:=by
      cases r with
      |false=>rfl
      |true=>exact absurd (K.inj _ _ (m.1 rfl)).symm c
    subst this;have q:∀i,W K.d (K.enc k) (e::l) i=W K.d (K.enc k) l (i+1):=λi=>by simp[W,s,hr]
    rcases vV K k l xs (i+1) w with⟨M,R,A,C⟩ | ⟨v',j,e',M,R,A,f4,f5,C⟩
    ·exact .inl ⟨by simp[ym,c,M],by rw[q,R],λu=>by simp[yA,c,A],by simp[yB,c,C]⟩
    · refine .inr ⟨v',j+1,e',by simp[ym,c,M],?_,by simpa using A,f4,λu=>?_,?_⟩
      ·grind
      · have:=f5 u;simp only[Yw,yA,c,jp,UF,List.set_cons_succ] at this |-
        grind
      · simp only[Yw,yB,c,jp,UF,List.eraseIdx_cons_succ] at C |-
        grind
end
section
variable {α β:Type}[DecidableEq α]
def asV(f:β->Value)(l:List (α×β)):List (α×Value):=l.map λp=>(p.1,f p.2)
variable {f:β->Value}
theorem zkg(k:α):∀l:List (α×β),ym k (asV f l)=(ym k l).map f
 |[]=>rfl
 |(a,v)::l=>by
  have c:=zkg k l;unfold asV at c |-
  simp only[UF,ym];grind
theorem zkh(k:α)(v:β):∀l:List (α×β),yA k (f v) (asV f l)=asV f (yA k v l)
 |[]=>rfl
 |(a,u)::l=>by
  have c:=zkh k v l;unfold asV at c |-
  simp only[UF,yA];grind
theorem zki(k:α):∀l:List (α×β),yB k (asV f l)=asV f (yB k l)
 |[]=>rfl
 |(a,u)::l=>by
  have c:=zki k l;unfold asV at c |-
  simp only[UF,yB];grind
end
inductive KK where
 |s
 |i
inductive VK where
 |i
 |b
abbrev KK.ty:KK->Type
 | .s=>ByteArray
 | .i=>Int
abbrev VK.ty:VK->Type
 | .i=>Int
 | .b=>Bool
instance:(k:KK)->DecidableEq k.ty
 | .s=>inferInstanceAs (DecidableEq ByteArray)
 | .i=>inferInstanceAs (DecidableEq Int)
def KK.K:(k:KK)->MKey k.ty
 | .s =>.str
 | .i =>.i64
def VK.e:(v:VK)->v.ty->Value
 | .i =>.int .i64
 | .b =>.bool
def VK.z:(v:VK)->v.ty
 | .i=>(0:Int)
 | .b=>N
structure MapR(D:Nat->Type)(opv:Nat->(T:Nat)->Value->Addr->ByteArray->Sl (D T)->Priv)(T:Nat) where
 k:KK
 v:VK
 q:Nat
 e:D T=(k.ty×v.ty)
 opv:∀hdr a b s,opv q T hdr a b s=Priv.mp hdr (Yw k.K (asV v.e (cast (congrArg List e) s.xs)))
section
variable {D:Nat->Type}{opv:Nat->(T:Nat)->Value->Addr->ByteArray->Sl (D T)->Priv}{T:Nat}
def MapR.l(M:MapR D opv T)(s:Sl (D T)):List (M.k.ty×M.v.ty):=cast (congrArg List M.e) s.xs
def MapR.s(M:MapR D opv T)(l:List (M.k.ty×M.v.ty)):Sl (D T):=⟨cast (congrArg List M.e).symm l,I⟩
theorem MapR.ls(M:MapR D opv T)(l:List (M.k.ty×M.v.ty)):M.l (M.s l)=l:=by simp[MapR.l,MapR.s]
structure MapT(D:Nat->Type)(T:Nat) where
 k:KK
 v:VK
 e:D T=(k.ty×v.ty)
def zsm(m:(T:Nat)->U3 (MapT D T))(k T:Nat)(hdr:Value)(a:Addr)(b:ByteArray)(s:Sl (D T)):Priv:=match m T with
 |some e=>Priv.mp hdr (Yw e.k.K (asV e.v.e (cast (congrArg List e.e) s.xs)))
 |none=>⟨λ_ _=>False,λ_ _ h=>h⟩
def zAQ(m:(T:Nat)->U3 (MapT D T))(T:Nat):U3 (MapR D (zsm m) T):=match h:m T with
 |some e=>E ⟨e.k,e.v,0,e.e,λhdr a b s=>by unfold zsm;rw[h]⟩
 |none=>F
end
variable [Dfr]
def za6(ops:Array Oper):Nat->Nat->Nat->Bool
 |0,_,_=>N
 |n+1,k,i=>match ops[k]? with
  |none=>N
  |some o=>o.after.any λe=>Region.binds .any e && (e.on == i || za6 ops n e.on i)
def zfX(ops:Array Oper)(listed:Array Bool):Prop:=∀(k:Nat) (o:Oper),ops[k]?=E o->listed.getD k N=I->∀e∈o.after,Region.binds .any e=I->listed.getD e.on N=I
omit [Dfr] in
theorem za6.listed{ops:Array Oper}{listed:Array Bool}(hc:zfX ops listed){i:Nat}:∀(n k:Nat),za6 ops n k i=I->listed.getD k N=I->listed.getD i N=I
 |0,_,h,_=>by simp[za6] at h
 |n+1,k,h,hk=>by
  unfold za6 at h;cases ho:ops[k]? with
  |none=>grind
  |some o=>
   rw[ho] at h;let⟨e,he,hb⟩:=Array.any_eq_true'.1 h;simp only[gf,UO,beq_iff_eq] at hb;have hl:=hc k o ho hk e he hb.1;rcases hb.2 with z | z
   ·grind
   ·exact za6.listed hc n e.on z hl
omit [Dfr] in
theorem zfX.add{ops:Array Oper}{listed:Array Bool}(m:zfX ops listed){j:Nat}{o:Oper}(r:ops[j]?=E o)(s:∀e∈o.after,Region.binds .any e=I->listed.getD e.on N=I):zfX ops (listed.setIfInBounds j I):=by
 have mono:∀k,listed.getD k N=I->(listed.setIfInBounds j I).getD k N=true:=λk h=>by
  by_cases a:j=k
  ·subst a;rcases Nat.lt_or_ge j listed.size with z | z
   ·rw[U7];simp[z]
   grind
  ·rw[U7,qO a,<- U7];exact h
 intro k o' a l e q hb;by_cases c:j=k
 ·grind
 ·rw[U7,qO c,<- U7] at l;exact mono _ (m k o' a l e q hb)
section
variable {P:Program}{ops:Array Oper}{Q:Exit->Act->World->Prop}{S:World->Prop}{tr:Nat}
end
class PStab(Q:Exit->Act->World->Prop):Prop where
 st:∀c (a:Act) d v w,Q (.panic c) (a.put d v) w->Q (.panic c) a w
instance {K:Act->World->Prop}{Q:Exit->Act->World->Prop}[h:PStab Q]:PStab (Exit.then K Q):=⟨λc a d v w q=>h.st c a d v w q⟩
instance {i:Nat}{Q:Exit->Act->World->Prop}[h:PStab Q]:PStab (Exit.inBlock i Q):=⟨λc a d v w q=>h.st c a d v w q⟩
instance {P:Program}{fn:Func}{R:Ending->World->Prop}:PStab (bodyPost P fn R):=⟨λc a d v w q=>⟨by have:=q.1;cases d<;>exact this,q.2⟩⟩
instance {n w0 σ0 γ Tail}{y:γ}:PStab (zAP n w0 σ0 Tail y):=⟨λc a d v w q=>q⟩
instance {n w0 σ0 s β Head Tail}{st:Step s β}:PStab (zzV n w0 σ0 Head Tail st):=⟨λc a d v w q=>by cases st<;>exact q⟩
section
variable {ρ:Type}{n:Nat}{w0:Start}{σ0 Z:FS}{p:U3 ρ}{L:List (Nat×Value)}{b:Nat->Value}{PV PV':List Priv}
variable {P:Program}{Q:ρ->Exit->Act->World->Prop}{ops:Array Oper}{o:Oper}{rest:List Oper}
def Xl(P:Program)(n:Nat)(w0:Start)(σ0:FS)(o:Oper)(p:U3 ρ)(L:List (Nat×Value))(b:Nat->Value)(Z:FS)(PV:List Priv)
    (H:U3 ρ->List (Nat×Value)->FS->List Priv->Prop):Prop:=
 ∀r,p=E r->∀a w,Inv w0 σ0 Z PV w->Fits n L b a->∀(K:Act->World->Prop) (Q:Exit->Act->World->Prop),
  (∀p' c e PV' a' w',p'=E r->Inv w0 σ0 e PV' w'->Fits n c b a'->H p' c e PV'->K a' w')->o.wp P a w K Q
def Y7(a:FS)(c:List Priv)(w:World):Prop:=a.sub w/\∃h,Sep a c h/\h.sub w
structure HeldOK(σr:FS)(PVr:List Priv)(Z:FS)(PV:List Priv):Prop where
 le:σr.le Z
 all:∀h,Sep Z PV h->Sep σr PVr h
theorem HeldOK.held{a:FS}{c:List Priv}(h:HeldOK a c Z PV){w:World}(hi:Inv w0 σ0 Z PV w):Y7 a c w:=
 ⟨h.le.sub hi.sub,hi.own.elim λg k=>⟨g,h.all g k.1,k.2.sub⟩⟩
omit [Dfr] in
theorem HeldOK.same{Z:FS}{a PV:List Priv}(idx:List Nat)(c:idx.Nodup)(e:idx.map (λi=>PV[i]?)=a.map E):HeldOK Z a Z PV:=⟨.refl Z,λh k=>k.select idx c e⟩
def zaR:List Priv->Prop
 |[]=>True
 |p::r=>(∀Z τ h,p.holds Z h->p.holds τ h)/\zaR r
omit [Dfr] in
theorem zaR.get:∀{l:List Priv},zaR l->∀(i:Nat) p,l[i]?=E p->∀Z τ h,p.holds Z h->p.holds τ h
 |[],_,i,_,h=>by simp at h
 |p::r,⟨h,k⟩,i,q,hq=>by
  cases i with
  |zero=>grind
  |succ i=>exact k.get i q (by simpa using hq)
omit [Dfr] in
theorem zaR.sep{l:List Priv}(f:zaR l){Z τ:FS}{h:zc}(k:Sep Z l h):Sep τ l h:=by
 let⟨hs,c,e,a⟩:=k;exact⟨hs,λi p hp=>f.get i p hp Z τ _ (c i p hp),e,a⟩
omit [Dfr] in
theorem zaR.append:∀{l m:List Priv},zaR l->zaR m->zaR (l++m)
 |[],_,_,h=>h
 |_::_,_,⟨h,k⟩,g=>⟨h,k.append g⟩
theorem HeldOK.plain{c Z:FS}{a PV:List Priv}(e:c.le Z)(idx:List Nat)(m:idx.Nodup)(l:idx.map (λi=>PV[i]?)=a.map E)(hp:zaR a):HeldOK c a Z PV:=⟨e,λh k=>hp.sep (k.select idx m l)⟩
abbrev zqz(i tr:Nat)(listed:Array Bool)(c:FS)(a:List Priv)(Z:FS)(PV:List Priv):Prop:=(i=tr\/listed.getD tr N=I)\/HeldOK c a Z PV
theorem zqz.world{i tr:Nat}{listed:Array Bool}{c:FS}{a:List Priv}(h:zqz i tr listed c a Z PV){w:World}(hi:Inv w0 σ0 Z PV w):(i=tr\/listed.getD tr N=I)\/Y7 c a w:=h.imp id λk=>k.held hi
inductive W2(α β:Type) where
 |a (x:α)
 |b (x:β)
structure Pre(s:Start)(Z:FS)(PV:List Priv):Prop where
 sub:Z.sub s.w
 sep:Sep Z PV s.h
 own:s.h.sub s.w
 apart:∀b o,(s.h b (o+1)).isSome->Z b o=F
theorem Pre.inv{s:Start}{Z:FS}{PV:List Priv}(h:Pre s Z PV):Inv s Z Z PV s.w :=.start h.sub h.sep h.own h.apart
theorem Pre.empty{w:World}{Z:FS}(h:Z.sub w):Pre ⟨w,zc.none⟩ Z []:=⟨h,Sep.nil,λ_ _ _ (e:(none:U3 Bit)=E _)=>(by cases e),λ_ _ (e:(none:U3 Bit).isSome=I)=>by simp at e⟩
def zm4(P:Program)(fn:Func)(w0:Start)(σ0:FS)(a:ρ->FS->List Priv->Value->Prop)(r:ρ):Exit->Act->World->Prop:=
 bodyPost P fn λe w'=>∃v c PV',e = .returned v/\Inv w0 σ0 c PV' w'/\a r c PV' v
instance {P:Program}{fn:Func}{w0:Start}{σ0:FS}{a:ρ->FS->List Priv->Value->Prop}{r:ρ}:PStab (zm4 P fn w0 σ0 a r):=by unfold zm4;infer_instance
def yq:Nat->List Value->List (Nat×Value)
 |_,[]=>[]
 |i,v::r=>(i,v)::yq (i+1) r
theorem zaS:∀(args:List Value) (k i:Nat),look (yq k args) (λ_=>undef) i=if i < k then undef else(args[i - k]?).getD undef
 |[],k,i=>by simp[yq,look]
 |v::r,k,i=>by
  simp only[yq,look];rw[zaS r (k+1) i];cases e:V i k with
  |true=>have:=ge e;grind
  |false=>
   have a:i≠k:=λh=>by subst h;simp at e
   simp only[U8];by_cases h:i < k
   ·grind
   grind
theorem vW {args:List Value}{k:Nat}(h:args.length<=k) :
    Fits k (yq 0 args) (λ_=>undef) {tmps:=args.toArray++qN (k - args.toArray.size) undef,defers:=Dfr.l}:=by
 refine⟨rfl,ji,λi=>?_⟩;rw[zaS];simp only[Nat.not_lt_zero,jp,Nat.sub_zero,U7];by_cases hi:i < args.length
 ·grind
 · rw[Array.getElem?_append_right (by simpa using hi)];simp only[List.size_toArray];rw[UP Zc];simp only[qF];cases e:(qN (k - args.length) undef)[i - args.length]? with
   |none=>rfl
   |some v=>
    grind
omit [Dfr] in
theorem Inv.call {w w':World}{A' C:List Priv}{r:FS}{h1 h2:zc}(hi:Inv w0 σ0 Z PV w) {h:zc}(A:Good w0 Z w h) (M:Sep Z C h2) (l1:h1.le h) (l2:h2.le h) (d:h1.disj h2)
    (k:Inv ⟨w,h1⟩ Z r A' w'):Inv w0 σ0 r (A'++C) w':=by
 let⟨c,K,l⟩:=k.own;have e1:=A.mono l1;have m:=A.mono l2;have R:∀b i,(h2 b i).isSome->b < w.heap.size:=λb i e=>by
  let⟨x,a⟩:=UN.1 e;exact Bit.at_lt (m.sub b i x a)
 have hd:c.disj h2:=λb i=>by
  cases a:h2 b i with
  |none=>exact .inr rfl
  |some x=>
   left;cases hy:c b i with
   |none=>rfl
   |some y=>
    rcases l.mine b i (by simp[hy]) with z | z
    ·grind
    · simp only at z;rcases d b i with u | u
      all_goals grind
 have s:∀b i,(h1 b i).isSome->w0.w.heap.size<=b\/(w0.h b i).isSome:=e1.mine
 refine⟨k.sub,hi.le.trans k.le,λb o v q=>?_,⟨c.or h2,K.append (M.mono k.le (.refl _)) (zc.le_or _ _) (zc.le_or_right hd) hd,zc.or_sub l.sub (k.ext.frag d m.sub),λb o e=>?_,λb i e=>?_⟩,hi.ext.trans k.ext λb i hb e=>?_⟩
 · rcases k.fresh b o v q with z | z | z
   ·exact hi.fresh b o v z
   ·exact .inr (.inl (UM hi.ext.size z))
   grind
 · unfold zc.or at e;cases a:c b (o+1) with
   |some y=>exact l.apart b o (by simp[a])
   |none=>
    rw[a] at e;have e':(h2 b (o+1)).isSome:=by simpa using e
    cases q:r b o with
    |none=>rfl
    |some v=>
     rcases k.fresh b o v q with z | z | z
     ·rw[m.apart b o e'] at z;cases z
     ·grind
     · simp only at z;rcases d b (o+1) with u | u
       all_goals grind
 · unfold zc.or at e;cases a:c b i with
   |some y=>
    rcases l.mine b i (by simp[a]) with z | z
    ·exact .inl (UM hi.ext.size z)
    grind
   |none=>rw[a] at e;exact m.mine b i (by simpa using e)
 grind
end
end Go.Px
namespace Go.Px
variable [Dfr]
structure OTy(α:Type) where
 size:Nat
 agg:Bool
 rel:FS->zc->List Value->α->Prop
 len:∀{Z h cs x},rel Z h cs x->cs.length=size
 mono:∀{Z τ:FS} {h g:zc} {cs x},Z.le τ->h.le g->rel Z h cs x->rel τ g cs x
 one:∀{Z h cs x},rel Z h cs x->∀u∈cs,u.oneCell'=I
 sz:agg=N->size=1
def OTy.vrel{α:Type}(T:OTy α)(Z:FS)(h:zc)(v:Value)(x:α):Prop:=T.rel Z h v.cells.toList x/\zc2 v=T.agg
def OTy.rels{α:Type}(T:OTy α)(Z:FS)(h:zc)(cs:List Value)(xs:List α):Prop:=
 cs.length=xs.length * T.size/\∃hs:Nat->zc,(∀(i:Nat) (x:α),xs[i]?=E x->T.rel Z (hs i) ((cs.drop (i * T.size)).take T.size) x)/\(∀i j,i≠j->(hs i).disj (hs j))/\∀i,(hs i).le h
omit [Dfr] in
theorem OTy.rels_mono{α:Type}{T:OTy α}{Z τ:FS}{h g:zc}{cs:List Value}{xs:List α}(l:Z.le τ)(m:h.le g)(r:T.rels Z h cs xs):T.rels τ g cs xs:=by
 let⟨h1,hs,h2,e,a⟩:=r;exact⟨h1,hs,λi x c=>T.mono l (.refl _) (h2 i x c),e,λi=>(a i).trans m⟩
theorem OTy.rels_nil{α:Type}{T:OTy α}{Z:FS}{h:zc}:T.rels Z h [] []:=⟨je,λ_=>zc.none,λi x a=>by simp at a,λ_ _ _=>zc.none_disj _,λ_=>zc.none_le _⟩
def Ty.o{α:Type}(T:Ty α):OTy α where
 size:=T.size
 agg:=T.agg
 rel Z _ cs x:=T.rel Z cs x
 len h:=T.len h
 mono l _ r:=T.mono l r
 one r:=T.one r
 sz:=T.sz
theorem Ty.rels_of{α:Type}{T:Ty α}{Z:FS}:∀{xs:List α}{cs:List Value},cs.length=xs.length * T.size->(∀(i:Nat) (x:α),xs[i]?=E x->T.rel Z ((cs.drop (i * T.size)).take T.size) x)->T.rels Z cs xs
 |[],cs,hl,_=>UQ (by simpa using hl)
 |x::xs,cs,hl,h=>by
  refine⟨cs.take T.size,cs.drop T.size,(List.take_append_drop _ _).symm,by simpa using h 0 x rfl,Ty.rels_of ?_ ?_⟩
  ·simp only[UR,hl,jz,US];omega
  ·intro i y a;have:=h (i+1) y (by simpa using a);rw[List.drop_drop,(jE:T.size+i * T.size=(i+1) * T.size)];exact this
theorem Ty.rels_o{α:Type}{T:Ty α}{Z:FS}{h:zc}{xs:List α}{cs:List Value}:T.o.rels Z h cs xs↔T.rels Z cs xs:=by
 constructor
 ·rintro⟨h1,hs,h2,_⟩;exact Ty.rels_of h1 h2
 ·intro r;exact⟨T.rels_len r,λ_=>zc.none,λi x a=>T.rels_get i r a,λ_ _ _=>zc.none_disj _,λ_=>zc.none_le _⟩
theorem OTy.rels_one{α:Type}{T:OTy α}{Z:FS}{h:zc}{cs:List Value}{xs:List α}(r:T.rels Z h cs xs):∀u∈cs,u.oneCell'=true:=by
 let⟨m,hs,h2,_⟩:=r;intro u l;let⟨j,e⟩:=List.mem_iff_getElem?.1 l;have c:=(UC.1 e).1;have h0:0 < T.size:=by
  grind
 have hi:j / T.size < xs.length:=by rw[Nat.div_lt_iff_lt_mul h0];omega
 refine T.one (h2 (j / T.size) _ (UJ hi)) u ?_;have q:=Nat.mod_lt j h0;have a:=Nat.div_add_mod j T.size;rw[Nat.mul_comm] at a;refine UT (i:=j % T.size) ?_;grind
def Z2(a:Addr)(cs:List Value)(h:zc):Prop:=a.spot=F/\∀(j:Nat) (u:Value),cs[j]?=E u->h a.block (a.off+j+1)=E (.cell u)
def Priv.cell(a:Addr)(cs:List Value):Priv where
 holds _ h:=Z2 a cs h
 mono _ l k:=⟨k.1,λj u c=>l _ _ _ (k.2 j u c)⟩
def zn{α:Type}(T:OTy α)(e:TypeId)(v:Value)(s:Sl α)(Z:FS)(h:zc):Prop:=
 (v = .slice F 0 0/\s=⟨[],N⟩)\/(∃a:Addr,v = .slice (E a) 0 0/\s=⟨[],I⟩)\/
 ∃(q c:Nat) (cur:List Value) (hb g:zc),v = .slice (E ⟨q,0,F⟩) s.xs.length c/\s.nn=I/\s.xs.length<=c/\c<=maxLen/\c * T.size<=cur.length/\
  hb.le h/\hb q 0=E (.shape e cur.length)/\(∀(j:Nat) (u:Value),cur[j]?=E u->hb q (j+1)=E (.cell u))/\g.le h/\hb.disj g/\T.rels Z g (cur.take (s.xs.length * T.size)) s.xs
omit [Dfr] in
theorem zn.mono{α:Type}{T:OTy α}{e:TypeId}{v:Value}{s:Sl α}{Z τ:FS}{h g:zc}(l:Z.le τ)(m:h.le g)(r:zn T e v s Z h):zn T e v s τ g:=by
 rcases r with r | r | ⟨q,a,cur,hb,R,A,C,u,M,K,r0,w,r7,r8,r9,c⟩
 ·exact .inl r
 ·exact .inr (.inl r)
 ·exact .inr <| .inr ⟨q,a,cur,hb,R,A,C,u,M,K,r0.trans m,w,r7,r8.trans m,r9,T.rels_mono l (.refl _) c⟩
omit [Dfr] in
def Priv.row{α:Type}(T:OTy α)(e:TypeId)(v:Value)(s:Sl α):Priv where
 holds Z h:=zn T e v s Z h
 mono l m r:=r.mono l m
omit [Dfr] in
theorem zn.form{α:Type}{T:OTy α}{e:TypeId}{v:Value}{s:Sl α}{Z:FS}{h:zc}(r:zn T e v s Z h):∃a c,v = .slice a s.xs.length c/\a.isSome=s.nn/\(a=F->s.xs.length=0)/\(a=F->c=0)/\s.xs.length<=c/\c<=maxLen:=by
 rcases r with⟨rfl,rfl⟩ | ⟨a,rfl,rfl⟩ | ⟨q,l,cur,hb,M,rfl,A,u,K,C,r0,w,R,r8,r9,m⟩
 rotate_left
 ·exact⟨E a,0,rfl,rfl,(λh=>by cases h),(λh=>by cases h),UK _,by simp[maxLen]⟩
 rotate_left
 ·exact⟨F,0,rfl,rfl,λ_=>rfl,λ_=>rfl,UK _,by simp[maxLen]⟩
 grind
omit [Dfr] in
def zxP{α:Type}(T:OTy α)(e:TypeId):OTy (Sl α) where
 size:=1
 agg:=false
 rel Z h cs s:=∃v,cs=[v]/\zn T e v s Z h
 len:=jE
 mono:=by rintro Z τ h g cs s l m ⟨v,rfl,r⟩;exact⟨v,rfl,r.mono l m⟩
 one:=by rintro Z h cs s ⟨v,rfl,r⟩ u q;obtain⟨a,c,rfl,_⟩:=r.form;simp at q;subst q;rfl
 sz _:=rfl
omit [Dfr] in
def zbA{α β:Type}(A:OTy α)(B:OTy β):OTy (α×β) where
 size:=A.size+B.size
 agg:=true
 rel Z h cs x:=∃c d h1 h2,cs=c++d/\h1.le h/\h2.le h/\h1.disj h2/\A.rel Z h1 c x.1/\B.rel Z h2 d x.2
 len:=by rintro Z h cs x ⟨c,d,h1,h2,rfl,_,_,_,h,k⟩;simp[A.len h,B.len k]
 mono:=by rintro Z τ h g cs x l m ⟨c,d,h1,h2,rfl,a,l2,e,p,q⟩;exact⟨c,d,h1,h2,rfl,a.trans m,l2.trans m,e,A.mono l (.refl _) p,B.mono l (.refl _) q⟩
 one:=by
  rintro Z h cs x ⟨c,d,h1,h2,rfl,_,_,_,h,k⟩ u r;rcases U5.1 r with m | m
  ·exact A.one h u m
  ·exact B.one k u m
 sz h:=by simp at h
def OTy.comap{α β:Type}(T:OTy α)(f:β->α):OTy β where
 size:=T.size
 agg:=T.agg
 rel Z h cs x:=T.rel Z h cs (f x)
 len h:=T.len h
 mono l m r:=T.mono l m r
 one r:=T.one r
 sz h:=T.sz h
def OTy.aggr{α:Type}(T:OTy α):OTy α where
 size:=T.size
 agg:=true
 rel Z h cs x:=T.rel Z h cs x
 len h:=T.len h
 mono l m r:=T.mono l m r
 one r:=T.one r
 sz h:=by simp at h
omit [Dfr] in
theorem Sep.get{Z:FS}{PV:List Priv}{h:zc}(k:Sep Z PV h){m:Nat}{p:Priv}(e:PV[m]?=E p):p.holds Z h:=by
 let⟨hs,c,_,a⟩:=k;exact p.mono (.refl _) (a m) (c m p e)
omit [Dfr] in
theorem Y7.get{Z:FS}{PV:List Priv}{w:World}(k:Y7 Z PV w){m:Nat}{p:Priv}(e:PV[m]?=E p):∃h,p.holds Z h/\h.sub w:=by
 let⟨_,h,a,c⟩:=k;exact⟨h,a.get e,c⟩
omit [Dfr] in
theorem zc.sub.cell{h:zc}{w:World}(k:h.sub w){b o:Nat}{v:Value}(e:h b (o+1)=E (.cell v)):w.cell? ⟨b,o,qc⟩=E v:=by
 let⟨c,e,o',h1,h2,a⟩:=k _ _ _ e;obtain rfl:o=o':=Zc
 simp[Y,h1,a]
theorem Addr.add_eq(a:Addr)(h:a.spot=F)(k:Nat):a.add k=⟨a.block,a.off+k,F⟩:=by
 let⟨b,o,c⟩:=a;simp at h;subst h;unfold Addr.add;grind
omit [Dfr] in
theorem Z2.cell{a:Addr}{cs:List Value}{h:zc}{w:World}(r:Z2 a cs h)(k:h.sub w){j:Nat}{u:Value}(c:cs[j]?=E u):w.cell? (a.add j)=E u:=by
 rw[Addr.add_eq a r.1];exact k.cell (r.2 j u c)
abbrev z8(P:Program)(Z:FS)(PV:List Priv)(L:List (Nat×Value))(b:Nat->Value)(o:Oper)(v:Value):Prop:=
 ∀w,Y7 Z PV w->(execOp (opv L b) o).run P w = .ok (.value v) w
def zzW(P:Program)(Z:FS)(PV:List Priv)(L:List (Nat×Value))(b:Nat->Value)(o:Oper)(C:Value->Prop):Prop:=
 ∃v,C v/\z8 P Z PV L b o v
def zi(v:Value)(k:Nat):Addr:=
 match v with
 | .slice (E a) _ _=>a.add k
 |_=>⟨0,k,F⟩
theorem Addr.add_add(a:Addr)(j k:Nat):(a.add j).add k=a.add (j+k):=by
 unfold Addr.add;grind
theorem Yx(v:Value)(j k:Nat):(zi v j).add k=zi v (j+k):=by
 unfold zi;split
 ·exact Addr.add_add _ j k
 ·unfold Addr.add;grind
class Plain{α:Type}(T:Ty α) where
 cells:α->List Value
 spec:∀Z cs x,T.rel Z cs x↔cs=cells x
instance {k:IntKind}:Plain (zAO k):=⟨λx=>[.int k x],λ_ _ _=>Iff.rfl⟩
instance:Plain zzT:=⟨λx=>[.bool x],λ_ _ _=>Iff.rfl⟩
instance:Plain znX:=⟨λx=>[.string x],λ_ _ _=>Iff.rfl⟩
instance:Plain zzU:=⟨λ_=>[],λ_ _ _=>Iff.rfl⟩
instance {α β:Type}{A:Ty α}{C:Ty β}[a:Plain A][c:Plain C]:Plain (zby A C):=⟨λx=>a.cells x.1++c.cells x.2,λZ cs x=>by
 constructor
 ·rintro⟨p,q,rfl,h,k⟩;rw[(a.spec _ _ _).1 h,(c.spec _ _ _).1 k]
 ·rintro rfl;exact⟨_,_,rfl,(a.spec _ _ _).2 rfl,(c.spec _ _ _).2 rfl⟩⟩
instance {α β:Type}{T:Ty α}{f:β->α}[a:Plain T]:Plain (T.comap f):=⟨λx=>a.cells (f x),λZ cs x=>a.spec Z cs (f x)⟩
instance {α:Type}{T:Ty α}[a:Plain T]:Plain T.aggr:=⟨a.cells,λZ cs x=>a.spec Z cs x⟩
omit [Dfr] in
theorem Plain.rels{α:Type}{T:Ty α}[a:Plain T]{Z τ:FS}:∀{xs:List α}{cs:List Value},T.rels Z cs xs->T.rels τ cs xs
 |[],_,h=>h
 |_::_,_,⟨c,d,e,h,k⟩=>⟨c,d,e,(a.spec _ _ _).2 ((a.spec _ _ _).1 h),Plain.rels k⟩
def za{α:Type}(s:Sl α)(i:Int):U3 α:=if 0<=i then s.xs[i.toNat]? else F
def Z3{α:Type}(a:Nat)(n:Int)(z:α):U3 (Sl α):=if 0<=n/\a * n.toNat<=140737488355328/\n<=140737488355328 then E ⟨List.replicate n.toNat z,I⟩ else F
def zo{α:Type}(a:Nat)(s:Sl α)(t:List α):U3 (Sl α):=
 if(s.xs.length+t.length) * a<=140737488355328/\s.xs.length+t.length<=140737488355328 then E ⟨s.xs++t,s.nn || !t.isEmpty⟩ else F
def z7{α:Type}(s:Sl α)(lo hi:Int):U3 (Sl α):=
 if 0<=lo/\lo<=hi/\hi<=s.xs.length then E ⟨(s.xs.take hi.toNat).drop lo.toNat,s.nn⟩ else F
def Zg(s:ByteArray)(i:Int):U3 Int:=if 0<=i then(s.data.toList[i.toNat]?).map (λc=>(c.toNat:Int)) else F
def ZI(s:ByteArray)(lo hi:Int):U3 ByteArray:=if 0<=lo/\lo<=hi/\hi<=s.size then E (s.extract lo.toNat hi.toNat) else F
def zkj(k:IntKind)(x y:Int):U3 Int:=if y=0 then F else E (k.wrap (x.tdiv y))
def zkk(k:IntKind)(x y:Int):U3 Int:=if y=0 then F else E (x.tmod y)
theorem yP{α:Type}{s:Sl α}{i:Int}{x:α}:za s i=E x↔0<=i/\s.xs[i.toNat]?=E x:=by
 unfold za;grind
theorem za7{α:Type}{s:Sl α}{i:Int}{x:α}(h:za s i=E x):0<=i/\i < s.xs.length:=by
 let⟨h0,h1⟩:=yP.1 h;grind
section
variable {ρ:Type}{n:Nat}{w0:Start}{σ0 Z:FS}{p:U3 ρ}{L:List (Nat×Value)}{b:Nat->Value}{PV PV':List Priv}
variable {P:Program}{Q:ρ->Exit->Act->World->Prop}{ops:Array Oper}{o:Oper}{rest:List Oper}
variable {H:U3 ρ->List (Nat×Value)->FS->List Priv->Prop}{d:Nat}{v:Value}{t t' ty:TypeId}{ps:String}{af:Array Edge}{g:U3 (Nat×Bool)}
variable {x y z:Operand}{k:IntKind}{i j:Int}
theorem Inv.held{w:World}(h:Inv w0 σ0 Z PV w):Y7 Z PV w:=⟨h.sub,h.own.elim λg k=>⟨g,k.1,k.2.sub⟩⟩
theorem zxQ(h:opv L b x=v):z8 P Z PV L b ⟨E d,.move x,ty,ps,af,g⟩ v:=λw _=>by
 simp only[execOp,UU,h]
theorem zsn(h:opv L b x=v):z8 P Z PV L b ⟨E d,.assign x,ty,ps,af,g⟩ v:=λw _=>by
 simp only[execOp,UU,h]
theorem zso{e:Bool}(c:opv L b x = .bool e)(a:e=I)(h:opv L b y=v):z8 P Z PV L b ⟨E d,.pick x y z,ty,ps,af,g⟩ v:=λw _=>by
 simp[execOp,c,a,h,asBool,go_sem]
theorem zsp{e:Bool}(c:opv L b x = .bool e)(a:e=N)(h:opv L b z=v):z8 P Z PV L b ⟨E d,.pick x y z,ty,ps,af,g⟩ v:=λw _=>by
 simp[execOp,c,a,h,asBool,go_sem]
theorem zzX(a:opv L b x = .int k i)(c:opv L b y = .int k j):z8 P Z PV L b ⟨E d,.binOp .add t x y t',ty,ps,af,g⟩ (.int k (k.wrap (i+j))):=λw _=>by
 simp[execOp,a,c,eqGuard,binOp,qk]
theorem zzY(a:opv L b x = .int k i)(c:opv L b y = .int k j):z8 P Z PV L b ⟨E d,.binOp .sub t x y t',ty,ps,af,g⟩ (.int k (k.wrap (i - j))):=λw _=>by
 simp[execOp,a,c,eqGuard,binOp,qk]
theorem zzZ(a:opv L b x = .int k i)(c:opv L b y = .int k j):z8 P Z PV L b ⟨E d,.binOp .mul t x y t',ty,ps,af,g⟩ (.int k (k.wrap (i * j))):=λw _=>by
 simp[execOp,a,c,eqGuard,binOp,qk]
theorem zz0(a:opv L b x = .int k i)(c:opv L b y = .int k j):z8 P Z PV L b ⟨E d,.binOp .lss t x y t',ty,ps,af,g⟩ (.bool (decide (i < j))):=λw _=>by
 simp[execOp,a,c,eqGuard,binOp,U]
theorem zz1(a:opv L b x = .int k i)(c:opv L b y = .int k j):z8 P Z PV L b ⟨E d,.binOp .leq t x y t',ty,ps,af,g⟩ (.bool (decide (i<=j))):=λw _=>by
 simp[execOp,a,c,eqGuard,binOp,U]
theorem zz2(a:opv L b x = .int k i)(c:opv L b y = .int k j):z8 P Z PV L b ⟨E d,.binOp .gtr t x y t',ty,ps,af,g⟩ (.bool (decide (j < i))):=λw _=>by
 simp[execOp,a,c,eqGuard,binOp,U]
theorem zz3(a:opv L b x = .int k i)(c:opv L b y = .int k j):z8 P Z PV L b ⟨E d,.binOp .geq t x y t',ty,ps,af,g⟩ (.bool (decide (j<=i))):=λw _=>by
 simp[execOp,a,c,eqGuard,binOp,U]
theorem zz4(a:opv L b x = .int k i)(c:opv L b y = .int k j):z8 P Z PV L b ⟨E d,.binOp .eql t x y t',ty,ps,af,g⟩ (.bool (decide (i=j))):=λw _=>by
 have:(i == j)=decide (i=j):=jE
 simp[execOp,a,c,eqGuard,binOp,U,this]
theorem zz5(a:opv L b x = .int k i)(c:opv L b y = .int k j):z8 P Z PV L b ⟨E d,.binOp .neq t x y t',ty,ps,af,g⟩ (.bool (decide (i≠j))):=λw _=>by
 have:(i != j) = !decide (i=j):=jE
 simp[execOp,a,c,eqGuard,binOp,U,this]
theorem zz6{q:Int}(c:opv L b x = .int k i)(e:opv L b y = .int k j)(a:zkj k i j=E q):z8 P Z PV L b ⟨E d,.binOp .quo t x y t',ty,ps,af,g⟩ (.int k q):=λw _=>by
 unfold zkj at a;split at a
 ·cases a
 ·rename_i h;cases a;simp[execOp,c,e,eqGuard,binOp,qH,h]
theorem zz7{q:Int}(c:opv L b x = .int k i)(e:opv L b y = .int k j)(a:zkk k i j=E q):z8 P Z PV L b ⟨E d,.binOp .rem t x y t',ty,ps,af,g⟩ (.int k q):=λw _=>by
 unfold zkk at a;split at a
 ·cases a
 ·rename_i h;cases a;simp[execOp,c,e,eqGuard,binOp,qH,h]
theorem zxR{e q:Bool}(a:P.underlying t=E .bool)(c:opv L b x = .bool e)(h:opv L b y = .bool q):z8 P Z PV L b ⟨E d,.binOp .eql t x y t',ty,ps,af,g⟩ (.bool (e == q)):=λw _=>by
 simp[execOp,c,h,eqGuard,binOp,run_equal_bool w t e q a]
theorem zxS{e q:Bool}(a:P.underlying t=E .bool)(c:opv L b x = .bool e)(h:opv L b y = .bool q):z8 P Z PV L b ⟨E d,.binOp .neq t x y t',ty,ps,af,g⟩ (.bool (e != q)):=λw _=>by
 simp[execOp,c,h,eqGuard,binOp,run_equal_bool w t e q a,bne]
theorem zz8{e:Bool}(a:opv L b x = .bool e):z8 P Z PV L b ⟨E d,.unOp .not t x,ty,ps,af,g⟩ (.bool !e):=λw _=>by
 simp[execOp,a,qG]
theorem zz9(a:opv L b x = .int k i):z8 P Z PV L b ⟨E d,.unOp .neg t x,ty,ps,af,g⟩ (.int k (k.wrap (0 - i))):=λw _=>by
 simp[execOp,a,qG,qk]
theorem zqA{vs:Array Value}{m:Nat}(a:opv L b x = .tuple vs)(h:vs[m]?=E v):z8 P Z PV L b ⟨E d,.extract x m,ty,ps,af,g⟩ v:=λw _=>by
 simp[execOp,a,Instr.extract,h]
theorem zfY {fn:Fn}{first a:Array Operand}{fs cs:List Value}(e:first.toList.map (opv L b)=fs) (c:a.toList.map (opv L b)=cs) :
    z8 P Z PV L b ⟨E d,.makeFunc fn first a,ty,ps,af,g⟩ (.func fn fs.toArray cs.toArray):=λw _=>by
 subst e;subst c;simp[execOp,Instr.makeFunc,<- Array.toList_map]
theorem zAa {a:Array TypeId}(c:opv L b x = .int k i) (e:opv L b y = .int k j) :
    z8 P Z PV L b ⟨E d,.call {callee :=.builtin .min,args:= #[x,y],argTypes:=a},ty,ps,af,g⟩ (.int k (if j < i then j else i)):=λw _=>by
 simp[execOp,resolve,invoke,builtin,c,e,Builtin.min_,Builtin.min2]
theorem zAb {a:Array TypeId}(c:opv L b x = .int k i) (e:opv L b y = .int k j) :
    z8 P Z PV L b ⟨E d,.call {callee :=.builtin .max,args:= #[x,y],argTypes:=a},ty,ps,af,g⟩ (.int k (if i < j then j else i)):=λw _=>by
 simp[execOp,resolve,invoke,builtin,c,e,Builtin.max_,Builtin.max2]
theorem Vy {α:Type}{τ:FS}{T:Ty α}{s:Sl α}{e:TypeId}(h:P.underlying t=E (.slice e)) (l:opv L b x=v) (q:(tSl T).vrel τ v s) :
    z8 P Z PV L b ⟨E d,.call {callee :=.builtin .len,args:= #[x],argTypes:= #[t]},ty,ps,af,g⟩ (.int .i64 s.len):=λw _=>by
 obtain⟨a,m,c,rfl,h1,h2⟩:=YS.1 q;simp[execOp,resolve,invoke,builtin,l,Builtin.len_,UV h,goInt,Sl.len,h1]
theorem zc3 {α:Type}{T:OTy α}{s:Sl α}{e e':TypeId}(m:Nat) (q:P.underlying t=E (.slice e)) (h:opv L b x=v) (hp:PV[m]?=E (.row T e' v s)) :
    z8 P Z PV L b ⟨E d,.call {callee :=.builtin .len,args:= #[x],argTypes:= #[t]},ty,ps,af,g⟩ (.int .i64 s.len):=λw r=>by
 let⟨u,l,_⟩:=r.get hp;obtain⟨a,c,rfl,_⟩:=zn.form l;simp[execOp,resolve,invoke,builtin,h,Builtin.len_,UV q,goInt,Sl.len]
theorem zkl {s:ByteArray}(a:P.underlying t=E .string) (c:opv L b x = .string s) :
    z8 P Z PV L b ⟨E d,.call {callee :=.builtin .len,args:= #[x],argTypes:= #[t]},ty,ps,af,g⟩ (.int .i64 (s.size:Int)):=λw _=>by
 simp[execOp,resolve,invoke,builtin,c,Builtin.len_,UV a,goInt]
theorem zab {w:World}{e:TypeId}{a:U3 Addr}{m c:Nat}(h:P.underlying t=E (.slice e)) :
    (Op.equal t (.slice a m c) (.slice F 0 0)).run P w = .ok (!a.isSome) w:=by
 rw[run_equal_slice_nil w t e a m c h];grind
theorem WK {α:Type}{τ:FS}{T:Ty α}{s:Sl α}{e:TypeId}(l:P.underlying t=E (.slice e)) (q:opv L b x=v) (r:opv L b y = .slice F 0 0) (h:(tSl T).vrel τ v s) :
    z8 P Z PV L b ⟨E d,.binOp .eql t x y t',ty,ps,af,g⟩ (.bool !s.nn):=λw _=>by
 obtain⟨a,m,c,rfl,h1,h2,_⟩:=YS.1 h;simp[execOp,q,r,eqGuard,binOp,zab l,h2]
theorem WL {α:Type}{τ:FS}{T:Ty α}{s:Sl α}{e:TypeId}(l:P.underlying t=E (.slice e)) (q:opv L b x=v) (r:opv L b y = .slice F 0 0) (h:(tSl T).vrel τ v s) :
    z8 P Z PV L b ⟨E d,.binOp .neq t x y t',ty,ps,af,g⟩ (.bool s.nn):=λw _=>by
 obtain⟨a,m,c,rfl,h1,h2,_⟩:=YS.1 h;simp[execOp,q,r,eqGuard,binOp,zab l,h2]
theorem zaT {α:Type}{T:OTy α}{s:Sl α}{e e':TypeId}(m:Nat) (q:P.underlying t=E (.slice e)) (h:opv L b x=v) (r:opv L b y = .slice F 0 0) (hp:PV[m]?=E (.row T e' v s)) :
    z8 P Z PV L b ⟨E d,.binOp .eql t x y t',ty,ps,af,g⟩ (.bool !s.nn):=λw u=>by
 let⟨A,l,_⟩:=u.get hp;obtain⟨a,c,rfl,h2,_⟩:=zn.form l;simp[execOp,h,r,eqGuard,binOp,zab q,h2]
theorem zaU {α:Type}{T:OTy α}{s:Sl α}{e e':TypeId}(m:Nat) (q:P.underlying t=E (.slice e)) (h:opv L b x=v) (r:opv L b y = .slice F 0 0) (hp:PV[m]?=E (.row T e' v s)) :
    z8 P Z PV L b ⟨E d,.binOp .neq t x y t',ty,ps,af,g⟩ (.bool s.nn):=λw u=>by
 let⟨A,l,_⟩:=u.get hp;obtain⟨a,c,rfl,h2,_⟩:=zn.form l;simp[execOp,h,r,eqGuard,binOp,zab q,h2]
theorem vj {fs:Array Field}{f:Field}{m:Nat}{a r:Addr}{ti:TypeInfo}(l:P.underlying t=E (.struct fs)) (e:fs[m]?=E f) (hi:P.info? f.type=E ti) (q:ti.size≠0)
    (c:opv L b x = .pointer (E a)) (h:a.add f.offset=r):z8 P Z PV L b ⟨E d,.fieldAddr t x m,ty,ps,af,g⟩ (.pointer (E r)):=λw _=>by
 subst h;simp[execOp,c,Instr.fieldAt,UV l,e,qx,fieldPlace,sizeOf,typeInfo,hi,q]
theorem zmy {e:TypeId}{n i:Nat}{a r:Addr}{ti:TypeInfo}(m:P.underlying t=E (.array n e)) (hi:P.info? e=E ti) (s:ti.size≠0)
    (h:opv L b x = .pointer (E a)) (q:opv L b y = .int .i64 (i:Int)) (c:i < n) (l:a.add (i * ti.size)=r) :
    z8 P Z PV L b ⟨E d,.indexAddr t x y,ty,ps,af,g⟩ (.pointer (E r)):=λw _=>by
 subst l;simp[execOp,h,q,qy,asIntOf,UV m,qx,sizeOf,typeInfo,hi,c]
theorem za8 {α:Type}{τ:FS}{T:Ty α}{s:Sl α}{q:α}{e:TypeId}{ti:TypeInfo}(r:P.underlying t=E (.slice e)) (hi:P.info? e=E ti) (C:ti.size=T.size)
    (l:opv L b x=v) (u:opv L b y = .int k i) (K:(tSl T).vrel τ v s) (A:za s i=E q) :
    z8 P Z PV L b ⟨E d,.indexAddr t x y,ty,ps,af,g⟩ (.pointer (E (zi v (i.toNat * T.size)))):=λw _=>by
 obtain⟨a,m,c,rfl,h1,h2,h3,R,M,_⟩:=YS.1 K;have h:=za7 A;rw[<- h1] at h;cases a with
 |none=>grind
 |some a=>
  simp[execOp,l,u,qy,asIntOf,UV r,sizeOf,typeInfo,hi,C,h,zi]
theorem zaV {α:Type}{T:OTy α}{s:Sl α}{q:α}{e e':TypeId}{ti:TypeInfo}(m:Nat) (u:P.underlying t=E (.slice e)) (hi:P.info? e=E ti) (K:ti.size=T.size)
    (l:opv L b x=v) (A:opv L b y = .int k i) (hp:PV[m]?=E (.row T e' v s)) (C:za s i=E q) :
    z8 P Z PV L b ⟨E d,.indexAddr t x y,ty,ps,af,g⟩ (.pointer (E (zi v (i.toNat * T.size)))):=λw M=>by
 let⟨R,r,_⟩:=M.get hp;obtain⟨a,c,rfl,h1,h2,_⟩:=zn.form r;have h:=za7 C;cases a with
 |none=>grind
 |some a=>
  simp[execOp,l,A,qy,asIntOf,UV u,sizeOf,typeInfo,hi,K,h,zi]
def Zh:TypeDesc->Bool
 | .struct _ | .array _ _=>I
 |_=>N
theorem Vz{w:World}(a:Addr)(cs:List Value)(h:∀(j:Nat) (u:Value),cs[j]?=E u->w.cell? (a.add j)=E u):(loadCells a cs.length).run P w = .ok cs.toArray w:=
 run_loadCells_list w a cs h
theorem vU {w:World}{c:TypeDesc}{ti:TypeInfo}(a:Addr) (cs:List Value) (m:P.underlying t=E c) (hi:P.info? t=E ti) (q:ti.size=cs.length) (h1:Zh c=N->cs.length=1)
    (h:∀(j:Nat) (u:Value),cs[j]?=E u->w.cell? (a.add j)=E u):(loadVar t a).run P w = .ok (yF (Zh c) cs) w:=by
 unfold loadVar;have e:(Go.isAgg t).run P w=X (Zh c) w:=by
  unfold Go.isAgg;rw[UW,UV m];cases c<;>rfl
 rw[UW,e];simp only[UX];cases hd:Zh c with
 |true=>
  simp only[jq,UW,sizeOf,typeInfo,UY,UX,hi,UU,q];rw[Vz a cs h];simp[yF]
 |false=>
  have l:=h1 hd
  match cs,l with
  |[u],_=>
    have:=h 0 u rfl;simp only[Addr.add,jq] at this;simp[load,O,this,yF]
def XQ{α β:Type}(T:Ty α)(off:Nat)(Tf:Ty β)(a:α->β):Prop:=∀Z cs x,T.rel Z cs x->Tf.rel Z ((cs.drop off).take Tf.size) (a x)
theorem XQ.self{α:Type}(T:Ty α):XQ T 0 T id:=λZ cs x h=>by
 have:=T.len h;grind
omit [Dfr] in
theorem XQ.fst{α β:Type}{A:Ty α}{C:Ty β}:XQ (zby A C) 0 A Prod.fst:=by
 rintro Z cs x ⟨c,d,rfl,h,k⟩;have:=A.len h;grind
omit [Dfr] in
theorem XQ.snd{α β:Type}{A:Ty α}{C:Ty β}:XQ (zby A C) A.size C Prod.snd:=by
 rintro Z cs x ⟨c,d,rfl,h,k⟩;have h1:=A.len h;have h2:=C.len k;grind
end
end Go.Px
namespace Go.Px
variable [Dfr]
theorem zac(w:World)(o:Obj)(b:Nat)(h:b < w.heap.size):(w.alloc o).heap[b]?=w.heap[b]?:=heap_alloc_old w o h
theorem Ya(w:World)(o:Obj):(w.alloc o).heap[w.heap.size]?=E o:=heap_alloc_new w o
theorem zc4(w:World)(c:Array Value)(t:TypeId)(a:Addr):(w.alloc (.cells c t (0,0))).frozen? a=w.frozen? a:=by
 by_cases h:a.block=w.heap.size
 ·have h1:(w.alloc (.cells c t (0,0))).heap[a.block]?=E (.cells c t (0,0)):=by rw[h];exact Ya _ _
  have h2:w.heap[a.block]?=none:=by rw[h];simp
  simp[qB,h1,h2]
 ·exact World.frozen?_alloc_old w _ a h
theorem zi1(w:World)(g:Nat)(cs:Array Value)(a:Addr):(w.setRow g cs).frozen? a=w.frozen? a:=by
 unfold qB qA;grind
def Za(q:Nat)(e:TypeId)(c:Array Value):zc:=λb k=>if b=q then(match k with | 0=>E (.shape e c.size) | j+1=>(c[j]?).map .cell) else F
theorem x8{w:World}{q:Nat}{e:TypeId}{c:Array Value}(h:w.heap[q]?=E (.cells c e (0,0))):(Za q e c).sub w:=by
 intro b k x a;unfold Za at a;split at a
 ·rename_i hb;subst hb;cases k with
  |zero=>simp at a;subst a;exact⟨c,h,rfl,rfl⟩
  |succ j=>
   simp only at a;cases l:c[j]? with
   |none=>grind
   |some v=>rw[l] at a;cases a;exact⟨c,e,j,h,rfl,l⟩
 ·cases a
theorem Yy{q:Nat}{e:TypeId}{c:Array Value}{b k:Nat}(h:(Za q e c b k).isSome):b=q/\(k=0\/k - 1 < c.size):=by
 unfold Za at h;split at h
 ·rename_i hb;refine⟨hb,?_⟩;grind
 ·cases h
theorem w7(q:Nat)(e:TypeId)(c:Array Value):Za q e c q 0=E (.shape e c.size):=by simp[Za]
theorem XR{q:Nat}{e:TypeId}{c:Array Value}{j:Nat}{u:Value}(h:c.toList[j]?=E u):Za q e c q (j+1)=E (.cell u):=by
 have:c[j]?=E u:=by simpa using h
 simp[Za,this]
theorem vA(w:World)(c:Array Value)(t:TypeId)(h:zc):Ext w h (w.alloc (.cells c t (0,0))):=
 ⟨rfl,rfl,rfl,je,λb =>.same λhb=>zac _ _ _ hb,λa _ _=>zc4 w c t a⟩
theorem znZ{w:World}{q:Nat}{c c':Array Value}{e:TypeId}{f:Nat×Nat}{h:zc}(l:w.heap[q]?=E (.cells c e f))(hs:c'.size=c.size)(r:∀o,h q (o+1)=F->c'[o]?=c[o]?):Ext w h (w.setRow q c'):=by
 refine⟨rfl,rfl,rfl,by simp[qA],λb=>?_,λa _ _=>zi1 w q c' a⟩;by_cases hb:b=q
 ·subst hb;refine⟨λc1 A u h1=>?_,λx m s=>?_⟩
  ·rw[l] at h1;cases h1;exact⟨c',_,setRow_heap w b c c' e f l,hs,r,.inl rfl⟩
  ·rw[l] at m;cases m;cases s
 ·exact .same λ_=>setRow_other w q b c' hb
section
variable {ρ:Type}{n:Nat}{w0:Start}{σ0 Z:FS}{p:U3 ρ}{G:ρ->Act->World->Prop}{L:List (Nat×Value)}{b:Nat->Value}{PV PV':List Priv}
variable {P:Program}{ops:Array Oper}{o:Oper}{rest:List Oper}
variable {H:U3 ρ->List (Nat×Value)->FS->List Priv->Prop}{B d:Nat}{v:Value}{t t' ty:TypeId}{ps:String}{af:Array Edge}{g:U3 (Nat×Bool)}
variable {x y z:Operand}{k:IntKind}{i j:Int}
theorem Inv.alloc_cell{w:World}(h:Inv w0 σ0 Z PV w)(cs:List Value)(T:TypeId):Inv w0 σ0 Z (.cell ⟨w.heap.size,0,F⟩ cs::PV) (w.alloc (.cells cs.toArray T (0,0))):=by
 refine h.cons (h1:=Za w.heap.size T cs.toArray) ⟨rfl,λj u a=>?_⟩ (x8 (Ya _ _)) (vA _ _ _ _) λb i hb=>by rw[(Yy hb).1];grind
 simp only[UZ];exact XR (by simpa using a)
class Frz{α:Type}(T:OTy α)(T':outParam (Ty α)):Prop where
 size:T'.size=T.size
 agg:T'.agg=T.agg
 spec:∀{Z τ:FS} {h:zc} {cs:List Value} {x:α},Z.le τ->(∀b o v,h b (o+1)=E (.cell v)->τ b o=E v)->T.rel Z h cs x->T'.rel τ cs x
instance {α:Type}{T:Ty α}:Frz T.o T:=⟨rfl,rfl,λl _ r=>T.mono l r⟩
omit [Dfr] in
theorem Frz.rels{α:Type}{T:OTy α}{T':Ty α}[f:Frz T T']{Z τ:FS}{h:zc}{cs:List Value}{xs:List α}(l:Z.le τ)(a:∀b o v,h b (o+1)=E (.cell v)->τ b o=E v)(r:T.rels Z h cs xs):T'.rels τ cs xs:=by
 let⟨h1,hs,h2,q,c⟩:=r;refine Ty.rels_of (by rw[h1,f.size]) λi x m=>?_
 rw[f.size];exact f.spec l (λb o v e=>a b o v (c i _ _ _ e)) (h2 i x m)
omit [Dfr] in
theorem zn.fast{α:Type}{T:OTy α}{T':Ty α}[f:Frz T T']{e:TypeId}{v:Value}{s:Sl α}{Z τ:FS}{h:zc}(l:Z.le τ)(w:∀b o v,h b (o+1)=E (.cell v)->τ b o=E v)(r:zn T e v s Z h):(tSl T').vrel τ v s:=by
 refine YS.2 ?_;rcases r with⟨rfl,rfl⟩ | ⟨a,rfl,rfl⟩ | ⟨q,C,cur,hb,gg,rfl,M,A,R,r5,r0,r6,K,r8,r9,m⟩
 ·exact⟨F,0,0,rfl,rfl,rfl,UK _,UL _,λ_=>⟨rfl,rfl⟩,[],rfl,λj u c=>by simp at c⟩
 ·exact⟨E a,0,0,rfl,rfl,rfl,UK _,UL _,(λh=>by cases h),[],rfl,λj u c=>by simp at c⟩
 ·refine⟨_,_,_,rfl,rfl,by simp[M],A,R,(λh=>by cases h),cur.take (s.xs.length * T.size),f.rels l (λb o v e=>w b o v (r8 _ _ _ e)) m,λj u c=>⟨_,rfl,?_⟩⟩;rw[Addr.add_eq _ rfl];rw[List.getElem?_take] at c;split at c
  ·simpa[FS.cell] using w _ _ _ (r0 _ _ _ (K j u c))
  ·cases c
omit [Dfr] in
instance {α:Type}{T:OTy α}{T':Ty α}{e:TypeId}[f:Frz T T']:Frz (zxP T e) (tSl T'):=⟨rfl,rfl,by
 rintro Z τ h cs x l s ⟨v,rfl,r⟩;have:=r.fast l s;obtain⟨a,m,c,rfl,q⟩:=YS.1 this
 exact⟨a,m,c,rfl,q⟩⟩
omit [Dfr] in
instance {α β:Type}{A:OTy α}{B:OTy β}{A':Ty α}{a:Ty β}[f:Frz A A'][k:Frz B a]:Frz (zbA A B) (zby A' a):=⟨by simp[zbA,zby,f.size,k.size],rfl,by
 rintro Z τ h cs x l m ⟨c,d,h1,h2,rfl,r,l2,s,p,q⟩
 exact⟨c,d,rfl,f.spec l (λb o v e=>m b o v (r _ _ _ e)) p,k.spec l (λb o v e=>m b o v (l2 _ _ _ e)) q⟩⟩
instance {α β:Type}{T:OTy α}{T':Ty α}{g:β->α}[f:Frz T T']:Frz (T.comap g) (T'.comap g):=⟨f.size,f.agg,λl a r=>f.spec l a r⟩
instance {α:Type}{T:OTy α}{T':Ty α}[f:Frz T T']:Frz T.aggr T'.aggr:=⟨f.size,rfl,λl a r=>f.spec l a r⟩
theorem Xx{Z:FS}{h:zc}(b o:Nat)(v:Value)(e:h b (o+1)=E (.cell v)):(Z.with h) b o=E v:=by simp[FS.with,e]
theorem zqB {cs:List Value}(m:qo d n=I) (q:(opv L b x).cells.toList=cs) (h:∀c:Addr,H p ((d,.pointer (E (c.add 0)))::L) Z (.cell c cs::PV)) :
    Xl P n w0 σ0 ⟨E d,.box t x,ty,ps,af,g⟩ p L b Z PV H:=by
 intro r hp a w hi e K Q l;unfold Oper.wp;have:(execOp a.eval ⟨E d,.box t x,ty,ps,af,g⟩).run P w = .ok (.value (.pointer (E ⟨w.heap.size,0,F⟩))) (w.alloc (.cells cs.toArray t (0,0))):=by
  subst q;rw[e.eval];simp[execOp,Instr.box,newVar,newRow,newObj,O]
 rw[this,Oper.upon_value];exact l p _ Z _ _ _ hp (hi.alloc_cell cs t) (e.put (by simpa[Da] using m) _) (h _)
theorem zkm {cs:List Value}{ti:TypeInfo}{m:Value}(u:qo d n=I) (e:P.info? t=E ti) (A:ti.zero=E m) (s:m.cells.toList=cs) (h:∀c:Addr,H p ((d,.pointer (E (c.add 0)))::L) Z (.cell c cs::PV)) :
    Xl P n w0 σ0 ⟨E d,.alloc t,ty,ps,af,g⟩ p L b Z PV H:=by
 intro r hp a w hi l K Q q;unfold Oper.wp;have:(execOp a.eval ⟨E d,.alloc t,ty,ps,af,g⟩).run P w = .ok (.value (.pointer (E ⟨w.heap.size,0,F⟩))) (w.alloc (.cells cs.toArray t (0,0))):=by
  subst s;rw[l.eval];simp[execOp,Instr.alloc,zeroValue,typeInfo,e,A,newVar,newRow,newObj,O]
 rw[this,Oper.upon_value];exact q p _ Z _ _ _ hp (hi.alloc_cell cs t) (l.put (by simpa[Da] using u) _) (h _)
def zc5:List Value->Prop
 |[]=>True
 |v::r=>v.oneCell'=I/\zc5 r
theorem zc5.mem:∀{l:List Value},zc5 l->∀u∈l,u.oneCell'=I
 |[],_,_,h=>by simp at h
 |v::r,⟨h,k⟩,u,a=>by
  rcases Db.1 a with rfl | a
  ·exact h
  ·exact k.mem u a
def zc.put(h:zc)(q off:Nat)(vs:List Value):zc:=λb k=>if b=q/\off < k/\k<=off+vs.length then(vs[k - 1 - off]?).map .cell else h b k
theorem zc.put_in{h:zc}{q off:Nat}{vs:List Value}{j:Nat}{u:Value}(a:vs[j]?=E u):h.put q off vs q (off+j+1)=E (.cell u):=by
 have c:=(UC.1 a).1;unfold zc.put;grind
theorem zc.put_out{h:zc}{q off:Nat}{vs:List Value}{b k:Nat}(a:¬ (b=q/\off < k/\k<=off+vs.length)):h.put q off vs b k=h b k:=by
 unfold zc.put;rw[jx a]
theorem zc.put_dom{h:zc}{q off:Nat}{vs:List Value}(a:∀j,j < vs.length->(h q (off+j+1)).isSome){b k:Nat}(e:(h.put q off vs b k).isSome):(h b k).isSome:=by
 by_cases c:b=q/\off < k/\k<=off+vs.length
 ·obtain⟨rfl,h1,h2⟩:=c;have:=a (k - 1 - off) Zc;grind
 ·rwa [zc.put_out c] at e
theorem zfZ {w:World}{h:zc}{q off:Nat}{vs:List Value}{c:Array Value}{e:TypeId}(hs:h.sub w) (hb:w.heap[q]?=E (.cells c e (0,0))) (hfit:off+vs.length<=c.size) (r:∀j,j < vs.length->∃u,h q (off+j+1)=E (.cell u)) :
    (h.put q off vs).sub (w.setRow q (c.toList.take off++vs++c.toList.drop (off+vs.length)).toArray)/\Ext w h (w.setRow q (c.toList.take off++vs++c.toList.drop (off+vs.length)).toArray):=by
 have M:∀o,(c.toList.take off++vs++c.toList.drop (off+vs.length)).toArray[o]?=if off<=o/\o < off+vs.length then vs[o - off]? else c[o]?:=by
  intro o;have R:(c.toList.take off).length=off:=ji
  simp only[List.getElem?_toArray];by_cases h1:o < off
  ·grind
  · by_cases h2:o < off+vs.length
    ·rw[jv ⟨Zc,h2⟩,Dc,Dd Zc,R,De Zc]
    grind
 have a:(c.toList.take off++vs++c.toList.drop (off+vs.length)).toArray.size=c.size:=ji
 refine⟨?_,znZ hb a λo C=>?_⟩
 · intro b k x s;have l:=setRow_heap w q c (c.toList.take off++vs++c.toList.drop (off+vs.length)).toArray e (0,0) hb;by_cases hc:b=q/\off < k/\k<=off+vs.length
   · obtain⟨rfl,h1,h2⟩:=hc;unfold zc.put at s;rw[jv ⟨rfl,h1,h2⟩] at s;have K:k - 1 - off < vs.length:=Zc
     rw[UJ K] at s;cases s;refine⟨_,e,k - 1,l,Zc,?_⟩;grind
   · rw[zc.put_out hc] at s;have:=hs b k x s;by_cases A:b=q
     · subst A;cases x with
       |cell v=>
        obtain⟨c',e',o',h1,rfl,m⟩:=this;rw[hb] at h1;cases h1;refine⟨_,e,o',l,rfl,?_⟩;grind
       |shape e' n'=>
        obtain⟨c',h1,rfl,m⟩:=this;rw[hb] at h1;cases h1;exact⟨_,l,rfl,a.trans m⟩
       |obj o=>let⟨h1,_,m⟩:=this;rw[hb] at h1;cases h1;cases m
     · have C:=setRow_other w q b (c.toList.take off++vs++c.toList.drop (off+vs.length)).toArray A;cases x with
       |cell v=>let⟨c',e',o',h1,h2,m⟩:=this;exact⟨c',e',o',C.trans h1,h2,m⟩
       |shape e' n'=>let⟨c',h1,h2,m⟩:=this;exact⟨c',C.trans h1,h2,m⟩
       |obj o=>let⟨h1,h2,m⟩:=this;exact⟨C.trans h1,h2,m⟩
 ·rw[M,jx];rintro⟨h1,h2⟩;let⟨u,hu⟩:=r (o - off) Zc;rw[(Zc:off+(o - off)+1=o+1),C] at hu;cases hu
theorem VA {w:World}{h:zc}{q off:Nat}{vs:List Value}(hs:h.sub w) (K:q < w.heap.size) (a:∀j,j < vs.length->∃u,h q (off+j+1)=E (.cell u)) (s:∀u∈vs,u.oneCell'=I) (R:vs≠[]) :
    ∃w',(storeCells ⟨q,off,F⟩ vs).run P w = .ok () w'/\(h.put q off vs).sub w'/\Ext w h w':=by
 let⟨u0,C⟩:=a 0 jE;let⟨c,e,o0,hb,_,_⟩:=hs _ _ _ C;have A:∀j,j < vs.length->off+j < c.size:=λj M=>by
  let⟨u,hu⟩:=a j M;let⟨c',e',o',hb',h2,h3⟩:=hs _ _ _ hu;grind
 have l:off+0+vs.length<=c.size:=by
  have hl:0 < vs.length:=jE
  have:=A (vs.length - 1) Zc;omega
 have m:=run_storeCells_at (P:=P) q off e vs 0 c w hb l s;simp only[Df] at m l;have r:(storeCells ⟨q,off,F⟩ vs).run P w = .ok () (w.setRow q (c.toList.take off++vs++c.toList.drop (off+vs.length)).toArray):=m;exact⟨_,r,zfZ hs hb l a⟩
theorem zi2 {a:Addr}{off:Nat}{cs vs cs':List Value}{ti:TypeInfo}(m:Nat) (hi':P.info? t=E ti) (hx:opv L b x = .pointer (E (a.add off))) (hy:(opv L b y).cells.toList=vs)
    (hs:ti.size=vs.length) (h1:zc5 vs) (hm:PV[m]?=E (.cell a cs)) (ho:Nat.ble (off+vs.length) cs.length=I) (hcs:cs.take off++vs++cs.drop (off+vs.length)=cs') (hPV:PV.set m (.cell a cs')=PV') (h0:qo 0 vs.length=I)
    (h:H p L Z PV'):Xl P n w0 σ0 ⟨F,.store t x y,ty,ps,af,g⟩ p L b Z PV H:=by
 intro r hp ac w hi hf K Q hK;unfold Oper.wp;have ho':off+vs.length<=cs.length:=Dg ho;have hsz:(opv L b y).cells.size=vs.length:=jE
 subst hPV;have key:∃w',(storeCells (a.add off) vs).run P w = .ok () w'/\Inv w0 σ0 Z (PV.set m (.cell a cs')) w':=by
  let⟨hh,M,hg⟩:=hi.own;let⟨h1',h2',A,e2,e3,e4,e5,_⟩:=M.pick hm;have A:Z2 a cs h1':=A;have C:vs≠[]:=by intro e;subst e;simp at h0
  have c:∀g,Z2 a cs g->∀j,j < vs.length->∃u,g a.block (a.off+off+j+1)=E (.cell u):=λg hg j q=>by
   have s:off+j < cs.length:=Zc
   exact⟨_,by rw[(Zc:a.off+off+j=a.off+(off+j))];exact hg.2 (off+j) _ (UJ s)⟩
  have s:a.block < w.heap.size:=by
   let⟨u,hu⟩:=c _ A 0 jE;exact Bit.at_lt (hg.sub _ _ _ (e2 _ _ _ hu))
  let⟨w',k1,k2,k3⟩:=VA (P:=P) (hg.sub.mono e2) s (c _ A) h1.mem C;rw[Addr.add_eq a A.1];refine⟨w',k1,hi.change hm λg l hgs=>?_⟩;have l:Z2 a cs g:=l;let⟨w'',j1,j2,j3⟩:=VA (P:=P) hgs s (c _ l) h1.mem C;rw[k1] at j1;cases j1;refine⟨_,⟨l.1,λj u q=>?_⟩,j2,j3,λb i hx =>.inl (zc.put_dom (λj q=>jE) hx)⟩;subst hcs;have R:(cs.take off).length=off:=ji
  by_cases c1:j < off
  ·rw[Dc,De Zc,Dh c1] at q;rw[zc.put_out Zc];exact l.2 j u q
  · by_cases c2:j < off+vs.length
    ·rw[Dc,Dd Zc,R,De Zc] at q;rw[(Zc:a.off+j+1=a.off+off+(j - off)+1)];exact zc.put_in q
    ·rw[Dd ji,Di] at q;simp only[jy,R] at q;rw[(Zc:off+vs.length+(j - (off+vs.length))=j)] at q;rw[zc.put_out Zc];exact l.2 j u q
 let⟨w',hst,hi2⟩:=key;have:(execOp ac.eval ⟨F,.store t x y,ty,ps,af,g⟩).run P w = .ok .skip w':=by
  rw[hf.eval];simp only[execOp,Instr.storeAt,qx,hx,storeVar,sizeOf,typeInfo,UW,UU,UY,UX,hi',hsz,hs,Dj,not_true,jp,hy,hst]
 rw[this,Oper.upon_skip];exact hK p L Z _ _ _ hp hi2 hf h
end
end Go.Px
