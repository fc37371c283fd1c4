/- Part A1. -/
import Derived.WalkKit
import Derived.WalkSpells
import Derived.WalkLawsBesides
import Derived.OrdersHeld
import Derived.KernelRfl
import Derived.Laws.OwnMore
import Derived.MapKept
set_option linter.unusedVariables false
set_option linter.unusedSectionVars false
set_option linter.unusedSimpArgs false
open Array renaming replicate->qN,getElem?_setIfInBounds_ne->qO
open Bool renaming true->I,false->N
open Go.Instr renaming findNow->W,sureAddr->qx,indexAt->qy,sameBits->qM
open Go.Op renaming intCmp->U,intArith->qk,unary->qG,intDiv->qH
open Go.Result renaming ok->X
open Go.Sem renaming run->O
open Go.Value renaming oneCell'->qb,cells->qC
open Go.World renaming cell?->Y,setRow->qA,frozen?->qB
open List renaming map->qs,drop->qv,range->qJ,drop_append->qK,cons->qL
open Nat renaming beq->V,blt->qo,add_sub_cancel_left->qI
open Option renaming some->E,none->F,none->qc,map->qD,isSome_none->qE,getD_none->qF
namespace Go.Px
theorem Dm:∀{α:Sort _}(a b:α),(a≠b)=¬a=b:=@ne_eq
theorem Dl:∀{α:Type _}{xs:List α}{i j:Nat},(qv i xs)[j]? =xs[i + j]?:=@List.getElem?_drop
theorem Dk:∀{α : Type _} {l : List α} {i j : Nat},i < j->(List.take j l)[i]? = l[i]?:=@List.getElem?_take_of_lt
theorem Dj:∀{n m:Nat},n.ble m=I->n<=m:=@Nat.le_of_ble_eq_true
theorem Di:∀(n:Nat),n + 0=n:=@Nat.add_zero
theorem Dh:∀{α : Type _} {l₁ l₂ : List α} {i : Nat},i < l₁.length->(l₁++l₂)[i]? = l₁[i]?:=@List.getElem?_append_left
theorem Dg:∀{α:Type _}{l₁ l₂:List α}{i:Nat},l₁.length<=i->(l₁++l₂)[i]? =l₂[i - l₁.length]?:=@List.getElem?_append_right
theorem Df:∀{α:Type _}(«as» bs cs:List α),«as»++bs++cs=«as»++(bs++cs):=@List.append_assoc
theorem De:∀{α:Type _}{b:α}{l:List α}{a:α},a∈b::l↔a=b\/a∈l:=@List.mem_cons
theorem Dd:∀{x y : Nat},(x.blt y = I) = (x < y):=@Nat.blt_eq
theorem Dc:∀(n:Nat),0 + n=n:=@Nat.zero_add
theorem Db:∀(P:Program) (w:World),O P program w=X P w:=@run_program
theorem Da:∀{α β:Type}(a:α) (w:World) (f:α->World->Result β),(X a w).andThen f=f a w:=@Result.andThen_ok
theorem UZ:∀{α β:Type}(P:Program) (w:World) (x:Sem α) (f:α->Sem β),O P (x >>=f) w=(O P x w).andThen λa w'=> O P (f a) w':=@Sem.run_bind
theorem UY:∀{P:Program}{t:TypeId}{d:TypeDesc},P.underlying t=E d->∀(w:World),O P (underlying t) w=X d w:=@run_underlying
theorem UX:∀{α:Type}(P:Program) (w:World) (a:α),O P (pure a) w=X a w:=@Sem.run_pure
theorem UW:∀{α:Type _}{l:List α}{i:Nat}{a:α},l[i]? =E a->a∈l:=@List.mem_of_getElem?
theorem UV:∀(n m k:Nat),(n + m) * k=n * k + m * k:=@Nat.add_mul
theorem UU:∀{α:Type _}{i:Nat}{l:List α},(qv i l).length=l.length - i:=@List.length_drop
theorem UT:∀{α:Type _}{l:List α},l.length=0->l=[]:=@List.eq_nil_of_length_eq_zero
theorem US:∀{α:Type _}{l:List α}{i:Nat},l.length<=i->l[i]? =none:=@List.getElem?_eq_none
theorem UR:∀(a b:Bool),((a || b)=I)=(a=I\/b=I):=@Bool.or_eq_true
theorem UQ:∀{α:Type _}{x:Option α},x.isSome=I↔∃a,x=E a:=@Option.isSome_iff_exists
theorem UP:∀{n m k:Nat},n<=m->m<=k->n<=k:=@Nat.le_trans
theorem UO:∀(n:Nat),0<=n:=@Nat.zero_le
theorem UN:∀(n:Nat),n<=n:=@Nat.le_refl
theorem UM:∀{α : Type _} {l : List α} {i : Nat} (h : i < l.length),l[i]? = E l[i]:=@List.getElem?_eq_getElem
theorem UL:∀{α : Type _} {l : List α} {i j : Nat} {a : α},(l.set i a)[j]? = if i = j then if i < l.length then E a else F else l[j]?:=@List.getElem?_set
theorem UK:∀{α:Type _}{l₁ l₂:List α},(∀(i:Nat),l₁[i]? =l₂[i]?)->l₁=l₂:=@List.ext_getElem?
theorem UJ:∀(p:Prop),(True/\p)=p:=@true_and
theorem UI:∀{α:Type _}{β:Type _}{f:α->β}{a:α}{l:List α},qs f (a::l)=f a::qs f l:=@List.map_cons
theorem UH:∀{α:Type _}{l:List α},l.Nodup↔List.Pairwise (λx1 x2=> x1≠x2) l:=@List.nodup_iff_pairwise_ne
theorem UG:∀{α:Type _}{i:Nat}{a:α}{l:List α},l[i]? =E a↔∃h,l[i]=a:=@List.getElem?_eq_some_iff
theorem UF:∀{α:Type _}{β:Type _}(a:α) (f:α->β),qD f (E a)=E (f a):=@Option.map_some
theorem UE:∀{α:Type _}{β:Type _}{f:α->β}{l:List α}{i:Nat},(qs f l)[i]? =qD f l[i]?:=@List.getElem?_map
theorem UD:∀{α:Type _}{i:Nat}{b:α}{xs:Array α},xs[i]? =E b↔∃h,xs[i]=b:=@Array.getElem?_eq_some_iff
theorem UC:∀{α:Sort _}(a b:α),(bif N then a else b)=b:=@cond_false
theorem UB:∀{α:Type _}{xs:Array α}{i:Nat}{d:α},xs.getD i d=xs[i]?.getD d:=@Array.getD_eq_getD_getElem?
theorem UA:∀{α:Type _}{«as»:List α}{i:Nat},«as».length<=i->qv i «as»=[]:=@List.drop_eq_nil_of_le
theorem U9:∀{α:Type _}{a:α}{s t:List α},a∈s++t↔a∈s\/a∈t:=@List.mem_append
abbrev U8(a:Int):=IntKind.i64.wrap a
abbrev U7:=@Option
abbrev U5:=ByteArray
theorem jj{α β:Type _}(a:α)(f:α->U7 β):(E a).bind f=f a:=rfl
theorem jk:(N=I)=False:=Bool.false_eq_true
theorem jl{p:Prop}[Decidable p]:(decide p=I)=p:=decide_eq_true_eq
theorem jm{α β γ:Type _}(f:α->γ)(g:β->γ)(a:β):Sum.elim f g (.inr a)=g a:=rfl
theorem jo{α β γ:Type _}(f:α->γ)(g:β->γ)(a:α):Sum.elim f g (.inl a)=f a:=rfl
theorem jp{α:Sort _}{_:Decidable False}(t e:α):ite False t e=e:=if_false t e
theorem jq{α:Sort _}{_:Decidable True}(t e:α):ite True t e=t:=if_true t e
theorem jr(h:Decidable False):decide False=false:=decide_false h
theorem js(h:Decidable True):decide True=true:=decide_true h
theorem jt:(¬True)=False:=not_true_eq_false
theorem ju:(¬False)=True:=not_false_eq_true
theorem jv{c:Prop}{h:Decidable c}(hc:c){α:Sort _}{t e:α}:ite c t e=t:=if_pos hc
theorem jx{c:Prop}{h:Decidable c}(hc:¬c){α:Sort _}{t e:α}:ite c t e=e:=if_neg hc
theorem jy{α:Type _}{as bs:List α}:(as++bs).length=as.length+bs.length:=List.length_append
theorem jz{α:Type _}{a:α}{as:List α}:(a::as).length=as.length+1:=rfl
theorem g9{α:Type _}{a:α}:[a].length=1:=rfl
theorem gc{α:Type _}{l:List α}{n:Nat}(h:n<l.length):l[n]∈l:=List.getElem_mem h
theorem gd{α β:Type _}{o:U7 α}{f:α->U7 β}{b:β}(h:o.bind f=E b):∃a,o=E a/\f a=E b:=Option.bind_eq_some_iff.1 h
theorem ge{a b:Nat}(h:V a b=I):a=b:=Nat.eq_of_beq_eq_true h
theorem gf(a b:Bool):((a&&b)=I)=(a=I/\b=I):=Bool.and_eq_true a b
theorem gh{α β γ:Type _}(x:U7 α)(f:α->U7 β)(g:β->U7 γ):(x.bind f).bind g=x.bind λy=>(f y).bind g:=Option.bind_assoc x f g
theorem gm{p:Prop}[Decidable p](h:p):decide p=true:=decide_eq_true h
abbrev FS:=Nat->Nat->U7 Value
def FS.le(Z τ:FS):Prop:=∀b o v,Z b o=E v->τ b o=E v
theorem FS.le.refl(Z:FS):Z.le Z:=λ_ _ _ h=>h
theorem FS.le.trans{a b c:FS}(h:a.le b)(k:b.le c):a.le c:=λx o v e=>k x o v (h x o v e)
def FS.cell(Z:FS)(a:Addr):U7 Value:=if a.spot.isSome then F else Z a.block a.off
theorem FS.le.cell{Z τ:FS}(h:Z.le τ){a:Addr}{v:Value}(hc:Z.cell a=E v):τ.cell a=E v:=by
 unfold FS.cell at *
 split at hc
 ·cases hc
 ·rename_i hs;rw[jx hs];exact h _ _ _ hc
def FS.sub(Z:FS)(w:World):Prop:=∀b o v,Z b o=E v->w.cell? ⟨b,o,F⟩=E v
theorem FS.sub.cell{Z:FS}{w:World}(h:Z.sub w){a:Addr}{v:Value}(hc:Z.cell a=E v):w.cell? a=E v:=by
 unfold FS.cell at hc;split at hc
 ·cases hc
 ·rename_i hs;have:=h _ _ _ hc;let⟨b,o,sp⟩:=a;cases sp with
  |none=>exact this
  |some _=>simp at hs
theorem FS.le.sub{Z τ:FS}{w:World}(h:Z.le τ)(k:τ.sub w):Z.sub w:=λb o v e=>k b o v (h b o v e)
def zc2:Value->Bool
 | .agg _=>I
 |_=>N
structure Ty(α:Type) where
 size:Nat
 agg:Bool
 rel:FS->List Value->α->Prop
 len:∀{Z cs x},rel Z cs x->cs.length=size
 mono:∀{Z τ:FS} {cs x},Z.le τ->rel Z cs x->rel τ cs x
 one:∀{Z cs x},rel Z cs x->∀u∈cs,u.oneCell'=I
 sz:agg=N->size=1
def Ty.vrel{α:Type}(T:Ty α)(Z:FS)(v:Value)(x:α):Prop:=T.rel Z v.cells.toList x/\zc2 v=T.agg
def Ty.rels{α:Type}(T:Ty α)(Z:FS):List Value->List α->Prop
 |cs,[]=>cs=[]
 |cs,x::xs=>∃c d,cs=c++d/\T.rel Z c x/\T.rels Z d xs
section
variable {α:Type}{T:Ty α}{Z τ:FS}
theorem Ty.rels_mono(h:Z.le τ):∀{xs:List α}{cs:List Value},T.rels Z cs xs->T.rels τ cs xs
 |[],_,r=>r
 |_::_,_,⟨c,d,e,r,s⟩=>⟨c,d,e,T.mono h r,Ty.rels_mono h s⟩
theorem Ty.rels_len:∀{xs:List α}{cs:List Value},T.rels Z cs xs->cs.length=xs.length * T.size
 |[],_,r=>by simp[show _=[] from r]
 |x::xs,_,⟨c,d,e,r,s⟩=>by
  subst e;have h1:=T.len r;have h2:=Ty.rels_len s;grind
theorem Ty.rels_append:∀{xs:List α}{cs:List Value}{ys:List α}{ds:List Value},T.rels Z cs xs->T.rels Z ds ys->T.rels Z (cs++ds) (xs++ys)
 |[],_,_,_,r,s=>by rw[show _=[] from r];exact s
 |x::xs,_,_,_,⟨c,d,e,r,q⟩,s=>by subst e;exact⟨c,_,by grind,r,Ty.rels_append q s⟩
theorem Ty.rels_get:∀{xs:List α}{cs:List Value}(i:Nat) {x:α},T.rels Z cs xs->xs[i]?=E x->
    T.rel Z ((cs.drop (i * T.size)).take T.size) x
 |[],_,i,_,_,hx=>by simp at hx
 |y::xs,_,0,x,⟨c,d,e,r,s⟩,hx=>by
  simp at hx;subst hx;subst e;have:=T.len r;grind
 |y::xs,_,i+1,x,⟨c,d,e,r,s⟩,hx=>by
  subst e;have h1:=T.len r;have h2:=Ty.rels_get i s (by simpa using hx);rw[show(i+1) * T.size=c.length+i * T.size by grind,qK];simp only[qI];rw[UA (by omega)];exact h2
theorem Ty.rels_drop:∀{xs:List α}{cs:List Value}(i:Nat),T.rels Z cs xs->T.rels Z (cs.drop (i * T.size)) (xs.drop i)
 |xs,cs,0,r=>by simpa using r
 |[],cs,i+1,r=>by rw[show cs=[] from r];simp[Ty.rels]
 |x::xs,_,i+1,⟨c,d,e,r,s⟩=>by
  subst e;have h1:=T.len r;rw[show(i+1) * T.size=c.length+i * T.size by grind,qK];simp only[qI];rw[UA (by omega)];exact Ty.rels_drop i s
theorem Ty.rels_take:∀{xs:List α}{cs:List Value}(i:Nat),T.rels Z cs xs->T.rels Z (cs.take (i * T.size)) (xs.take i)
 |xs,cs,0,r=>by simp[Ty.rels]
 |[],cs,i+1,r=>by rw[show cs=[] from r];simp[Ty.rels]
 |x::xs,_,i+1,⟨c,d,e,r,s⟩=>by
  subst e;have h1:=T.len r;refine⟨c,d.take (i * T.size),?_,r,Ty.rels_take i s⟩;rw[show(i+1) * T.size=c.length+i * T.size by grind,List.take_append];grind
end
structure Sl(α:Type) where
 xs:List α
 nn:Bool
 deriving Inhabited
def Sl.len{α:Type}(s:Sl α):Int:=(s.xs.length:Int)
def zBD(k:IntKind):Ty Int where
 size:=1
 agg:=false
 rel _ cs x:=cs=[.int k x]
 len h:=by simp[h]
 mono _ h:=h
 one h:=by simp[h,qb]
 sz _:=rfl
def zn8:Ty ByteArray where
 size:=1
 agg:=false
 rel _ cs x:=cs=[.string x]
 len h:=by simp[h]
 mono _ h:=h
 one h:=by simp[h,qb]
 sz _:=rfl
def slAt{α:Type}(T:Ty α)(Z:FS)(a:U7 Addr)(n c:Nat)(s:Sl α):Prop:=
 n=s.xs.length/\a.isSome=s.nn/\n<=c/\c<=maxLen/\(a=F->n=0/\c=0)/\
 ∃cells,T.rels Z cells s.xs/\∀j u,cells[j]?=E u->∃ad,a=E ad/\Z.cell (ad.add j)=E u
def tSl{α:Type}(T:Ty α):Ty (Sl α) where
 size:=1
 agg:=false
 rel Z cs s:=∃a n c,cs=[.slice a n c]/\slAt T Z a n c s
 len:=by grind
 mono:=by
  rintro Z τ cs s h ⟨a,n,c,rfl,h1,h2,h3,h4,h5,cells,h6,h7⟩;refine⟨a,n,c,rfl,h1,h2,h3,h4,h5,cells,T.rels_mono h h6,λj u hu=>?_⟩;let⟨ad,ha,hc⟩:=h7 j u hu;exact⟨ad,ha,h.cell hc⟩
 one:=by rintro Z cs s ⟨a,n,c,rfl,_⟩;simp[qb]
 sz _:=rfl
section
variable {Z:FS}{v:Value}
theorem zrp{x:ByteArray}:zn8.vrel Z v x↔v = .string x:=by
 cases v<;>simp[Ty.vrel,zn8,qC,zc2]
theorem YN{α:Type}{T:Ty α}{s:Sl α}:(tSl T).vrel Z v s↔∃a n c,v = .slice a n c/\slAt T Z a n c s:=by
 cases v<;>simp[Ty.vrel,tSl,qC,zc2]
def yA(agg:Bool)(cs:List Value):Value:=bif agg then .agg cs.toArray else cs.headD default
end
def look(L:List (Nat×Value))(b:Nat->Value)(i:Nat):Value:=
 match L with
 |[]=>b i
 |(j,v)::r=>bif V i j then v else look r b i
def opv(L:List (Nat×Value))(b:Nat->Value):Operand->Value
 | .tmp t=>look L b t
 | .const v=>v
 | .global g =>.pointer (E ⟨g,0,F⟩)
 | .func f =>.func (.func f) #[] #[]
class Dfr where
 l:List Deferred
instance dfr0:Dfr:=⟨[]⟩
variable [Dfr]
structure Fits(n:Nat)(L:List (Nat×Value))(b:Nat->Value)(a:Act):Prop where
 defers:a.defers=Dfr.l
 size:a.tmps.size=n
 get:∀i,a.tmps.getD i undef=look L b i
theorem Fits.eval{n L b a}(h:Fits n L b a):a.eval=opv L b:=by
 funext x;cases x<;>simp[Act.eval,opv,h.get]
theorem Fits.put{n L b a}(h:Fits n L b a){d:Nat}(hd:d < n)(v:Value):Fits n ((d,v)::L) b (a.put (E d) v):=by
 refine⟨h.defers,by simp[Act.put,h.size],λi=>?_⟩;have hg:=h.get i;have hs:=h.size;simp only[Act.put,look,UB,Array.getElem?_setIfInBounds] at hg |-
 by_cases e:d=i
 ·subst e;simp[hs,hd]
 ·have:V i d=false:=by
   cases hb:V i d with
   |false=>rfl
   |true=>exact absurd (ge hb).symm e
  grind
def zfk(ops:Array Oper)(L:List (Nat×Value))(b:Nat->Value)(j:Nat):U7 Bool:=
 match(ops[j]?).bind (·.dst) with
 |some d=>match look L b d with
  | .bool c=>E c
  |_=>F
 |none=>F
theorem Fits.yielded{n L b a}(h:Fits n L b a)(ops:Array Oper):Go.yielded ops a.tmps=zfk ops L b:=by
 funext j;unfold Go.yielded zfk;cases e:(ops[j]?).bind (·.dst) with
 |none=>simp
 |some d=>
  have hg:=h.get d;rw[UB] at hg;simp only[jj];cases e2:a.tmps[d]? with
  |none=>rw[e2] at hg;simp only[qF] at hg;rw[<- hg];rfl
  |some v=>grind
inductive Bit where
 |cell (v:Value)
 |shape (e:TypeId) (n:Nat)
 |obj (o:Obj)
abbrev zc:=Nat->Nat->U7 Bit
def xu:Obj->Bool
 | .cells .. =>I
 |_=>N
def Bit.at(w:World)(b k:Nat):Bit->Prop
 | .cell v=>∃c e o,w.heap[b]?=E (.cells c e (0,0))/\k=o+1/\c[o]?=E v
 | .shape e n=>∃c,w.heap[b]?=E (.cells c e (0,0))/\k=0/\c.size=n
 | .obj x=>w.heap[b]?=E x/\k=0/\xu x=N
def zc.none:zc:=λ_ _=>qc
def zc.sub(h:zc)(w:World):Prop:=∀b k x,h b k=E x->x.at w b k
def zc.le(h g:zc):Prop:=∀b k x,h b k=E x->g b k=E x
def zc.disj(h g:zc):Prop:=∀b k,h b k=qc\/g b k=qc
def zc.or(h g:zc):zc:=λb k=>(h b k).or (g b k)
omit [Dfr] in
theorem zc.le.refl(h:zc):h.le h:=λ_ _ _ e=>e
omit [Dfr] in
theorem zc.le.trans{a b c:zc}(h:a.le b)(k:b.le c):a.le c:=λx y z e=>k x y z (h x y z e)
omit [Dfr] in
theorem zc.none_le(h:zc):zc.none.le h:=λ_ _ _ e=>by cases e
omit [Dfr] in
theorem zc.disj.symm{h g:zc}(k:h.disj g):g.disj h:=λb i=>(k b i).symm
omit [Dfr] in
theorem zc.disj.mono{a b c d:zc}(k:a.disj b)(h1:c.le a)(h2:d.le b):c.disj d:=λx y=>by
 rcases k x y with e | e
 ·left;cases h:c x y with
  |none=>rfl
  |some v=>rw[h1 x y v h] at e;cases e
 ·right;cases h:d x y with
  |none=>rfl
  |some v=>rw[h2 x y v h] at e;cases e
omit [Dfr] in
theorem zc.none_disj(h:zc):zc.none.disj h:=λ_ _ =>.inl rfl
theorem zc.disj_none(h:zc):h.disj zc.none:=λ_ _ =>.inr rfl
theorem zc.le_or(h g:zc):h.le (h.or g):=λb k x e=>by simp[zc.or,e]
theorem zc.le_or_right{h g:zc}(d:h.disj g):g.le (h.or g):=λb k x e=>by
 rcases d b k with e' | e'
 ·simp[zc.or,e,e']
 grind
theorem zc.or_le{h g a:zc}(k1:h.le a)(k2:g.le a):(h.or g).le a:=λb k x e=>by
 unfold zc.or at e;cases h1:h b k with
 |some y=>rw[h1] at e;simp at e;subst e;exact k1 _ _ _ h1
 |none=>rw[h1] at e;simp at e;exact k2 _ _ _ e
theorem zc.or_disj{h g a:zc}(k1:h.disj a)(k2:g.disj a):(h.or g).disj a:=λb k=>by
 rcases k1 b k with e | e
 ·rcases k2 b k with e' | e'
  ·left;simp[zc.or,e,e']
  grind
 grind
omit [Dfr] in
theorem zc.sub.mono{h g:zc}{w:World}(k:g.sub w)(l:h.le g):h.sub w:=λb i x e=>k b i x (l b i x e)
theorem zc.or_sub{h g:zc}{w:World}(k1:h.sub w)(k2:g.sub w):(h.or g).sub w:=λb k x e=>by
 unfold zc.or at e;cases h1:h b k with
 |some y=>rw[h1] at e;simp at e;subst e;exact k1 _ _ _ h1
 |none=>rw[h1] at e;simp at e;exact k2 _ _ _ e
theorem Bit.at_lt{w:World}{b k:Nat}{x:Bit}(h:x.at w b k):b < w.heap.size:=by
 cases x with
 |cell v=>let⟨c,e,o,h,_⟩:=h;grind
 |shape e n=>let⟨c,h,_⟩:=h;grind
 |obj o=>exact(UD.1 h.1).1
structure Priv where
 holds:FS->zc->Prop
 mono:∀{Z τ:FS} {h g:zc},Z.le τ->h.le g->holds Z h->holds τ g
def Sep(Z:FS)(PV:List Priv)(h:zc):Prop:=
 ∃hs:Nat->zc,(∀(i:Nat) (p:Priv),PV[i]?=E p->p.holds Z (hs i))/\(∀i j,i≠j->(hs i).disj (hs j))/\∀i,(hs i).le h
omit [Dfr] in
theorem Sep.mono{Z τ:FS}{PV:List Priv}{h g:zc}(k:Sep Z PV h)(l:Z.le τ)(m:h.le g):Sep τ PV g:=by
 let⟨hs,h1,h2,h3⟩:=k;exact⟨hs,λi p hp=>p.mono l (.refl _) (h1 i p hp),h2,λi=>(h3 i).trans m⟩
omit [Dfr] in
theorem Sep.nil{Z:FS}{h:zc}:Sep Z [] h:=⟨λ_=>zc.none,λi p hp=>by simp at hp,λ_ _ _=>zc.none_disj _,λ_=>zc.none_le _⟩
theorem Sep.cons{Z:FS}{p:Priv}{PV:List Priv}{h1 h2 h:zc}(hp:p.holds Z h1)(hs:Sep Z PV h2)(l1:h1.le h)(l2:h2.le h)(d:h1.disj h2):Sep Z (p::PV) h:=by
 let⟨hs,k1,k2,k3⟩:=hs;refine⟨λi=>match i with | 0=>h1 | i+1=>hs i,λi q hq=>?_,λi j hij=>?_,λi=>?_⟩
 ·grind
 ·cases i with
  |zero=>cases j with
   |zero=>grind
   |succ j=>exact d.mono (.refl _) (k3 j)
  |succ i=>cases j with
   |zero=>exact(d.mono (.refl _) (k3 i)).symm
   |succ j=>grind
 ·cases i with
  |zero=>exact l1
  |succ i=>exact(k3 i).trans l2
omit [Dfr] in
theorem Sep.one{Z:FS}{p:Priv}{h:zc}(hp:p.holds Z h):Sep Z [p] h :=.cons hp .nil (.refl _) (zc.none_le _) (zc.disj_none _)
theorem Sep.uncons{Z:FS}{p:Priv}{PV:List Priv}{h:zc}(k:Sep Z (p::PV) h):∃h1 h2,p.holds Z h1/\Sep Z PV h2/\h1.le h/\h2.le h/\h1.disj h2:=by
 let⟨hs,k1,k2,k3⟩:=k
 classical
 refine⟨hs 0,λb k=>if∃i x,hs (i+1) b k=E x then h b k else F,k1 0 p rfl,⟨λi=>hs (i+1),λi q hq=>k1 (i+1) q (by simpa using hq),λi j e=>k2 _ _ (λe'=>e (by omega)),λi b k x e=>?_⟩,k3 0,λb k x e=>?_,λb k=>?_⟩
 ·have:∃i x,hs (i+1) b k=E x:=⟨i,x,e⟩
  simp only[this,jq];exact k3 _ _ _ _ e
 ·by_cases hc:∃i x,hs (i+1) b k=E x
  all_goals grind
 ·by_cases hc:∃i x,hs (i+1) b k=E x
  ·let⟨i,x,e⟩:=hc;left;rcases k2 0 (i+1) (by omega) b k with e' | e'
   all_goals grind
  grind
omit [Dfr] in
theorem Sep.one_of{Z:FS}{p:Priv}{h:zc}(k:Sep Z [p] h):p.holds Z h:=by
 let⟨h1,h2,k1,_,l,_⟩:=k.uncons;exact p.mono (.refl _) l k1
theorem Sep.select{Z:FS}{PV PV':List Priv}{h:zc}(k:Sep Z PV h)(idx:List Nat)(hn:idx.Nodup)(hg:idx.map (λi=>PV[i]?)=PV'.map E):Sep Z PV' h:=by
 let⟨hs,k1,k2,k3⟩:=k;have hget:∀(k:Nat) (q:Priv),PV'[k]?=E q->∃m,idx[k]?=E m/\PV[m]?=E q:=by
  intro k q hq;have:=congrArg (λl=>l[k]?) hg;simp only[UE,hq,UF] at this;cases hk:idx[k]? with
  |none=>grind
  |some m=>grind
 refine⟨λk=>match idx[k]? with | some m=>hs m | none=>zc.none,λi q hq=>?_,λi j hij=>?_,λi=>?_⟩
 ·grind
 ·show zc.disj (match idx[i]? with | some m=>hs m | none=>zc.none) (match idx[j]? with | some m=>hs m | none=>zc.none);cases h1:idx[i]? with
  |none=>exact zc.none_disj _
  |some m=>cases h2:idx[j]? with
   |none=>exact zc.disj_none _
   |some m'=>
    refine k2 m m' λe=>?_
    subst e;let⟨h3,h4⟩:=UG.1 h1;let⟨h5,h6⟩:=UG.1 h2;have hp:=List.pairwise_iff_getElem.1 (UH.1 hn);rcases Nat.lt_or_gt_of_ne hij with hlt | hlt
    all_goals grind
 ·show zc.le (match idx[i]? with | some m=>hs m | none=>zc.none) h;cases idx[i]? with
  |none=>exact zc.none_le _
  |some m=>exact k3 m
omit [Dfr] in
theorem Sep.append{Z:FS}:∀{A B:List Priv}{h1 h2 h:zc},Sep Z A h1->Sep Z B h2->h1.le h->h2.le h->h1.disj h2->Sep Z (A++B) h
 |[],_,_,_,_,_,k,_,l,_=>k.mono (.refl _) l
 |a::A,_,_,_,_,k1,k2,l1,l2,d=>by
  let⟨g1,g2,e1,e2,e3,e4,e5⟩:=k1.uncons;refine .cons (h2:=g2.or _) e1 (Sep.append e2 k2 (zc.le_or _ _) (zc.le_or_right (d.mono e4 (.refl _))) (d.mono e4 (.refl _))) (e3.trans l1) (zc.or_le (e4.trans l1) l2) ?_;exact(zc.or_disj e5.symm (d.mono e3 (.refl _)).symm).symm
omit [Dfr] in
theorem Sep.split{Z:FS}:∀{A B:List Priv}{h:zc},Sep Z (A++B) h->∃h1 h2,Sep Z A h1/\Sep Z B h2/\h1.le h/\h2.le h/\h1.disj h2
 |[],_,h,k=>⟨zc.none,h,.nil,k,zc.none_le _,.refl _,zc.none_disj _⟩
 |a::A,B,h,k=>by
  let⟨g1,g2,e1,e2,e3,e4,e5⟩:=Sep.uncons (PV:=A++B) k;let⟨h1,h2,k1,k2,k3,k4,k5⟩:=Sep.split e2;have hd:g1.disj h1:=e5.mono (.refl _) k3;exact⟨g1.or h1,h2,.cons e1 k1 (zc.le_or _ _) (zc.le_or_right hd) hd,k2,zc.or_le e3 (k3.trans e4),k4.trans e4,zc.or_disj (e5.mono (.refl _) k4) k5⟩
omit [Dfr] in
theorem Sep.pick {Z:FS}{PV:List Priv}{h:zc}(k:Sep Z PV h) {m:Nat}{p:Priv}(hm:PV[m]?=E p) :
    ∃h1 h2,p.holds Z h1/\h1.le h/\h2.le h/\h1.disj h2/\Sep Z (PV.eraseIdx m) h2/\∀p' h1' g,p'.holds Z h1'->h1'.le g->h2.le g->h1'.disj h2->Sep Z (PV.set m p') g:=by
 have hml:m < PV.length:=(UG.1 hm).1;have hsel:Sep Z (p::PV.eraseIdx m) h:=by
  refine k.select (m::(qJ PV.length).eraseIdx m) ?_ ?_
  ·refine List.nodup_cons.2 ⟨λhx=>?_,List.Nodup.sublist (List.eraseIdx_sublist _ _) List.nodup_range⟩;let⟨i,hi,hne,e⟩:=List.mem_eraseIdx_iff_getElem.1 hx;grind
  · simp only[UI,hm,qL.injEq,UJ];apply UK;intro i;simp only[UE,List.getElem?_eraseIdx];split
    ·rename_i hlt;grind
    · by_cases hl:i+1 < PV.length
      ·grind
      grind
 let⟨h1,h2,e1,e2,e3,e4,e5⟩:=hsel.uncons;refine⟨h1,h2,e1,e3,e4,e5,e2,λp' h1' g q1 q2 q3 q4=>?_⟩;have hnew:Sep Z (p'::PV.eraseIdx m) g :=.cons q1 e2 q2 q3 q4;refine hnew.select ((qJ PV.length).map λi=>if i < m then i+1 else if i=m then 0 else i) ?_ ?_
 ·rw[UH,List.pairwise_map];refine List.Pairwise.imp ?_ List.pairwise_lt_range;grind
 · apply UK;intro i;simp only[UE,UL];by_cases hl:i < PV.length
   · rw[UM (by simpa using hl)];simp only[List.getElem_range,UF];by_cases h1:i < m
     ·grind
     · by_cases h2:i=m
       ·grind
       · rw[jx h1,jx h2,jx (λe=>h2 e.symm)];obtain⟨j,rfl⟩:∃j,i=j+1:=⟨i - 1,by omega⟩
         grind
   grind
structure Start where
 w:World
 h:zc
def zn9(w0:World)(h0:zc)(w:World)(b:Nat):Prop:=
 (∀c e f,w0.heap[b]?=E (.cells c e f)->∃c' f',w.heap[b]?=E (.cells c' e f')/\c'.size=c.size/\(∀o,h0 b (o+1)=F->c'[o]?=c[o]?)/\(f'=f\/∀i,i<=c.size->(h0 b i).isSome))/\
 (∀x,w0.heap[b]?=E x->xu x=N->∃y,w.heap[b]?=E y/\xu y=N/\(h0 b 0=F->y=x))
structure Ext(w0:World)(h0:zc)(w:World):Prop where
 os:w.os=w0.os
 output:w.output=w0.output
 tape:w.tape=w0.tape
 size:w0.heap.size<=w.heap.size
 old:∀b,zn9 w0 h0 w b
 fz:∀a:Addr,a.block < w0.heap.size->h0 a.block 0=F->w.frozen? a=w0.frozen? a
omit [Dfr] in
theorem zn9.same{w0 w:World}{h0:zc}{b:Nat}(h:b < w0.heap.size->w.heap[b]?=w0.heap[b]?):zn9 w0 h0 w b:=by
 refine⟨λc e f hc=>?_,λx hx hn=>?_⟩
 ·grind
 grind
omit [Dfr] in
theorem Ext.refl(w:World)(h:zc):Ext w h w:=⟨rfl,rfl,rfl,UN _,λ_ =>.same λ_=>rfl,λ_ _ _=>rfl⟩
theorem Ext.old_eq{w0 w:World}(h:Ext w0 zc.none w){b:Nat}(hb:b < w0.heap.size):w.heap[b]?=w0.heap[b]?:=by
 have h1:=Array.getElem?_eq_getElem hb;rw[h1];cases hx:w0.heap[b] with
 |cells c e f=>
  let⟨c',f',e1,e2,e3,e4⟩:=(h.old b).1 c e f (by rw[h1,hx]);have:c'=c:=by
   apply Array.ext_getElem?;intro o;exact e3 o rfl
  have hf:f'=f:=by
   rcases e4 with e4 | e4
   ·exact e4
   ·have:=e4 0 (UO _);cases this
  grind
 |_=>
  obtain⟨y,e1,_,e3⟩:=(h.old b).2 _ (by rw[h1,hx]) rfl;rw[e1,e3 rfl]
omit [Dfr] in
theorem Ext.trans{w0 w w':World}{h0 h1:zc}(h:Ext w0 h0 w)(k:Ext w h1 w')(hd:∀b i,b < w0.heap.size->(h1 b i).isSome->(h0 b i).isSome):Ext w0 h0 w':=by
 refine ⟨k.os.trans h.os,k.output.trans h.output,k.tape.trans h.tape,UP h.size k.size,λb=>⟨λc e f hc=>?_,λx hx hn=>?_⟩,λa ha h0n=>(k.fz a (Nat.lt_of_lt_of_le ha h.size) (by
     cases hh:h1 a.block 0 with
     |none=>rfl
     |some x=>grind)).trans (h.fz a ha h0n)⟩
 · have hb:=(UD.1 hc).1;let⟨c1,fa,e1,e2,e3,e4⟩:=(h.old b).1 c e f hc;let⟨c2,fb,f1,f2,f3,f4⟩:=(k.old b).1 c1 e fa e1;refine⟨c2,fb,f1,f2.trans e2,λo ho=>(f3 o ?_).trans (e3 o ho),?_⟩
   · cases hh:h1 b (o+1) with
     |none=>rfl
     |some x=>grind
   grind
 · have hb:=(UD.1 hx).1;let⟨y,e1,e2,e3⟩:=(h.old b).2 x hx hn;let⟨z,f1,f2,f3⟩:=(k.old b).2 y e1 e2;refine⟨z,f1,f2,λho=>?_⟩
   rw[f3 (by
    cases hh:h1 b 0 with
    |none=>rfl
    |some x=>grind),e3 ho]
omit [Dfr] in
theorem Ext.mono{w w':World}{h g:zc}(k:Ext w h w')(l:h.le g):Ext w g w':=by
 have hn:∀b i,g b i=F->h b i=none:=λb i hg=>by
  cases hx:h b i with
  |none=>rfl
  |some y=>rw[l _ _ _ hx] at hg;cases hg
 refine⟨k.os,k.output,k.tape,k.size,λb=>⟨λc e f hc=>?_,λx hx hi=>?_⟩,λa ha h0=>k.fz a ha (hn _ _ h0)⟩
 ·let⟨c',f',k1,k2,k3,k4⟩:=(k.old b).1 c e f hc
  exact⟨c',f',k1,k2,λo ho=>k3 o (hn _ _ ho),k4.imp id λk4 i hi=>by
   let⟨x,hx⟩:=UQ.1 (k4 i hi)
   rw[l _ _ _ hx];rfl⟩
 ·let⟨y,k1,k2,k3⟩:=(k.old b).2 x hx hi;grind
theorem Ext.frag{w w':World}{h g:zc}(k:Ext w h w')(hd:h.disj g)(hs:g.sub w):g.sub w':=by
 intro b i x hx;have hn:h b i=none:=by
  rcases hd b i with e | e
  all_goals grind
 cases x with
 |cell v=>
  obtain⟨c,e,o,h1,rfl,h3⟩:=hs b i _ hx;let⟨c',f',e1,e2,e3,e4⟩:=(k.old b).1 c e _ h1;have hf:f'=(0,0):=by
   rcases e4 with e4 | e4
   ·exact e4
   grind
  subst hf;exact⟨c',e,o,e1,rfl,by grind⟩
 |shape e n=>
  obtain⟨c,h1,rfl,h3⟩:=hs b i _ hx;let⟨c',f',e1,e2,e3,e4⟩:=(k.old b).1 c e _ h1;have hf:f'=(0,0):=by
   grind
  subst hf;exact⟨c',e1,rfl,e2.trans h3⟩
 |obj o=>
  obtain⟨h1,rfl,h3⟩:=hs b i _ hx;let⟨y,e1,e2,e3⟩:=(k.old b).2 o h1 h3;exact⟨by rw[e1,e3 hn],rfl,h3⟩
theorem Ext.held{w w':World}{h:zc}{Z:FS}(k:Ext w h w')(hd:∀b o,(h b (o+1)).isSome->Z b o=F)(hs:Z.sub w):Z.sub w':=by
 intro b o v hv;have hn:h b (o+1)=none:=by
  cases e:h b (o+1) with
  |none=>rfl
  |some x=>grind
 have:=hs b o v hv;unfold Y at this |-
 simp only[qE,jk,jp] at this |-
 cases hb:w.heap[b]? with
 |none=>grind
 |some x=>
  rw[hb] at this;cases x with
  |cells c e f=>
   let⟨c',f',e1,e2,e3,_⟩:=(k.old b).1 c e f hb;grind
  |_=>cases this
structure Good(w0:Start)(Z:FS)(w:World)(h:zc):Prop where
 sub:h.sub w
 apart:∀b o,(h b (o+1)).isSome->Z b o=F
 mine:∀b k,(h b k).isSome->w0.w.heap.size<=b\/(w0.h b k).isSome
omit [Dfr] in
theorem zc.le.isSome{h g:zc}(l:h.le g){b k:Nat}(e:(h b k).isSome):(g b k).isSome:=by
 let⟨x,hx⟩:=UQ.1 e;rw[l b k x hx];rfl
omit [Dfr] in
theorem Good.mono{w0:Start}{Z:FS}{w:World}{h g:zc}(k:Good w0 Z w g)(l:h.le g):Good w0 Z w h:=
 ⟨k.sub.mono l,λb o e=>k.apart b o (l.isSome e),λb i e=>k.mine b i (l.isSome e)⟩
structure Inv(w0:Start)(σ0 Z:FS)(PV:List Priv)(w:World):Prop where
 sub:Z.sub w
 le:σ0.le Z
 fresh:∀b o v,Z b o=E v->σ0 b o=E v\/w0.w.heap.size<=b\/(w0.h b (o+1)).isSome
 own:∃h,Sep Z PV h/\Good w0 Z w h
 ext:Ext w0.w w0.h w
theorem Inv.start{w:World}{Z:FS}{h:zc}{PV:List Priv}(hs:Z.sub w)(hp:Sep Z PV h)(hg:h.sub w)(ha:∀b o,(h b (o+1)).isSome->Z b o=F):Inv ⟨w,h⟩ Z Z PV w:=
 ⟨hs,.refl Z,λ_ _ _ h =>.inl h,⟨h,hp,hg,ha,λ_ _ e =>.inr e⟩,.refl w h⟩
theorem Inv.drew{w0:Start}{σ0 Z:FS}{PV:List Priv}{w:World}(h:Inv w0 σ0 Z PV w):Inv w0 σ0 Z PV {w with drawn:=w.drawn+1}:=
 ⟨h.sub,h.le,h.fresh,h.own.elim λg k=>⟨g,k.1,λb i x hx=>by have:=k.2.sub b i x hx;cases x<;>exact this,k.2.apart,k.2.mine⟩,⟨h.ext.os,h.ext.output,h.ext.tape,h.ext.size,h.ext.old,h.ext.fz⟩⟩
theorem Inv.sub_own{w0:Start}{σ0 Z:FS}{PV PV':List Priv}{w:World}(h:Inv w0 σ0 Z PV w)(k:∀g,Sep Z PV g->Sep Z PV' g):Inv w0 σ0 Z PV' w:=
 ⟨h.sub,h.le,h.fresh,h.own.elim λg q=>⟨g,k g q.1,q.2⟩,h.ext⟩
omit [Dfr] in
theorem Inv.lt{w0:Start}{σ0 Z:FS}{PV:List Priv}{w:World}(h:Inv w0 σ0 Z PV w){b o:Nat}{v:Value}(hb:Z b o=E v):b < w.heap.size:=by
 have:=h.sub b o v hb;unfold Y at this;simp only[qE,jk,jp] at this;grind
theorem Inv.change {w0:Start}{σ0 Z:FS}{PV:List Priv}{w w':World}(hi:Inv w0 σ0 Z PV w) {m:Nat}{p p':Priv}(hm:PV[m]?=E p)
    (k:∀h1,p.holds Z h1->h1.sub w->∃h1',p'.holds Z h1'/\h1'.sub w'/\Ext w h1 w'/\∀b i,(h1' b i).isSome->(h1 b i).isSome\/w.heap.size<=b):Inv w0 σ0 Z (PV.set m p') w':=by
 let⟨h,hs,hg⟩:=hi.own;let⟨h1,h2,e1,e2,e3,e4,e5,e6⟩:=hs.pick hm;let⟨h1',f1,f2,f3,f4⟩:=k h1 e1 (hg.sub.mono e2);have hd:h1'.disj h2:=by
  intro b i;cases hx:h1' b i with
  |none=>exact .inl rfl
  |some x=>
   right;rcases f4 b i (by simp[hx]) with q | q
   · rcases e4 b i with z | z
     all_goals grind
   · cases hy:h2 b i with
     |none=>rfl
     |some y=>have:=Bit.at_lt (hg.sub b i y (e3 b i y hy));omega
 have g1:=hg.mono e2;have hmine:∀b i,b < w0.w.heap.size->(h1 b i).isSome->(w0.h b i).isSome:=λb i hb hx=>by
  rcases g1.mine b i hx with q | q
  ·omega
  ·exact q
 refine⟨f3.held g1.apart hi.sub,hi.le,hi.fresh,⟨h1'.or h2,e6 p' h1' _ f1 (zc.le_or _ _) (zc.le_or_right hd) hd,zc.or_sub f2 (f3.frag e4 (hg.sub.mono e3)),λb o hx=>?_,λb i hx=>?_⟩,hi.ext.trans f3 hmine⟩
 all_goals
  unfold zc.or at hx
 · cases hx1:h1' b (o+1) with
   |some y=>
    rcases f4 b (o+1) (by simp[hx1]) with q | q
    ·exact g1.apart b o q
    · cases hy:Z b o with
      |none=>rfl
      |some v=>have:=hi.lt hy;omega
   |none=>rw[hx1] at hx;exact(hg.mono e3).apart b o (by simpa using hx)
 · cases hx1:h1' b i with
   |some y=>
    rcases f4 b i (by simp[hx1]) with q | q
    ·grind
    ·exact .inl (UP hi.ext.size q)
   |none=>rw[hx1] at hx;exact(hg.mono e3).mine b i (by simpa using hx)
theorem Inv.cons {w0:Start}{σ0 Z:FS}{PV:List Priv}{w w':World}(hi:Inv w0 σ0 Z PV w) {p:Priv}{h1:zc}(hp:p.holds Z h1) (hs:h1.sub w') (hx:Ext w zc.none w') (hn:∀b i,(h1 b i).isSome->w.heap.size<=b) :
    Inv w0 σ0 Z (p::PV) w':=by
 let⟨h,hsep,hg⟩:=hi.own;have hd:h1.disj h:=λb i=>by
  cases hx:h1 b i with
  |none=>exact .inl rfl
  |some x=>
   right;have:=hn b i (by simp[hx]);cases hy:h b i with
   |none=>rfl
   |some y=>have:=Bit.at_lt (hg.sub b i y hy);omega
 refine⟨hx.held (λb o e=>by cases e) hi.sub,hi.le,hi.fresh,⟨h1.or h,.cons hp hsep (zc.le_or _ _) (zc.le_or_right hd) hd,zc.or_sub hs (hx.frag (zc.none_disj _) hg.sub),λb o e=>?_,λb i e=>?_⟩,hi.ext.trans hx λ_ _ _ e=>by cases e⟩
 all_goals unfold zc.or at e
 · cases hx1:h1 b (o+1) with
   |some y=>
    have:=hn b (o+1) (by simp[hx1]);cases hy:Z b o with
    |none=>rfl
    |some v=>have:=hi.lt hy;omega
   |none=>rw[hx1] at e;exact hg.apart b o (by simpa using e)
 · cases hx1:h1 b i with
   |some y=>exact .inl (UP hi.ext.size (hn b i (by simp[hx1])))
   |none=>rw[hx1] at e;exact hg.mine b i (by simpa using e)
def FS.with(Z:FS)(h:zc):FS:=λb o=>match h b (o+1) with | some (.cell v)=>E v | _=>Z b o
theorem Inv.freeze {w0:Start}{σ0 Z:FS}{PV:List Priv}{w:World}(hi:Inv w0 σ0 Z PV w) {m:Nat}{p:Priv}(hm:PV[m]?=E p) :
    ∃(h1:zc),p.holds Z h1/\h1.sub w/\Z.le (Z.with h1)/\Inv w0 σ0 (Z.with h1) (PV.eraseIdx m) w:=by
 let⟨h,hs,hg⟩:=hi.own;let⟨h1,h2,e1,e2,e3,e4,e5,_⟩:=hs.pick hm;have g1:=hg.mono e2;have hle:Z.le (Z.with h1):=λb o v hv=>by
  unfold FS.with;split
  ·rename_i x hx;rw[g1.apart b o (by simp[hx])] at hv;cases hv
  ·exact hv
 have hcase:∀b o v,(Z.with h1) b o=E v->Z b o=E v\/h1 b (o+1)=E (.cell v):=λb o v hv=>by
  unfold FS.with at hv;grind
 refine⟨h1,e1,g1.sub,hle,⟨λb o v hv=>?_,hi.le.trans hle,λb o v hv=>?_,⟨h2,e5.mono hle (.refl _),hg.sub.mono e3,λb o e=>?_,(hg.mono e3).mine⟩,hi.ext⟩⟩
 · rcases hcase b o v hv with q | q
   ·exact hi.sub b o v q
   · let⟨c,e,o',k1,k2,k3⟩:=g1.sub b (o+1) _ q;obtain rfl:o=o':=by omega
     simp[Y,k1,k3]
 · rcases hcase b o v hv with q | q
   ·exact hi.fresh b o v q
   ·exact .inr (g1.mine b (o+1) (by simp[q]))
 · cases hv:(Z.with h1) b o with
   |none=>rfl
   |some v=>
    rcases hcase b o v hv with q | q
    ·rw[(hg.mono e3).apart b o e] at q;cases q
    · rcases e4 b (o+1) with z | z
      all_goals grind
section
variable {ρ:Type}
def J(n:Nat)(w0:Start)(σ0:FS)(p:U7 ρ)(G:ρ->Act->World->Prop)(L:List (Nat×Value))(b:Nat->Value)(Z:FS)(PV:List Priv):Prop:=
 ∀r,p=E r->∀a w,Inv w0 σ0 Z PV w->Fits n L b a->G r a w
variable {n:Nat}{w0:Start}{σ0 Z:FS}{p:U7 ρ}{G G':ρ->Act->World->Prop}{L:List (Nat×Value)}{b:Nat->Value}{PV PV':List Priv}
variable {P:Program}{Q:ρ->Exit->Act->World->Prop}
theorem wX{p:Nat->Prop}(h:∃m,p m):∃m,p m/\∀k,p k->m<=k:=by
 let⟨m,hm⟩:=h
 induction m using Nat.strongRecOn with
 |_ m ih=>
  by_cases hx:∃k,k < m/\p k
  ·grind
  grind
inductive Step(s β:Type) where
 |next (x:s)
 |done (y:β)
def Z9{s β:Type}(f:s->U7 (Step s β)):Nat->s->U7 β
 |0,_=>F
 |k+1,x=>(f x).bind λ
  | .next x'=>Z9 f k x'
  | .done y=>E y
noncomputable def loopO{s β:Type}(f:s->U7 (Step s β))(x:s):U7 β:=
 @dite _ (∃k,(Z9 f k x).isSome) (Classical.propDecidable _) (λh=>Z9 f h.choose x) (λ_=>F)
theorem zby{s β:Type}{f:s->U7 (Step s β)}:∀{k m:Nat}{x:s}{y:β},Z9 f k x=E y->k<=m->Z9 f m x=E y
 |0,_,_,_,h,_=>by simp[Z9] at h
 |k+1,0,_,_,_,hm=>by omega
 |k+1,m+1,x,y,h,hm=>by
  simp only[Z9] at h |-
  cases hf:f x with
  |none=>grind
  |some st=>
   rw[hf] at h;cases st with
   |next x'=>exact zby (k:=k) h (by omega)
   |done y'=>exact h
theorem vp{s β:Type}{f:s->U7 (Step s β)}{x:s}{y:β}:loopO f x=E y↔∃k,Z9 f k x=E y:=by
 unfold loopO;constructor
 ·intro h;split at h
  all_goals grind
 ·rintro⟨k,hk⟩;have hex:∃k,(Z9 f k x).isSome:=⟨k,by simp[hk]⟩
  rw[dif_pos hex];have hs:=hex.choose_spec;let⟨z,hz⟩:=UQ.1 hs;rw[hz];rcases Nat.le_total k hex.choose with h | h
  ·rw[zby hk h] at hz;exact hz.symm
  ·rw[zby hz h] at hk;exact hk
theorem zs7 {s β:Type}(f:s->U7 (Step s β)) (x:s):loopO f x=(f x).bind λ
    | .next x'=>loopO f x'
    | .done y=>E y:=by
 apply Option.ext;intro y;rw[vp];cases hf:f x with
 |none=>
  simp only[Option.bind_none];constructor
  ·rintro⟨k,hk⟩;cases k<;>simp[Z9,hf] at hk
  grind
 |some st=>
  cases st with
  |next x'=>
   simp only[jj];rw[vp];constructor
   · rintro⟨k,hk⟩;cases k with
     |zero=>simp[Z9] at hk
     |succ k=>exact⟨k,by simpa[Z9,hf] using hk⟩
   ·rintro⟨k,hk⟩;exact⟨k+1,by simpa[Z9,hf] using hk⟩
  |done y'=>
   simp only[jj];constructor
   · rintro⟨k,hk⟩;cases k with
     |zero=>simp[Z9] at hk
     |succ k=>simpa[Z9,hf] using hk
   ·intro h;exact⟨1,by simpa[Z9,hf] using h⟩
end
end Go.Px
namespace Go.Px
def Priv.mp(v:Value)(l:List (Value×Value)):Priv:=⟨λ_ h=>∃r es clock,v = .map (E r)/\h r 0=E (.obj (.map es clock))/\es.toList.map (λe=>(e.key,e.val))=l,λ_ hl ⟨r,es,c,h1,h2,h3⟩=>⟨r,es,c,h1,hl _ _ _ h2,h3⟩⟩
structure MKey(α:Type) where
 d:TypeDesc
 enc:α->Value
 key:∀a,MapKept.IsKey d (enc a)
 inj:∀a b,enc a=enc b->a=b
 bits:∀a,qM 10000 (enc a) (enc a)=I
def MKey.str:MKey ByteArray:=⟨.string,.string,λ_=>trivial,λ_ _ e=>by cases e;rfl,λa=>(MapKept.bytes_beq a a).2 rfl⟩
def MKey.i64:MKey Int:=⟨.int .i64,.int .i64,λ_=>by simp[MapKept.IsKey],λ_ _ e=>by cases e;rfl,λa=>by simp[qM]⟩
section
variable {α β:Type}[DecidableEq α]
def YO(k:α):List (α×β)->U7 β
 |[]=>F
 |(a,v)::l=>if a=k then E v else YO k l
def yj(k:α)(z:β)(l:List (α×β)):β:=(YO k l).getD z
def Yd(k:α)(v:β):List (α×β)->List (α×β)
 |[]=>[(k,v)]
 |(a,u)::l=>if a=k then(a,v)::l else(a,u)::Yd k v l
def Xk(k:α):List (α×β)->List (α×β)
 |[]=>[]
 |(a,u)::l=>if a=k then l else(a,u)::Xk k l
end
section
variable {α:Type}[DecidableEq α]
def Ys(K:MKey α)(l:List (α×Value)):List (Value×Value):=l.map λp=>(K.enc p.1,p.2)
theorem vN (K:MKey α) (k:α):∀(l:List MapEntry) (xs:List (α×Value)) (i:Nat),l.map (λe=>(e.key,e.val))=Ys K xs->
    (YO k xs=F/\W K.d (K.enc k) l i=E F/\(∀u,Yd k u xs=xs++[(k,u)])/\Xk k xs=xs)\/
    ∃v j e,YO k xs=E v/\W K.d (K.enc k) l i=E (E (i+j,v))/\l[j]?=E e/\e.key=K.enc k/\(∀u,Ys K (Yd k u xs)=(l.set j {e with val:=u}).map (λe=>(e.key,e.val)))/\Ys K (Xk k xs)=(l.eraseIdx j).map λe=>(e.key,e.val)
 |[],[],i,_ =>.inl ⟨rfl,rfl,λ_=>rfl,rfl⟩
 |[],_::_,_,h=>by simp[Ys] at h
 |_::_,[],_,h=>by simp[Ys] at h
 |e::l,(a,v)::xs,i,h=>by
  have h1:e.key=K.enc a/\e.val=v/\l.map (λe=>(e.key,e.val))=Ys K xs:=by
   simp only[Ys,UI,qL.injEq,Prod.mk.injEq] at h;exact⟨h.1.1,h.1.2,h.2⟩
  let⟨e1,e2,e3⟩:=h1;let⟨r,hr,hiff⟩:=MapKept.sameNow_of_keys (K.key k) (K.key a);by_cases hk:a=k
  · subst hk;have:r=true:=hiff.2 rfl;subst this;refine .inr ⟨v,0,e,by simp[YO],by simp[W,e1,hr,e2],rfl,e1,λu=>?_,?_⟩
    ·simp[Yd,Ys,e1,e3]
    ·simp[Xk,Ys,e3]
  · have:r=false:=by
      cases r with
      |false=>rfl
      |true=>exact absurd (K.inj _ _ (hiff.1 rfl)).symm hk
    subst this;have hstep:∀i,W K.d (K.enc k) (e::l) i=W K.d (K.enc k) l (i+1):=λi=>by simp[W,e1,hr]
    rcases vN K k l xs (i+1) e3 with⟨f1,f2,f3,f6⟩ | ⟨v',j,e',f1,f2,f3,f4,f5,f6⟩
    ·exact .inl ⟨by simp[YO,hk,f1],by rw[hstep,f2],λu=>by simp[Yd,hk,f3],by simp[Xk,hk,f6]⟩
    · refine .inr ⟨v',j+1,e',by simp[YO,hk,f1],?_,by simpa using f3,f4,λu=>?_,?_⟩
      ·rw[hstep,f2];congr 3;omega
      · have:=f5 u;simp only[Ys,Yd,hk,jp,UI,List.set_cons_succ] at this |-
        rw[this,e1,e2]
      · simp only[Ys,Xk,hk,jp,UI,List.eraseIdx_cons_succ] at f6 |-
        rw[f6,e1,e2]
end
section
variable {α β:Type}[DecidableEq α]
def asV(f:β->Value)(l:List (α×β)):List (α×Value):=l.map λp=>(p.1,f p.2)
variable {f:β->Value}
theorem zku(k:α):∀l:List (α×β),YO k (asV f l)=(YO k l).map f
 |[]=>rfl
 |(a,v)::l=>by
  have ih:=zku k l;unfold asV at ih |-
  simp only[UI,YO];split
  ·rfl
  ·exact ih
theorem zkv(k:α)(v:β):∀l:List (α×β),Yd k (f v) (asV f l)=asV f (Yd k v l)
 |[]=>rfl
 |(a,u)::l=>by
  have ih:=zkv k v l;unfold asV at ih |-
  simp only[UI,Yd];split
  ·rfl
  ·rw[ih];rfl
theorem zkw(k:α):∀l:List (α×β),Xk k (asV f l)=asV f (Xk k l)
 |[]=>rfl
 |(a,u)::l=>by
  have ih:=zkw k l;unfold asV at ih |-
  simp only[UI,Xk];split
  ·rfl
  ·rw[ih];rfl
end
inductive KK where
 |s
 |i
inductive VK where
 |i
 |b
abbrev KK.ty:KK->Type
 | .s=>ByteArray
 | .i=>Int
abbrev VK.ty:VK->Type
 | .i=>Int
 | .b=>Bool
instance:(k:KK)->DecidableEq k.ty
 | .s=>inferInstanceAs (DecidableEq ByteArray)
 | .i=>inferInstanceAs (DecidableEq Int)
def KK.K:(k:KK)->MKey k.ty
 | .s =>.str
 | .i =>.i64
def VK.e:(v:VK)->v.ty->Value
 | .i =>.int .i64
 | .b =>.bool
def VK.z:(v:VK)->v.ty
 | .i=>(0:Int)
 | .b=>N
structure MapR(D:Nat->Type)(opv:Nat->(T:Nat)->Value->Addr->ByteArray->Sl (D T)->Priv)(T:Nat) where
 k:KK
 v:VK
 q:Nat
 e:D T=(k.ty×v.ty)
 opv:∀hdr a b s,opv q T hdr a b s=Priv.mp hdr (Ys k.K (asV v.e (cast (congrArg List e) s.xs)))
section
variable {D:Nat->Type}{opv:Nat->(T:Nat)->Value->Addr->ByteArray->Sl (D T)->Priv}{T:Nat}
def MapR.l(M:MapR D opv T)(s:Sl (D T)):List (M.k.ty×M.v.ty):=cast (congrArg List M.e) s.xs
def MapR.s(M:MapR D opv T)(l:List (M.k.ty×M.v.ty)):Sl (D T):=⟨cast (congrArg List M.e).symm l,I⟩
theorem MapR.ls(M:MapR D opv T)(l:List (M.k.ty×M.v.ty)):M.l (M.s l)=l:=by simp[MapR.l,MapR.s]
structure MapT(D:Nat->Type)(T:Nat) where
 k:KK
 v:VK
 e:D T=(k.ty×v.ty)
def zs8(m:(T:Nat)->U7 (MapT D T))(k T:Nat)(hdr:Value)(a:Addr)(b:ByteArray)(s:Sl (D T)):Priv:=match m T with
 |some e=>Priv.mp hdr (Ys e.k.K (asV e.v.e (cast (congrArg List e.e) s.xs)))
 |none=>⟨λ_ _=>False,λ_ _ h=>h⟩
def zBF(m:(T:Nat)->U7 (MapT D T))(T:Nat):U7 (MapR D (zs8 m) T):=match h:m T with
 |some e=>E ⟨e.k,e.v,0,e.e,λhdr a b s=>by unfold zs8;rw[h]⟩
 |none=>F
end
variable [Dfr]
section
variable {P:Program}{ops:Array Oper}{Q:Exit->Act->World->Prop}{S:World->Prop}{tr:Nat}
end
section
variable {ρ:Type}{n:Nat}{w0:Start}{σ0 Z:FS}{p:U7 ρ}{L:List (Nat×Value)}{b:Nat->Value}{PV PV':List Priv}
variable {P:Program}{Q:ρ->Exit->Act->World->Prop}{ops:Array Oper}{o:Oper}{rest:List Oper}
def Xl(P:Program)(n:Nat)(w0:Start)(σ0:FS)(o:Oper)(p:U7 ρ)(L:List (Nat×Value))(b:Nat->Value)(Z:FS)(PV:List Priv)
    (H:U7 ρ->List (Nat×Value)->FS->List Priv->Prop):Prop:=
 ∀r,p=E r->∀a w,Inv w0 σ0 Z PV w->Fits n L b a->∀(K:Act->World->Prop) (Q:Exit->Act->World->Prop),
  (∀p' L' Z' PV' a' w',p'=E r->Inv w0 σ0 Z' PV' w'->Fits n L' b a'->H p' L' Z' PV'->K a' w')->o.wp P a w K Q
def Y4(σr:FS)(PVr:List Priv)(w:World):Prop:=σr.sub w/\∃h,Sep σr PVr h/\h.sub w
inductive W2(α β:Type) where
 |a (x:α)
 |b (x:β)
structure Pre(s:Start)(Z:FS)(PV:List Priv):Prop where
 sub:Z.sub s.w
 sep:Sep Z PV s.h
 own:s.h.sub s.w
 apart:∀b o,(s.h b (o+1)).isSome->Z b o=F
theorem Pre.inv{s:Start}{Z:FS}{PV:List Priv}(h:Pre s Z PV):Inv s Z Z PV s.w :=.start h.sub h.sep h.own h.apart
theorem Pre.empty{w:World}{Z:FS}(h:Z.sub w):Pre ⟨w,zc.none⟩ Z []:=⟨h,Sep.nil,λ_ _ _ (e:(none:U7 Bit)=E _)=>(by cases e),λ_ _ (e:(none:U7 Bit).isSome=I)=>by simp at e⟩
def yo:Nat->List Value->List (Nat×Value)
 |_,[]=>[]
 |i,v::r=>(i,v)::yo (i+1) r
theorem zaR:∀(args:List Value) (k i:Nat),look (yo k args) (λ_=>undef) i=if i < k then undef else(args[i - k]?).getD undef
 |[],k,i=>by simp[yo,look]
 |v::r,k,i=>by
  simp only[yo,look];rw[zaR r (k+1) i];cases e:V i k with
  |true=>have:=ge e;grind
  |false=>
   have hne:i≠k:=λh=>by subst h;simp at e
   simp only[UC];by_cases h:i < k
   ·grind
   grind
theorem vO {args:List Value}{k:Nat}(h:args.length<=k) :
    Fits k (yo 0 args) (λ_=>undef) {tmps:=args.toArray++qN (k - args.toArray.size) undef,defers:=Dfr.l}:=by
 refine⟨rfl,by simp;omega,λi=>?_⟩;rw[zaR];simp only[Nat.not_lt_zero,jp,Nat.sub_zero,UB];by_cases hi:i < args.length
 ·grind
 · rw[Array.getElem?_append_right (by simpa using hi)];simp only[List.size_toArray];rw[US (by omega)];simp only[qF];cases e:(qN (k - args.length) undef)[i - args.length]? with
   |none=>rfl
   |some v=>
    grind
omit [Dfr] in
theorem Inv.call {w w':World}{A' C:List Priv}{Z':FS}{h1 h2:zc}(hi:Inv w0 σ0 Z PV w) {h:zc}(hg:Good w0 Z w h) (s2:Sep Z C h2) (l1:h1.le h) (l2:h2.le h) (d:h1.disj h2)
    (k:Inv ⟨w,h1⟩ Z Z' A' w'):Inv w0 σ0 Z' (A'++C) w':=by
 let⟨g1,q1,q2⟩:=k.own;have e1:=hg.mono l1;have e2:=hg.mono l2;have hlt:∀b i,(h2 b i).isSome->b < w.heap.size:=λb i e=>by
  let⟨x,hx⟩:=UQ.1 e;exact Bit.at_lt (e2.sub b i x hx)
 have hd:g1.disj h2:=λb i=>by
  cases hx:h2 b i with
  |none=>exact .inr rfl
  |some x=>
   left;cases hy:g1 b i with
   |none=>rfl
   |some y=>
    rcases q2.mine b i (by simp[hy]) with z | z
    ·grind
    · simp only at z;rcases d b i with u | u
      all_goals grind
 have hmine:∀b i,(h1 b i).isSome->w0.w.heap.size<=b\/(w0.h b i).isSome:=e1.mine
 refine⟨k.sub,hi.le.trans k.le,λb o v hv=>?_,⟨g1.or h2,q1.append (s2.mono k.le (.refl _)) (zc.le_or _ _) (zc.le_or_right hd) hd,zc.or_sub q2.sub (k.ext.frag d e2.sub),λb o e=>?_,λb i e=>?_⟩,hi.ext.trans k.ext λb i hb e=>?_⟩
 · rcases k.fresh b o v hv with z | z | z
   ·exact hi.fresh b o v z
   ·exact .inr (.inl (UP hi.ext.size z))
   grind
 · unfold zc.or at e;cases hx:g1 b (o+1) with
   |some y=>exact q2.apart b o (by simp[hx])
   |none=>
    rw[hx] at e;have e':(h2 b (o+1)).isSome:=by simpa using e
    cases hv:Z' b o with
    |none=>rfl
    |some v=>
     rcases k.fresh b o v hv with z | z | z
     ·rw[e2.apart b o e'] at z;cases z
     ·grind
     · simp only at z;rcases d b (o+1) with u | u
       all_goals grind
 · unfold zc.or at e;cases hx:g1 b i with
   |some y=>
    rcases q2.mine b i (by simp[hx]) with z | z
    ·exact .inl (UP hi.ext.size z)
    grind
   |none=>rw[hx] at e;exact e2.mine b i (by simpa using e)
 grind
end
end Go.Px
namespace Go.Px
variable [Dfr]
structure OTy(α:Type) where
 size:Nat
 agg:Bool
 rel:FS->zc->List Value->α->Prop
 len:∀{Z h cs x},rel Z h cs x->cs.length=size
 mono:∀{Z τ:FS} {h g:zc} {cs x},Z.le τ->h.le g->rel Z h cs x->rel τ g cs x
 one:∀{Z h cs x},rel Z h cs x->∀u∈cs,u.oneCell'=I
 sz:agg=N->size=1
def OTy.rels{α:Type}(T:OTy α)(Z:FS)(h:zc)(cs:List Value)(xs:List α):Prop:=
 cs.length=xs.length * T.size/\∃hs:Nat->zc,(∀(i:Nat) (x:α),xs[i]?=E x->T.rel Z (hs i) ((cs.drop (i * T.size)).take T.size) x)/\(∀i j,i≠j->(hs i).disj (hs j))/\∀i,(hs i).le h
omit [Dfr] in
theorem OTy.rels_mono{α:Type}{T:OTy α}{Z τ:FS}{h g:zc}{cs:List Value}{xs:List α}(l:Z.le τ)(m:h.le g)(r:T.rels Z h cs xs):T.rels τ g cs xs:=by
 let⟨h1,hs,h2,h3,h4⟩:=r;exact⟨h1,hs,λi x hx=>T.mono l (.refl _) (h2 i x hx),h3,λi=>(h4 i).trans m⟩
theorem OTy.rels_nil{α:Type}{T:OTy α}{Z:FS}{h:zc}:T.rels Z h [] []:=⟨by simp,λ_=>zc.none,λi x hx=>by simp at hx,λ_ _ _=>zc.none_disj _,λ_=>zc.none_le _⟩
def Ty.o{α:Type}(T:Ty α):OTy α where
 size:=T.size
 agg:=T.agg
 rel Z _ cs x:=T.rel Z cs x
 len h:=T.len h
 mono l _ r:=T.mono l r
 one r:=T.one r
 sz:=T.sz
theorem Ty.rels_of{α:Type}{T:Ty α}{Z:FS}:∀{xs:List α}{cs:List Value},cs.length=xs.length * T.size->(∀(i:Nat) (x:α),xs[i]?=E x->T.rel Z ((cs.drop (i * T.size)).take T.size) x)->T.rels Z cs xs
 |[],cs,hl,_=>UT (by simpa using hl)
 |x::xs,cs,hl,h=>by
  refine⟨cs.take T.size,cs.drop T.size,(List.take_append_drop _ _).symm,by simpa using h 0 x rfl,Ty.rels_of ?_ ?_⟩
  ·simp only[UU,hl,jz,UV];omega
  ·intro i y hy;have:=h (i+1) y (by simpa using hy);rw[List.drop_drop,show T.size+i * T.size=(i+1) * T.size by grind];exact this
theorem Ty.rels_o{α:Type}{T:Ty α}{Z:FS}{h:zc}{xs:List α}{cs:List Value}:T.o.rels Z h cs xs↔T.rels Z cs xs:=by
 constructor
 ·rintro⟨h1,hs,h2,_⟩;exact Ty.rels_of h1 h2
 ·intro r;exact⟨T.rels_len r,λ_=>zc.none,λi x hx=>T.rels_get i r hx,λ_ _ _=>zc.none_disj _,λ_=>zc.none_le _⟩
theorem OTy.rels_one{α:Type}{T:OTy α}{Z:FS}{h:zc}{cs:List Value}{xs:List α}(r:T.rels Z h cs xs):∀u∈cs,u.oneCell'=true:=by
 let⟨hl,hs,h2,_⟩:=r;intro u hu;let⟨j,hj⟩:=List.mem_iff_getElem?.1 hu;have hlt:=(UG.1 hj).1;have h0:0 < T.size:=by
  grind
 have hi:j / T.size < xs.length:=by rw[Nat.div_lt_iff_lt_mul h0];omega
 refine T.one (h2 (j / T.size) _ (UM hi)) u ?_;have hm:=Nat.mod_lt j h0;have hdm:=Nat.div_add_mod j T.size;rw[Nat.mul_comm] at hdm;refine UW (i:=j % T.size) ?_;grind
def Z2(a:Addr)(cs:List Value)(h:zc):Prop:=a.spot=F/\∀(j:Nat) (u:Value),cs[j]?=E u->h a.block (a.off+j+1)=E (.cell u)
def Priv.cell(a:Addr)(cs:List Value):Priv where
 holds _ h:=Z2 a cs h
 mono _ l k:=⟨k.1,λj u hj=>l _ _ _ (k.2 j u hj)⟩
def zn{α:Type}(T:OTy α)(e:TypeId)(v:Value)(s:Sl α)(Z:FS)(h:zc):Prop:=
 (v = .slice F 0 0/\s=⟨[],N⟩)\/(∃a:Addr,v = .slice (E a) 0 0/\s=⟨[],I⟩)\/
 ∃(q cap:Nat) (cur:List Value) (hb g:zc),v = .slice (E ⟨q,0,F⟩) s.xs.length cap/\s.nn=I/\s.xs.length<=cap/\cap<=maxLen/\cap * T.size<=cur.length/\
  hb.le h/\hb q 0=E (.shape e cur.length)/\(∀(j:Nat) (u:Value),cur[j]?=E u->hb q (j+1)=E (.cell u))/\g.le h/\hb.disj g/\T.rels Z g (cur.take (s.xs.length * T.size)) s.xs
omit [Dfr] in
theorem zn.mono{α:Type}{T:OTy α}{e:TypeId}{v:Value}{s:Sl α}{Z τ:FS}{h g:zc}(l:Z.le τ)(m:h.le g)(r:zn T e v s Z h):zn T e v s τ g:=by
 rcases r with r | r | ⟨q,cap,cur,hb,gg,r1,r2,r3,r4,r5,r0,r6,r7,r8,r9,r10⟩
 ·exact .inl r
 ·exact .inr (.inl r)
 ·exact .inr <| .inr ⟨q,cap,cur,hb,gg,r1,r2,r3,r4,r5,r0.trans m,r6,r7,r8.trans m,r9,T.rels_mono l (.refl _) r10⟩
omit [Dfr] in
def Priv.row{α:Type}(T:OTy α)(e:TypeId)(v:Value)(s:Sl α):Priv where
 holds Z h:=zn T e v s Z h
 mono l m r:=r.mono l m
omit [Dfr] in
theorem zn.form{α:Type}{T:OTy α}{e:TypeId}{v:Value}{s:Sl α}{Z:FS}{h:zc}(r:zn T e v s Z h):∃a c,v = .slice a s.xs.length c/\a.isSome=s.nn/\(a=F->s.xs.length=0)/\(a=F->c=0)/\s.xs.length<=c/\c<=maxLen:=by
 rcases r with⟨rfl,rfl⟩ | ⟨a,rfl,rfl⟩ | ⟨q,cap,cur,hb,gg,rfl,r2,r3,r4,r5,r0,r6,r7,r8,r9,r10⟩
 rotate_left
 ·exact⟨E a,0,rfl,rfl,(λh=>by cases h),(λh=>by cases h),UN _,by simp[maxLen]⟩
 rotate_left
 ·exact⟨F,0,rfl,rfl,λ_=>rfl,λ_=>rfl,UN _,by simp[maxLen]⟩
 grind
omit [Dfr] in
theorem Sep.get{Z:FS}{PV:List Priv}{h:zc}(k:Sep Z PV h){m:Nat}{p:Priv}(hm:PV[m]?=E p):p.holds Z h:=by
 let⟨hs,k1,_,k3⟩:=k;exact p.mono (.refl _) (k3 m) (k1 m p hm)
omit [Dfr] in
theorem Y4.get{Z:FS}{PV:List Priv}{w:World}(k:Y4 Z PV w){m:Nat}{p:Priv}(hm:PV[m]?=E p):∃h,p.holds Z h/\h.sub w:=by
 let⟨_,h,k1,k2⟩:=k;exact⟨h,k1.get hm,k2⟩
omit [Dfr] in
theorem zc.sub.cell{h:zc}{w:World}(k:h.sub w){b o:Nat}{v:Value}(e:h b (o+1)=E (.cell v)):w.cell? ⟨b,o,qc⟩=E v:=by
 let⟨c,e,o',h1,h2,h3⟩:=k _ _ _ e;obtain rfl:o=o':=by omega
 simp[Y,h1,h3]
theorem Addr.add_eq(a:Addr)(h:a.spot=F)(k:Nat):a.add k=⟨a.block,a.off+k,F⟩:=by
 let⟨b,o,sp⟩:=a;simp at h;subst h;unfold Addr.add;grind
omit [Dfr] in
theorem Z2.cell{a:Addr}{cs:List Value}{h:zc}{w:World}(r:Z2 a cs h)(k:h.sub w){j:Nat}{u:Value}(hj:cs[j]?=E u):w.cell? (a.add j)=E u:=by
 rw[Addr.add_eq a r.1];exact k.cell (r.2 j u hj)
abbrev z8(P:Program)(Z:FS)(PV:List Priv)(L:List (Nat×Value))(b:Nat->Value)(o:Oper)(v:Value):Prop:=
 ∀w,Y4 Z PV w->(execOp (opv L b) o).run P w = .ok (.value v) w
def zAR(P:Program)(Z:FS)(PV:List Priv)(L:List (Nat×Value))(b:Nat->Value)(o:Oper)(C:Value->Prop):Prop:=
 ∃v,C v/\z8 P Z PV L b o v
def zh(v:Value)(k:Nat):Addr:=
 match v with
 | .slice (E a) _ _=>a.add k
 |_=>⟨0,k,F⟩
theorem Addr.add_add(a:Addr)(j k:Nat):(a.add j).add k=a.add (j+k):=by
 unfold Addr.add;grind
theorem Yt(v:Value)(j k:Nat):(zh v j).add k=zh v (j+k):=by
 unfold zh;split
 ·exact Addr.add_add _ j k
 ·unfold Addr.add;grind
def za{α:Type}(s:Sl α)(i:Int):U7 α:=if 0<=i then s.xs[i.toNat]? else F
def XQ{α:Type}(bytes:Nat)(n:Int)(z:α):U7 (Sl α):=if 0<=n/\bytes * n.toNat<=140737488355328/\n<=140737488355328 then E ⟨List.replicate n.toNat z,I⟩ else F
def zo{α:Type}(bytes:Nat)(s:Sl α)(t:List α):U7 (Sl α):=
 if(s.xs.length+t.length) * bytes<=140737488355328/\s.xs.length+t.length<=140737488355328 then E ⟨s.xs++t,s.nn || !t.isEmpty⟩ else F
def z7{α:Type}(s:Sl α)(lo hi:Int):U7 (Sl α):=
 if 0<=lo/\lo<=hi/\hi<=s.xs.length then E ⟨(s.xs.take hi.toNat).drop lo.toNat,s.nn⟩ else F
def Zg(s:ByteArray)(i:Int):U7 Int:=if 0<=i then(s.data.toList[i.toNat]?).map (λc=>(c.toNat:Int)) else F
def ZH(s:ByteArray)(lo hi:Int):U7 ByteArray:=if 0<=lo/\lo<=hi/\hi<=s.size then E (s.extract lo.toNat hi.toNat) else F
def zkx(k:IntKind)(x y:Int):U7 Int:=if y=0 then F else E (k.wrap (x.tdiv y))
def zky(k:IntKind)(x y:Int):U7 Int:=if y=0 then F else E (x.tmod y)
theorem yK{α:Type}{s:Sl α}{i:Int}{x:α}:za s i=E x↔0<=i/\s.xs[i.toNat]?=E x:=by
 unfold za;grind
theorem za6{α:Type}{s:Sl α}{i:Int}{x:α}(h:za s i=E x):0<=i/\i < s.xs.length:=by
 let⟨h0,h1⟩:=yK.1 h;grind
section
variable {ρ:Type}{n:Nat}{w0:Start}{σ0 Z:FS}{p:U7 ρ}{L:List (Nat×Value)}{b:Nat->Value}{PV PV':List Priv}
variable {P:Program}{Q:ρ->Exit->Act->World->Prop}{ops:Array Oper}{o:Oper}{rest:List Oper}
variable {H:U7 ρ->List (Nat×Value)->FS->List Priv->Prop}{d:Nat}{v:Value}{t t' ty:TypeId}{ps:String}{af:Array Edge}{g:U7 (Nat×Bool)}
variable {x y z:Operand}{k:IntKind}{i j:Int}
theorem Inv.held{w:World}(h:Inv w0 σ0 Z PV w):Y4 Z PV w:=⟨h.sub,h.own.elim λg k=>⟨g,k.1,k.2.sub⟩⟩
theorem zyQ(h:opv L b x=v):z8 P Z PV L b ⟨E d,.move x,ty,ps,af,g⟩ v:=λw _=>by
 simp only[execOp,UX,h]
theorem zs9(h:opv L b x=v):z8 P Z PV L b ⟨E d,.assign x,ty,ps,af,g⟩ v:=λw _=>by
 simp only[execOp,UX,h]
theorem zta{e:Bool}(hx:opv L b x = .bool e)(he:e=I)(h:opv L b y=v):z8 P Z PV L b ⟨E d,.pick x y z,ty,ps,af,g⟩ v:=λw _=>by
 simp[execOp,hx,he,h,asBool,go_sem]
theorem ztb{e:Bool}(hx:opv L b x = .bool e)(he:e=N)(h:opv L b z=v):z8 P Z PV L b ⟨E d,.pick x y z,ty,ps,af,g⟩ v:=λw _=>by
 simp[execOp,hx,he,h,asBool,go_sem]
theorem zAS(hx:opv L b x = .int k i)(hy:opv L b y = .int k j):z8 P Z PV L b ⟨E d,.binOp .add t x y t',ty,ps,af,g⟩ (.int k (k.wrap (i+j))):=λw _=>by
 simp[execOp,hx,hy,eqGuard,binOp,qk]
theorem zAT(hx:opv L b x = .int k i)(hy:opv L b y = .int k j):z8 P Z PV L b ⟨E d,.binOp .sub t x y t',ty,ps,af,g⟩ (.int k (k.wrap (i - j))):=λw _=>by
 simp[execOp,hx,hy,eqGuard,binOp,qk]
theorem zAU(hx:opv L b x = .int k i)(hy:opv L b y = .int k j):z8 P Z PV L b ⟨E d,.binOp .mul t x y t',ty,ps,af,g⟩ (.int k (k.wrap (i * j))):=λw _=>by
 simp[execOp,hx,hy,eqGuard,binOp,qk]
theorem zAV(hx:opv L b x = .int k i)(hy:opv L b y = .int k j):z8 P Z PV L b ⟨E d,.binOp .lss t x y t',ty,ps,af,g⟩ (.bool (decide (i < j))):=λw _=>by
 simp[execOp,hx,hy,eqGuard,binOp,U]
theorem zAW(hx:opv L b x = .int k i)(hy:opv L b y = .int k j):z8 P Z PV L b ⟨E d,.binOp .leq t x y t',ty,ps,af,g⟩ (.bool (decide (i<=j))):=λw _=>by
 simp[execOp,hx,hy,eqGuard,binOp,U]
theorem zAX(hx:opv L b x = .int k i)(hy:opv L b y = .int k j):z8 P Z PV L b ⟨E d,.binOp .gtr t x y t',ty,ps,af,g⟩ (.bool (decide (j < i))):=λw _=>by
 simp[execOp,hx,hy,eqGuard,binOp,U]
theorem zAY(hx:opv L b x = .int k i)(hy:opv L b y = .int k j):z8 P Z PV L b ⟨E d,.binOp .geq t x y t',ty,ps,af,g⟩ (.bool (decide (j<=i))):=λw _=>by
 simp[execOp,hx,hy,eqGuard,binOp,U]
theorem zAZ(hx:opv L b x = .int k i)(hy:opv L b y = .int k j):z8 P Z PV L b ⟨E d,.binOp .eql t x y t',ty,ps,af,g⟩ (.bool (decide (i=j))):=λw _=>by
 have:(i == j)=decide (i=j):=by grind
 simp[execOp,hx,hy,eqGuard,binOp,U,this]
theorem zA0(hx:opv L b x = .int k i)(hy:opv L b y = .int k j):z8 P Z PV L b ⟨E d,.binOp .neq t x y t',ty,ps,af,g⟩ (.bool (decide (i≠j))):=λw _=>by
 have:(i != j) = !decide (i=j):=by grind
 simp[execOp,hx,hy,eqGuard,binOp,U,this]
theorem zA1{q:Int}(hx:opv L b x = .int k i)(hy:opv L b y = .int k j)(hq:zkx k i j=E q):z8 P Z PV L b ⟨E d,.binOp .quo t x y t',ty,ps,af,g⟩ (.int k q):=λw _=>by
 unfold zkx at hq;split at hq
 ·cases hq
 ·rename_i h;cases hq;simp[execOp,hx,hy,eqGuard,binOp,qH,h]
theorem zA2{q:Int}(hx:opv L b x = .int k i)(hy:opv L b y = .int k j)(hq:zky k i j=E q):z8 P Z PV L b ⟨E d,.binOp .rem t x y t',ty,ps,af,g⟩ (.int k q):=λw _=>by
 unfold zky at hq;split at hq
 ·cases hq
 ·rename_i h;cases hq;simp[execOp,hx,hy,eqGuard,binOp,qH,h]
theorem zyR{e q:Bool}(hu:P.underlying t=E .bool)(hx:opv L b x = .bool e)(hy:opv L b y = .bool q):z8 P Z PV L b ⟨E d,.binOp .eql t x y t',ty,ps,af,g⟩ (.bool (e == q)):=λw _=>by
 simp[execOp,hx,hy,eqGuard,binOp,run_equal_bool w t e q hu]
theorem zyS{e q:Bool}(hu:P.underlying t=E .bool)(hx:opv L b x = .bool e)(hy:opv L b y = .bool q):z8 P Z PV L b ⟨E d,.binOp .neq t x y t',ty,ps,af,g⟩ (.bool (e != q)):=λw _=>by
 simp[execOp,hx,hy,eqGuard,binOp,run_equal_bool w t e q hu,bne]
theorem zA3{e:Bool}(hx:opv L b x = .bool e):z8 P Z PV L b ⟨E d,.unOp .not t x,ty,ps,af,g⟩ (.bool !e):=λw _=>by
 simp[execOp,hx,qG]
theorem zA4(hx:opv L b x = .int k i):z8 P Z PV L b ⟨E d,.unOp .neg t x,ty,ps,af,g⟩ (.int k (k.wrap (0 - i))):=λw _=>by
 simp[execOp,hx,qG,qk]
theorem zrr{vs:Array Value}{m:Nat}(hx:opv L b x = .tuple vs)(h:vs[m]?=E v):z8 P Z PV L b ⟨E d,.extract x m,ty,ps,af,g⟩ v:=λw _=>by
 simp[execOp,hx,Instr.extract,h]
theorem zfY {fn:Fn}{first captured:Array Operand}{fs cs:List Value}(hf:first.toList.map (opv L b)=fs) (hc:captured.toList.map (opv L b)=cs) :
    z8 P Z PV L b ⟨E d,.makeFunc fn first captured,ty,ps,af,g⟩ (.func fn fs.toArray cs.toArray):=λw _=>by
 subst hf;subst hc;simp[execOp,Instr.makeFunc,<- Array.toList_map]
theorem zA5 {ats:Array TypeId}(hx:opv L b x = .int k i) (hy:opv L b y = .int k j) :
    z8 P Z PV L b ⟨E d,.call {callee :=.builtin .min,args:= #[x,y],argTypes:=ats},ty,ps,af,g⟩ (.int k (if j < i then j else i)):=λw _=>by
 simp[execOp,resolve,invoke,builtin,hx,hy,Builtin.min_,Builtin.min2]
theorem zA6 {ats:Array TypeId}(hx:opv L b x = .int k i) (hy:opv L b y = .int k j) :
    z8 P Z PV L b ⟨E d,.call {callee :=.builtin .max,args:= #[x,y],argTypes:=ats},ty,ps,af,g⟩ (.int k (if i < j then j else i)):=λw _=>by
 simp[execOp,resolve,invoke,builtin,hx,hy,Builtin.max_,Builtin.max2]
theorem Vv {α:Type}{τ:FS}{T:Ty α}{s:Sl α}{e:TypeId}(hu:P.underlying t=E (.slice e)) (hx:opv L b x=v) (hv:(tSl T).vrel τ v s) :
    z8 P Z PV L b ⟨E d,.call {callee :=.builtin .len,args:= #[x],argTypes:= #[t]},ty,ps,af,g⟩ (.int .i64 s.len):=λw _=>by
 obtain⟨a,m,c,rfl,h1,h2⟩:=YN.1 hv;simp[execOp,resolve,invoke,builtin,hx,Builtin.len_,UY hu,goInt,Sl.len,h1]
theorem zc3 {α:Type}{T:OTy α}{s:Sl α}{e e':TypeId}(m:Nat) (hu:P.underlying t=E (.slice e)) (hx:opv L b x=v) (hp:PV[m]?=E (.row T e' v s)) :
    z8 P Z PV L b ⟨E d,.call {callee :=.builtin .len,args:= #[x],argTypes:= #[t]},ty,ps,af,g⟩ (.int .i64 s.len):=λw hw=>by
 let⟨hh,hr,_⟩:=hw.get hp;obtain⟨a,c,rfl,_⟩:=zn.form hr;simp[execOp,resolve,invoke,builtin,hx,Builtin.len_,UY hu,goInt,Sl.len]
theorem zkz {s:ByteArray}(hu:P.underlying t=E .string) (hx:opv L b x = .string s) :
    z8 P Z PV L b ⟨E d,.call {callee :=.builtin .len,args:= #[x],argTypes:= #[t]},ty,ps,af,g⟩ (.int .i64 (s.size:Int)):=λw _=>by
 simp[execOp,resolve,invoke,builtin,hx,Builtin.len_,UY hu,goInt]
theorem V8 {w:World}{e:TypeId}{a:U7 Addr}{m c:Nat}(hu:P.underlying t=E (.slice e)) :
    (Op.equal t (.slice a m c) (.slice F 0 0)).run P w = .ok (!a.isSome) w:=by
 rw[run_equal_slice_nil w t e a m c hu];grind
theorem WD {α:Type}{τ:FS}{T:Ty α}{s:Sl α}{e:TypeId}(hu:P.underlying t=E (.slice e)) (hx:opv L b x=v) (hy:opv L b y = .slice F 0 0) (hv:(tSl T).vrel τ v s) :
    z8 P Z PV L b ⟨E d,.binOp .eql t x y t',ty,ps,af,g⟩ (.bool !s.nn):=λw _=>by
 obtain⟨a,m,c,rfl,h1,h2,_⟩:=YN.1 hv;simp[execOp,hx,hy,eqGuard,binOp,V8 hu,h2]
theorem WE {α:Type}{τ:FS}{T:Ty α}{s:Sl α}{e:TypeId}(hu:P.underlying t=E (.slice e)) (hx:opv L b x=v) (hy:opv L b y = .slice F 0 0) (hv:(tSl T).vrel τ v s) :
    z8 P Z PV L b ⟨E d,.binOp .neq t x y t',ty,ps,af,g⟩ (.bool s.nn):=λw _=>by
 obtain⟨a,m,c,rfl,h1,h2,_⟩:=YN.1 hv;simp[execOp,hx,hy,eqGuard,binOp,V8 hu,h2]
theorem zaS {α:Type}{T:OTy α}{s:Sl α}{e e':TypeId}(m:Nat) (hu:P.underlying t=E (.slice e)) (hx:opv L b x=v) (hy:opv L b y = .slice F 0 0) (hp:PV[m]?=E (.row T e' v s)) :
    z8 P Z PV L b ⟨E d,.binOp .eql t x y t',ty,ps,af,g⟩ (.bool !s.nn):=λw hw=>by
 let⟨hh,hr,_⟩:=hw.get hp;obtain⟨a,c,rfl,h2,_⟩:=zn.form hr;simp[execOp,hx,hy,eqGuard,binOp,V8 hu,h2]
theorem zaT {α:Type}{T:OTy α}{s:Sl α}{e e':TypeId}(m:Nat) (hu:P.underlying t=E (.slice e)) (hx:opv L b x=v) (hy:opv L b y = .slice F 0 0) (hp:PV[m]?=E (.row T e' v s)) :
    z8 P Z PV L b ⟨E d,.binOp .neq t x y t',ty,ps,af,g⟩ (.bool s.nn):=λw hw=>by
 let⟨hh,hr,_⟩:=hw.get hp;obtain⟨a,c,rfl,h2,_⟩:=zn.form hr;simp[execOp,hx,hy,eqGuard,binOp,V8 hu,h2]
theorem vb {fs:Array Field}{f:Field}{m:Nat}{a r:Addr}{ti:TypeInfo}(hu:P.underlying t=E (.struct fs)) (hf:fs[m]?=E f) (hi:P.info? f.type=E ti) (hz:ti.size≠0)
    (hx:opv L b x = .pointer (E a)) (hr:a.add f.offset=r):z8 P Z PV L b ⟨E d,.fieldAddr t x m,ty,ps,af,g⟩ (.pointer (E r)):=λw _=>by
 subst hr;simp[execOp,hx,Instr.fieldAt,UY hu,hf,qx,fieldPlace,sizeOf,typeInfo,hi,hz]
theorem zmM {e:TypeId}{n i:Nat}{a r:Addr}{ti:TypeInfo}(hu:P.underlying t=E (.array n e)) (hi:P.info? e=E ti) (hz:ti.size≠0)
    (hx:opv L b x = .pointer (E a)) (hy:opv L b y = .int .i64 (i:Int)) (hlt:i < n) (hr:a.add (i * ti.size)=r) :
    z8 P Z PV L b ⟨E d,.indexAddr t x y,ty,ps,af,g⟩ (.pointer (E r)):=λw _=>by
 subst hr;simp[execOp,hx,hy,qy,asIntOf,UY hu,qx,sizeOf,typeInfo,hi,hlt]
theorem za7 {α:Type}{τ:FS}{T:Ty α}{s:Sl α}{q:α}{e:TypeId}{ti:TypeInfo}(hu:P.underlying t=E (.slice e)) (hi:P.info? e=E ti) (hz:ti.size=T.size)
    (hx:opv L b x=v) (hy:opv L b y = .int k i) (hv:(tSl T).vrel τ v s) (hq:za s i=E q) :
    z8 P Z PV L b ⟨E d,.indexAddr t x y,ty,ps,af,g⟩ (.pointer (E (zh v (i.toNat * T.size)))):=λw _=>by
 obtain⟨a,m,c,rfl,h1,h2,h3,h4,h5,_⟩:=YN.1 hv;have hlt:=za6 hq;rw[<- h1] at hlt;cases a with
 |none=>grind
 |some a=>
  simp[execOp,hx,hy,qy,asIntOf,UY hu,sizeOf,typeInfo,hi,hz,hlt,zh]
theorem zaU {α:Type}{T:OTy α}{s:Sl α}{q:α}{e e':TypeId}{ti:TypeInfo}(m:Nat) (hu:P.underlying t=E (.slice e)) (hi:P.info? e=E ti) (hz:ti.size=T.size)
    (hx:opv L b x=v) (hy:opv L b y = .int k i) (hp:PV[m]?=E (.row T e' v s)) (hq:za s i=E q) :
    z8 P Z PV L b ⟨E d,.indexAddr t x y,ty,ps,af,g⟩ (.pointer (E (zh v (i.toNat * T.size)))):=λw hw=>by
 let⟨hh,hr,_⟩:=hw.get hp;obtain⟨a,c,rfl,h1,h2,_⟩:=zn.form hr;have hlt:=za6 hq;cases a with
 |none=>grind
 |some a=>
  simp[execOp,hx,hy,qy,asIntOf,UY hu,sizeOf,typeInfo,hi,hz,hlt,zh]
def Zh:TypeDesc->Bool
 | .struct _ | .array _ _=>I
 |_=>N
theorem Vw{w:World}(a:Addr)(cs:List Value)(h:∀(j:Nat) (u:Value),cs[j]?=E u->w.cell? (a.add j)=E u):(loadCells a cs.length).run P w = .ok cs.toArray w:=
 run_loadCells_list w a cs h
theorem vM {w:World}{td:TypeDesc}{ti:TypeInfo}(a:Addr) (cs:List Value) (hu:P.underlying t=E td) (hi:P.info? t=E ti) (hz:ti.size=cs.length) (h1:Zh td=N->cs.length=1)
    (h:∀(j:Nat) (u:Value),cs[j]?=E u->w.cell? (a.add j)=E u):(loadVar t a).run P w = .ok (yA (Zh td) cs) w:=by
 unfold loadVar;have hagg:(Go.isAgg t).run P w=X (Zh td) w:=by
  unfold Go.isAgg;rw[UZ,UY hu];cases td<;>rfl
 rw[UZ,hagg];simp only[Da];cases hd:Zh td with
 |true=>
  simp only[jq,UZ,sizeOf,typeInfo,Db,Da,hi,UX,hz];rw[Vw a cs h];simp[yA]
 |false=>
  have hl:=h1 hd
  match cs,hl with
  |[u],_=>
    have:=h 0 u rfl;simp only[Addr.add,jq] at this;simp[load,O,this,yA]
def XR{α β:Type}(T:Ty α)(off:Nat)(Tf:Ty β)(proj:α->β):Prop:=∀Z cs x,T.rel Z cs x->Tf.rel Z ((cs.drop off).take Tf.size) (proj x)
theorem XR.self{α:Type}(T:Ty α):XR T 0 T id:=λZ cs x h=>by
 have:=T.len h;grind
end
end Go.Px
namespace Go.Px
variable [Dfr]
theorem V9(w:World)(o:Obj)(b:Nat)(h:b < w.heap.size):(w.alloc o).heap[b]?=w.heap[b]?:=heap_alloc_old w o h
theorem yV(w:World)(o:Obj):(w.alloc o).heap[w.heap.size]?=E o:=heap_alloc_new w o
theorem zc4(w:World)(c:Array Value)(t:TypeId)(a:Addr):(w.alloc (.cells c t (0,0))).frozen? a=w.frozen? a:=by
 by_cases h:a.block=w.heap.size
 ·have h1:(w.alloc (.cells c t (0,0))).heap[a.block]?=E (.cells c t (0,0)):=by rw[h];exact yV _ _
  have h2:w.heap[a.block]?=none:=by rw[h];simp
  simp[qB,h1,h2]
 ·exact World.frozen?_alloc_old w _ a h
theorem ziZ(w:World)(g:Nat)(cs:Array Value)(a:Addr):(w.setRow g cs).frozen? a=w.frozen? a:=by
 unfold qB qA;grind
def Za(q:Nat)(e:TypeId)(c:Array Value):zc:=λb k=>if b=q then(match k with | 0=>E (.shape e c.size) | j+1=>(c[j]?).map .cell) else F
theorem x7{w:World}{q:Nat}{e:TypeId}{c:Array Value}(h:w.heap[q]?=E (.cells c e (0,0))):(Za q e c).sub w:=by
 intro b k x hx;unfold Za at hx;split at hx
 ·rename_i hb;subst hb;cases k with
  |zero=>simp at hx;subst hx;exact⟨c,h,rfl,rfl⟩
  |succ j=>
   simp only at hx;cases hc:c[j]? with
   |none=>grind
   |some v=>rw[hc] at hx;cases hx;exact⟨c,e,j,h,rfl,hc⟩
 ·cases hx
theorem Yu{q:Nat}{e:TypeId}{c:Array Value}{b k:Nat}(h:(Za q e c b k).isSome):b=q/\(k=0\/k - 1 < c.size):=by
 unfold Za at h;split at h
 ·rename_i hb;refine⟨hb,?_⟩;grind
 ·cases h
theorem wY(q:Nat)(e:TypeId)(c:Array Value):Za q e c q 0=E (.shape e c.size):=by simp[Za]
theorem XS{q:Nat}{e:TypeId}{c:Array Value}{j:Nat}{u:Value}(h:c.toList[j]?=E u):Za q e c q (j+1)=E (.cell u):=by
 have:c[j]?=E u:=by simpa using h
 simp[Za,this]
theorem vq(w:World)(c:Array Value)(t:TypeId)(h:zc):Ext w h (w.alloc (.cells c t (0,0))):=
 ⟨rfl,rfl,rfl,by simp,λb =>.same λhb=>V9 _ _ _ hb,λa _ _=>zc4 w c t a⟩
theorem zoa{w:World}{q:Nat}{c c':Array Value}{e:TypeId}{f:Nat×Nat}{h:zc}(hq:w.heap[q]?=E (.cells c e f))(hs:c'.size=c.size)(hc:∀o,h q (o+1)=F->c'[o]?=c[o]?):Ext w h (w.setRow q c'):=by
 refine⟨rfl,rfl,rfl,by simp[qA],λb=>?_,λa _ _=>ziZ w q c' a⟩;by_cases hb:b=q
 ·subst hb;refine⟨λc1 e1 f1 h1=>?_,λx hx hn=>?_⟩
  ·rw[hq] at h1;cases h1;exact⟨c',_,setRow_heap w b c c' e f hq,hs,hc,.inl rfl⟩
  ·rw[hq] at hx;cases hx;cases hn
 ·exact .same λ_=>setRow_other w q b c' hb
section
variable {ρ:Type}{n:Nat}{w0:Start}{σ0 Z:FS}{p:U7 ρ}{G:ρ->Act->World->Prop}{L:List (Nat×Value)}{b:Nat->Value}{PV PV':List Priv}
variable {P:Program}{ops:Array Oper}{o:Oper}{rest:List Oper}
variable {H:U7 ρ->List (Nat×Value)->FS->List Priv->Prop}{B d:Nat}{v:Value}{t t' ty:TypeId}{ps:String}{af:Array Edge}{g:U7 (Nat×Bool)}
variable {x y z:Operand}{k:IntKind}{i j:Int}
theorem Inv.alloc_cell{w:World}(h:Inv w0 σ0 Z PV w)(cs:List Value)(T:TypeId):Inv w0 σ0 Z (.cell ⟨w.heap.size,0,F⟩ cs::PV) (w.alloc (.cells cs.toArray T (0,0))):=by
 refine h.cons (h1:=Za w.heap.size T cs.toArray) ⟨rfl,λj u hj=>?_⟩ (x7 (yV _ _)) (vq _ _ _ _) λb i hb=>by rw[(Yu hb).1];grind
 simp only[Dc];exact XS (by simpa using hj)
class Frz{α:Type}(T:OTy α)(T':outParam (Ty α)):Prop where
 size:T'.size=T.size
 agg:T'.agg=T.agg
 spec:∀{Z τ:FS} {h:zc} {cs:List Value} {x:α},Z.le τ->(∀b o v,h b (o+1)=E (.cell v)->τ b o=E v)->T.rel Z h cs x->T'.rel τ cs x
instance {α:Type}{T:Ty α}:Frz T.o T:=⟨rfl,rfl,λl _ r=>T.mono l r⟩
omit [Dfr] in
theorem Frz.rels{α:Type}{T:OTy α}{T':Ty α}[f:Frz T T']{Z τ:FS}{h:zc}{cs:List Value}{xs:List α}(l:Z.le τ)(hh:∀b o v,h b (o+1)=E (.cell v)->τ b o=E v)(r:T.rels Z h cs xs):T'.rels τ cs xs:=by
 let⟨h1,hs,h2,h3,h4⟩:=r;refine Ty.rels_of (by rw[h1,f.size]) λi x hx=>?_
 rw[f.size];exact f.spec l (λb o v e=>hh b o v (h4 i _ _ _ e)) (h2 i x hx)
omit [Dfr] in
theorem zn.fast{α:Type}{T:OTy α}{T':Ty α}[f:Frz T T']{e:TypeId}{v:Value}{s:Sl α}{Z τ:FS}{h:zc}(l:Z.le τ)(hh:∀b o v,h b (o+1)=E (.cell v)->τ b o=E v)(r:zn T e v s Z h):(tSl T').vrel τ v s:=by
 refine YN.2 ?_;rcases r with⟨rfl,rfl⟩ | ⟨a,rfl,rfl⟩ | ⟨q,cap,cur,hb,gg,rfl,r2,r3,r4,r5,r0,r6,r7,r8,r9,r10⟩
 ·exact⟨F,0,0,rfl,rfl,rfl,UN _,UO _,λ_=>⟨rfl,rfl⟩,[],rfl,λj u hj=>by simp at hj⟩
 ·exact⟨E a,0,0,rfl,rfl,rfl,UN _,UO _,(λh=>by cases h),[],rfl,λj u hj=>by simp at hj⟩
 ·refine⟨_,_,_,rfl,rfl,by simp[r2],r3,r4,(λh=>by cases h),cur.take (s.xs.length * T.size),f.rels l (λb o v e=>hh b o v (r8 _ _ _ e)) r10,λj u hj=>⟨_,rfl,?_⟩⟩;rw[Addr.add_eq _ rfl];rw[List.getElem?_take] at hj;split at hj
  ·simpa[FS.cell] using hh _ _ _ (r0 _ _ _ (r7 j u hj))
  ·cases hj
theorem Xx{Z:FS}{h:zc}(b o:Nat)(v:Value)(e:h b (o+1)=E (.cell v)):(Z.with h) b o=E v:=by simp[FS.with,e]
theorem zrs {cs:List Value}(hn:qo d n=I) (hx:(opv L b x).cells.toList=cs) (h:∀c:Addr,H p ((d,.pointer (E (c.add 0)))::L) Z (.cell c cs::PV)) :
    Xl P n w0 σ0 ⟨E d,.box t x,ty,ps,af,g⟩ p L b Z PV H:=by
 intro r hp a w hi hf K Q hK;unfold Oper.wp;have:(execOp a.eval ⟨E d,.box t x,ty,ps,af,g⟩).run P w = .ok (.value (.pointer (E ⟨w.heap.size,0,F⟩))) (w.alloc (.cells cs.toArray t (0,0))):=by
  subst hx;rw[hf.eval];simp[execOp,Instr.box,newVar,newRow,newObj,O]
 rw[this,Oper.upon_value];exact hK p _ Z _ _ _ hp (hi.alloc_cell cs t) (hf.put (by simpa[Dd] using hn) _) (h _)
theorem zkA {cs:List Value}{ti:TypeInfo}{zv:Value}(hn:qo d n=I) (hi':P.info? t=E ti) (hz:ti.zero=E zv) (hx:zv.cells.toList=cs) (h:∀c:Addr,H p ((d,.pointer (E (c.add 0)))::L) Z (.cell c cs::PV)) :
    Xl P n w0 σ0 ⟨E d,.alloc t,ty,ps,af,g⟩ p L b Z PV H:=by
 intro r hp a w hi hf K Q hK;unfold Oper.wp;have:(execOp a.eval ⟨E d,.alloc t,ty,ps,af,g⟩).run P w = .ok (.value (.pointer (E ⟨w.heap.size,0,F⟩))) (w.alloc (.cells cs.toArray t (0,0))):=by
  subst hx;rw[hf.eval];simp[execOp,Instr.alloc,zeroValue,typeInfo,hi',hz,newVar,newRow,newObj,O]
 rw[this,Oper.upon_value];exact hK p _ Z _ _ _ hp (hi.alloc_cell cs t) (hf.put (by simpa[Dd] using hn) _) (h _)
def zc5:List Value->Prop
 |[]=>True
 |v::r=>v.oneCell'=I/\zc5 r
theorem zc5.mem:∀{l:List Value},zc5 l->∀u∈l,u.oneCell'=I
 |[],_,_,h=>by simp at h
 |v::r,⟨h,k⟩,u,hu=>by
  rcases De.1 hu with rfl | hu
  ·exact h
  ·exact k.mem u hu
def zc.put(h:zc)(q off:Nat)(vs:List Value):zc:=λb k=>if b=q/\off < k/\k<=off+vs.length then(vs[k - 1 - off]?).map .cell else h b k
theorem zc.put_in{h:zc}{q off:Nat}{vs:List Value}{j:Nat}{u:Value}(hj:vs[j]?=E u):h.put q off vs q (off+j+1)=E (.cell u):=by
 have hl:=(UG.1 hj).1;unfold zc.put;grind
theorem zc.put_out{h:zc}{q off:Nat}{vs:List Value}{b k:Nat}(hc:¬ (b=q/\off < k/\k<=off+vs.length)):h.put q off vs b k=h b k:=by
 unfold zc.put;rw[jx hc]
theorem zc.put_dom{h:zc}{q off:Nat}{vs:List Value}(hall:∀j,j < vs.length->(h q (off+j+1)).isSome){b k:Nat}(hx:(h.put q off vs b k).isSome):(h b k).isSome:=by
 by_cases hc:b=q/\off < k/\k<=off+vs.length
 ·obtain⟨rfl,h1,h2⟩:=hc;have:=hall (k - 1 - off) (by omega);grind
 ·rwa [zc.put_out hc] at hx
theorem zfZ {w:World}{h:zc}{q off:Nat}{vs:List Value}{c:Array Value}{e:TypeId}(hs:h.sub w) (hb:w.heap[q]?=E (.cells c e (0,0))) (hfit:off+vs.length<=c.size) (hcells:∀j,j < vs.length->∃u,h q (off+j+1)=E (.cell u)) :
    (h.put q off vs).sub (w.setRow q (c.toList.take off++vs++c.toList.drop (off+vs.length)).toArray)/\Ext w h (w.setRow q (c.toList.take off++vs++c.toList.drop (off+vs.length)).toArray):=by
 have hget:∀o,(c.toList.take off++vs++c.toList.drop (off+vs.length)).toArray[o]?=if off<=o/\o < off+vs.length then vs[o - off]? else c[o]?:=by
  intro o;have htl:(c.toList.take off).length=off:=by simp;omega
  simp only[List.getElem?_toArray];by_cases h1:o < off
  ·grind
  · by_cases h2:o < off+vs.length
    ·rw[jv ⟨by omega,h2⟩,Df,Dg (by omega),htl,Dh (by omega)]
    grind
 have hsize:(c.toList.take off++vs++c.toList.drop (off+vs.length)).toArray.size=c.size:=by simp;omega
 refine⟨?_,zoa hb hsize λo ho=>?_⟩
 · intro b k x hx;have hnew:=setRow_heap w q c (c.toList.take off++vs++c.toList.drop (off+vs.length)).toArray e (0,0) hb;by_cases hc:b=q/\off < k/\k<=off+vs.length
   · obtain⟨rfl,h1,h2⟩:=hc;unfold zc.put at hx;rw[jv ⟨rfl,h1,h2⟩] at hx;have hlt2:k - 1 - off < vs.length:=by omega
     rw[UM hlt2] at hx;cases hx;refine⟨_,e,k - 1,hnew,by omega,?_⟩;grind
   · rw[zc.put_out hc] at hx;have:=hs b k x hx;by_cases hbq:b=q
     · subst hbq;cases x with
       |cell v=>
        obtain⟨c',e',o',h1,rfl,h3⟩:=this;rw[hb] at h1;cases h1;refine⟨_,e,o',hnew,rfl,?_⟩;grind
       |shape e' n'=>
        obtain⟨c',h1,rfl,h3⟩:=this;rw[hb] at h1;cases h1;exact⟨_,hnew,rfl,hsize.trans h3⟩
       |obj o=>let⟨h1,_,h3⟩:=this;rw[hb] at h1;cases h1;cases h3
     · have ho:=setRow_other w q b (c.toList.take off++vs++c.toList.drop (off+vs.length)).toArray hbq;cases x with
       |cell v=>let⟨c',e',o',h1,h2,h3⟩:=this;exact⟨c',e',o',ho.trans h1,h2,h3⟩
       |shape e' n'=>let⟨c',h1,h2,h3⟩:=this;exact⟨c',ho.trans h1,h2,h3⟩
       |obj o=>let⟨h1,h2,h3⟩:=this;exact⟨ho.trans h1,h2,h3⟩
 ·rw[hget,jx];rintro⟨h1,h2⟩;let⟨u,hu⟩:=hcells (o - off) (by omega);rw[show off+(o - off)+1=o+1 by omega,ho] at hu;cases hu
theorem Vx {w:World}{h:zc}{q off:Nat}{vs:List Value}(hs:h.sub w) (hlt:q < w.heap.size) (hcells:∀j,j < vs.length->∃u,h q (off+j+1)=E (.cell u)) (hone:∀u∈vs,u.oneCell'=I) (hne:vs≠[]) :
    ∃w',(storeCells ⟨q,off,F⟩ vs).run P w = .ok () w'/\(h.put q off vs).sub w'/\Ext w h w':=by
 let⟨u0,hu0⟩:=hcells 0 (by grind);let⟨c,e,o0,hb,_,_⟩:=hs _ _ _ hu0;have hin:∀j,j < vs.length->off+j < c.size:=λj hj=>by
  let⟨u,hu⟩:=hcells j hj;let⟨c',e',o',hb',h2,h3⟩:=hs _ _ _ hu;grind
 have hfit:off+0+vs.length<=c.size:=by
  have hl:0 < vs.length:=by grind
  have:=hin (vs.length - 1) (by omega);omega
 have hst:=run_storeCells_at (P:=P) q off e vs 0 c w hb hfit hone;simp only[Di] at hst hfit;have hst2:(storeCells ⟨q,off,F⟩ vs).run P w = .ok () (w.setRow q (c.toList.take off++vs++c.toList.drop (off+vs.length)).toArray):=hst;exact⟨_,hst2,zfZ hs hb hfit hcells⟩
theorem zi0 {a:Addr}{off:Nat}{cs vs cs':List Value}{ti:TypeInfo}(m:Nat) (hi':P.info? t=E ti) (hx:opv L b x = .pointer (E (a.add off))) (hy:(opv L b y).cells.toList=vs)
    (hs:ti.size=vs.length) (h1:zc5 vs) (hm:PV[m]?=E (.cell a cs)) (ho:Nat.ble (off+vs.length) cs.length=I) (hcs:cs.take off++vs++cs.drop (off+vs.length)=cs') (hPV:PV.set m (.cell a cs')=PV') (h0:qo 0 vs.length=I)
    (h:H p L Z PV'):Xl P n w0 σ0 ⟨F,.store t x y,ty,ps,af,g⟩ p L b Z PV H:=by
 intro r hp ac w hi hf K Q hK;unfold Oper.wp;have ho':off+vs.length<=cs.length:=Dj ho;have hsz:(opv L b y).cells.size=vs.length:=by grind
 subst hPV;have key:∃w',(storeCells (a.add off) vs).run P w = .ok () w'/\Inv w0 σ0 Z (PV.set m (.cell a cs')) w':=by
  let⟨hh,hsep,hg⟩:=hi.own;let⟨h1',h2',e1,e2,e3,e4,e5,_⟩:=hsep.pick hm;have e1:Z2 a cs h1':=e1;have hne:vs≠[]:=by intro e;subst e;simp at h0
  have hcells:∀g,Z2 a cs g->∀j,j < vs.length->∃u,g a.block (a.off+off+j+1)=E (.cell u):=λg hg j hj=>by
   have hlt:off+j < cs.length:=by omega
   exact⟨_,by rw[show a.off+off+j=a.off+(off+j) by omega];exact hg.2 (off+j) _ (UM hlt)⟩
  have hlt:a.block < w.heap.size:=by
   let⟨u,hu⟩:=hcells _ e1 0 (by grind);exact Bit.at_lt (hg.sub _ _ _ (e2 _ _ _ hu))
  let⟨w',k1,k2,k3⟩:=Vx (P:=P) (hg.sub.mono e2) hlt (hcells _ e1) h1.mem hne;rw[Addr.add_eq a e1.1];refine⟨w',k1,hi.change hm λg hg' hgs=>?_⟩;have hg':Z2 a cs g:=hg';let⟨w'',j1,j2,j3⟩:=Vx (P:=P) hgs hlt (hcells _ hg') h1.mem hne;rw[k1] at j1;cases j1;refine⟨_,⟨hg'.1,λj u hj=>?_⟩,j2,j3,λb i hx =>.inl (zc.put_dom (λj hj=>by grind) hx)⟩;subst hcs;have htl:(cs.take off).length=off:=by simp;omega
  by_cases c1:j < off
  ·rw[Df,Dh (by omega),Dk c1] at hj;rw[zc.put_out (by omega)];exact hg'.2 j u hj
  · by_cases c2:j < off+vs.length
    ·rw[Df,Dg (by omega),htl,Dh (by omega)] at hj;rw[show a.off+j+1=a.off+off+(j - off)+1 by omega];exact zc.put_in hj
    ·rw[Dg (by simp;omega),Dl] at hj;simp only[jy,htl] at hj;rw[show off+vs.length+(j - (off+vs.length))=j by omega] at hj;rw[zc.put_out (by omega)];exact hg'.2 j u hj
 let⟨w',hst,hi2⟩:=key;have:(execOp ac.eval ⟨F,.store t x y,ty,ps,af,g⟩).run P w = .ok .skip w':=by
  rw[hf.eval];simp only[execOp,Instr.storeAt,qx,hx,storeVar,sizeOf,typeInfo,UZ,UX,Db,Da,hi',hsz,hs,Dm,not_true,jp,hy,hst]
 rw[this,Oper.upon_skip];exact hK p L Z _ _ _ hp hi2 hf h
end
end Go.Px
