/- Part A3. -/
import Derived.Test.YtlhommikjhhmbaaGreatDoorA2
import Derived.Below
import Derived.Lib.ConvBytes
import Derived.Laws.BytesString
set_option linter.unusedSectionVars false
set_option linter.unusedVariables false
set_option linter.unusedSimpArgs false
namespace Go.Px
open Bool renaming true->G,false->N,true_and->qM
open Go.Instr renaming typeAssert->qK,fill->qL,sureAddr->qW,sliceAt->qX,mapUpdate->qY,lookup->qZ,keyThatStays->q0,index->q5,build->zI
open Go.MapKept renaming run_findKey->qk,run_setObj_map->qC,run_checkKey->qG
open Go.Op renaming equalIn->qv,equal->qP
open Go.Oper renaming wp->qc,upon_value->qA
open Go.Result renaming andThen->qb,ok->qO
open Go.RowKit renaming Below->qy
open Go.Value renaming pointer->V,cells->qo,oneCell'->qN
open List renaming range->Y,pairwise_iff_getElem->qx,set_set->qD,map->qE,mem_iff_getElem?->qH,mem_eraseIdx_iff_getElem->qI,getElem?_range->qJ,take->qR,getElem_of_mem->qS,getElem?_set_self->qT,eraseIdx_sublist->qU,drop->qV
open Nat renaming beq->I,blt->O,ble->qB,mul_comm->qF,add_assoc->qQ
open _root_.Option renaming some->E,none->F,some->W
section
theorem D6:(!N)=true:=@Bool.not_false
theorem D5:∀{P:Program}{w:World}{r:Nat}{es:Array MapEntry}{a:Nat},w.heap[r]? =E (Obj.map es a)->Sem.run P (getObj r) w=qO (Obj.map es a) w:=@MapKept.run_getObj_map
theorem D4:∀{α:Type _}{β:Type _}{b:β}{f:α->β}{l:List α},b∈qE f l↔∃a,a∈l/\f a=b:=@List.mem_map
theorem D3:∀{α:Type _}{l:List α}{i:Nat}{a b:α},a∈l.set i b->a∈l\/a=b:=@List.mem_or_eq_of_mem_set
theorem D2:∀{α:Type _}(y:α){a:α}{l:List α},a∈l->a∈y::l:=@List.mem_cons_of_mem
theorem D1:∀{α:Type _}{β:Type _}{«as»:List α}(f:α->β),(qE f «as»).length=«as».length:=@List.length_map
theorem D0:∀{α:Type _}{l:List α}{α_1:Type _}{f g:α->α_1},(∀(a:α),a∈l->f a=g a)->qE f l=qE g l:=@List.map_congr_left
theorem Dz:∀{α:Type _}{a b:α},a∈[b]↔a=b:=@List.mem_singleton
theorem Dy:∀{α:Sort _}(a b:α),(bif G then a else b)=a:=@cond_true
theorem Dx:∀{α:Type _}{p:α->Bool}{l:List α},l.all p=G↔∀(x:α),x∈l->p x=true:=@List.all_eq_true
theorem Dw:∀(b:Bool),((!b)=G)=(b=N):=@Bool.not_eq_true'
theorem Dv:∀{p:Prop}[a:Decidable p],decide p=G->p:=@of_decide_eq_true
theorem Du:∀{α:Type _}{α_1:Type _}{f:Nat->α->α_1}{l:List α}{i:Nat},(List.mapIdx f l)[i]? =Option.map (f i) l[i]?:=@List.getElem?_mapIdx
variable [Dfr]
inductive NX where
 |whole
 |part (U:Nat) (lo hi:Int)
 |elem (U:Nat) (k:Int) (off:Nat)
inductive AV(D:Nat->Type) where
 |int (k:IntKind) (n:Int)
 |bool (b:Bool)
 |str (s:ByteArray)
 |agg (cs:List (AV D))
 |tup (vs:List (AV D))
 |sl (T:Nat) (s:Sl (D T)) (clip:Bool)
 |row (id:Nat)
 |pc (id off:Nat)
 |pr (id T:Nat) (i:Int) (off:Nat)
 |nx (id T:Nat) (i:Int) (x:NX)
 |pz (T:Nat) (x:D T) (off:Nat)
 |pnil
 |nils
 |clo (f:Nat) (caps:List (AV D))
 |nilf
 |ifc (t:Nat) (v:AV D)
 |nili
 |und
def AV.leaf{D:Nat->Type}:AV D->Bool
 | .agg _=>N
 | .tup _=>N
 | .und=>N
 |_=>G
def AV.base{D:Nat->Type}:AV D->Bool
 | .int _ _=>G
 | .bool _=>G
 | .str _=>G
 | .sl _ _ c=> !c
 | .pz _ _ _=>G
 | .pnil=>G
 | .clo _ cs=>cs.isEmpty
 | .nilf=>G
 | .ifc _ A=>A.base
 | .nili=>G
 |_=>N
def AV.num{D:Nat->Type}:AV D->Bool
 | .int _ _=>G
 | .bool _=>G
 | .str _=>G
 |_=>N
def leA{D:Nat->Type}(A B:AV D):Prop:=A=B\/(∃T s c,A = .sl T s c/\B = .sl T s N)\/∃T c,A = .nils/\B = .sl T ⟨[],N⟩ c
def zfj{D:Nat->Type}:List (AV D)->List (AV D)->Prop
 |[],[]=>True
 |a::as,b::bs=>leA a b/\zfj as bs
 |_,_=>False
structure Cod where
 D:Nat->Type
 size:Nat->Nat
 agg:Nat->Bool
 emb:(T:Nat)->D T->List (AV D)
 imp:(T:Nat)->List (AV D)->U3 (D T)
 len:∀T x,(emb T x).length=size T
 base:∀T x A,A∈emb T x->A.base=G
 sz:∀T,agg T=N->size T=1
 imp_ok:∀T cs x,imp T cs=E x->zfj cs (emb T x)
 gl:World->FS->Prop
 opv:Nat->(T:Nat)->Value->Addr->ByteArray->Sl (D T)->Priv
 oal:Nat->List Value->U3 (Nat×Nat)
 oal_ok:∀t zs k T,oal t zs=E (k,T)->∀(q:Nat) (hdr:Value) (Z:FS) (h:zc),(Za q t zs.toArray).le h->(opv k T hdr ⟨q,0,F⟩ ⟨#[]⟩ ⟨[],N⟩).holds Z h
 mp:(T:Nat)->U3 (MapR D opv T)
 lfs:Nat->List (U3 Nat)
 lfs_ok:∀(T:Nat) (x:D T) (j:Nat) (A:AV D),(emb T x)[j]?=E A->A.num=G\/(∃U s,A = .sl U s N/\(lfs T)[j]?=E (E U))\/∃U x,A = .pz U x 0/\(lfs T)[j]?=E (E U)
 nst:Nat->Nat
 own:Nat->Bool
 bz:Nat->Bool
 glm:∀{Z τ:FS} {w w':World} {h:zc},Z.le τ->Ext w h w'->gl w Z->gl w' τ
section
variable {C:Cod}
inductive Rv(C:Cod)(Z:FS):Value->AV C.D->Prop where
 |int {k n}:Rv C Z (.int k n) (.int k n)
 |bool {b}:Rv C Z (.bool b) (.bool b)
 |str {s}:Rv C Z (.string s) (.str s)
 |sl {T} {s:Sl (C.D T)} {clip:Bool} {a:U3 Addr} {n c:Nat} (cell:Nat->Nat->Value):n=s.xs.length->a.isSome=s.nn->n<=c->c<=maxLen->(a=F->n=0/\c=0)->(clip=G->c=n)->
     (∀(i:Nat) x (j:Nat) A,s.xs[i]?=E x->(C.emb T x)[j]?=E A->∃ad:Addr,a=E ad/\Z.cell (ad.add (i * C.size T+j))=E (cell i j))->
     (∀(i:Nat) x (j:Nat) A,s.xs[i]?=E x->(C.emb T x)[j]?=E A->Rv C Z (cell i j) A)->Rv C Z (.slice a n c) (.sl T s clip)
 |pz {T} {x:C.D T} {off:Nat} {ad:Addr} (cell:Nat->Value):(∀(j:Nat) A,(C.emb T x)[j]?=E A->Z.cell (ad.add j)=E (cell j))->
     (∀(j:Nat) A,(C.emb T x)[j]?=E A->Rv C Z (cell j) A)->Rv C Z (.pointer (E (ad.add off))) (.pz T x off)
 |pnil:Rv C Z (.pointer F) .pnil
 |clo {f}:Rv C Z (.func (.func f) #[] #[]) (.clo f [])
 |nilf:Rv C Z .nilFunc .nilf
 |ifc {t u A}:Rv C Z u A->Rv C Z (.iface t u) (.ifc t A)
 |nili:Rv C Z .nilIface .nili
variable {Z τ:FS}
omit [Dfr] in
theorem Rv.mono(l:Z.le τ){v:Value}{A:AV C.D}(h:Rv C Z v A):Rv C τ v A:=by
 induction h with
 |int=>exact .int
 |bool=>exact .bool
 |str=>exact .str
 |sl cell h1 h2 M q m f r Q a=>
  refine .sl cell h1 h2 M q m f (λi x j A hi c=>?_) a;let⟨u,e,B⟩:=r i x j A hi c;exact⟨u,e,l.cell B⟩
 |pz cell h1 h2 a=>exact .pz cell (λj A c=>l.cell (h1 j A c)) a
 |pnil=>exact .pnil
 |clo=>exact .clo
 |nilf=>exact .nilf
 |ifc _ a=>exact .ifc a
 |nili=>exact .nili
omit [Dfr] in
theorem Rv.one{v:Value}{A:AV C.D}(h:Rv C Z v A):v.oneCell'=true:=by cases h<;>rfl
omit [Dfr] in
theorem Rv.leaf{v:Value}{A:AV C.D}(h:Rv C Z v A):A.leaf=true:=by cases h<;>rfl
omit [Dfr] in
def zB(C:Cod)(T:Nat):Ty (C.D T) where
 size:=C.size T
 agg:=C.agg T
 rel Z cs x:=cs.length=C.size T/\∀(j:Nat) A,(C.emb T x)[j]?=E A->∃u,cs[j]?=E u/\Rv C Z u A
 len h:=h.1
 mono l h:=⟨h.1,λj A a=>let⟨u,h1,h2⟩:=h.2 j A a;⟨u,h1,h2.mono l⟩⟩
 one:=by
  intro Z cs x h u e;let⟨j,a⟩:=qH.1 e;have c:=(UC.1 a).1;have:j < (C.emb T x).length:=by rw[C.len,<- h.1];exact c
  let⟨w,h1,h2⟩:=h.2 j _ (UJ this);rw[a] at h1;cases h1;exact h2.one
 sz:=C.sz T
theorem zip{T:Nat}{xs:List (C.D T)}{cs:List Value}:(zB C T).rels Z cs xs↔cs.length=xs.length * C.size T/\∀(i:Nat) x (j:Nat) A,xs[i]?=E x->(C.emb T x)[j]?=E A->∃u,cs[i * C.size T+j]?=E u/\Rv C Z u A:=by
 constructor
 ·intro r;refine⟨(zB C T).rels_len r,λi x j A hi c=>?_⟩;let⟨_,h⟩:=(zB C T).rels_get i r hi;let⟨u,h1,h2⟩:=h j A c;refine⟨u,?_,h2⟩;have a:j < C.size T:=jE
  rw[Dh (show j < (zB C T).size from a),Di] at h1;exact h1
 ·rintro⟨f,h⟩;refine Ty.rels_of f λi x hi=>?_
  have e:=(UC.1 hi).1;refine⟨?_,λj A c=>?_⟩
  ·show(qR (C.size T) (qV (i * C.size T) cs)).length=C.size T;simp only[Dl,UR,f];have:(i+1) * C.size T<=xs.length * C.size T:=Dk _ e;grind
  ·let⟨u,h1,h2⟩:=h i x j A hi c;have a:j < C.size T:=by rw[<- C.len T x];grind
   refine⟨u,?_,h2⟩;show(qR (C.size T) (qV (i * C.size T) cs))[j]?=E u;grind
omit [Dfr] in
theorem Rv.slAt{T:Nat}{s:Sl (C.D T)}{e:Bool}{v:Value}(h:Rv C Z v (.sl T s e)):∃a n c,v = .slice a n c/\slAt (zB C T) Z a n c s/\(e=G->c=n):=by
 cases h with
 | @sl _ _ _ a n c cell h1 h2 U Q R h6 h7 h8=>
  refine⟨a,n,c,rfl,⟨h1,h2,U,Q,R,?_⟩,h6⟩
  let cells:List Value:=(Y (s.xs.length * C.size T)).map λk=>cell (k / C.size T) (k % C.size T)
  have key:∀(i:Nat) x (j:Nat) A,s.xs[i]?=E x->(C.emb T x)[j]?=E A->cells[i * C.size T+j]?=E (cell i j):=by
   intro i x j A hi f;have l:j < C.size T:=by rw[<- C.len T x];grind
   have m:=(UC.1 hi).1;have M:i * C.size T+j < s.xs.length * C.size T:=by
    have:(i+1) * C.size T<=s.xs.length * C.size T:=Dk _ m;grind
   have hd:(i * C.size T+j) / C.size T=i:=by rw[qF,Nat.mul_add_div Zc,Nat.div_eq_of_lt l];rfl
   have r:(i * C.size T+j) % C.size T=j:=by rw[qF,Nat.mul_add_mod,Nat.mod_eq_of_lt l]
   show((Y (s.xs.length * C.size T)).map λk=>cell (k / C.size T) (k % C.size T))[i * C.size T+j]?=E (cell i j);grind
  refine⟨cells,zip.2 ⟨by simp[cells],λi x j A hi f=>⟨_,key i x j A hi f,h8 i x j A hi f⟩⟩,λk u hk=>?_⟩;have q:k < s.xs.length * C.size T:=jE
  have h0:0 < C.size T:=by
   grind
  have hi:k / C.size T < s.xs.length:=by rw[Nat.div_lt_iff_lt_mul h0];exact q
  have r:=Nat.mod_lt k h0;have B:k / C.size T * C.size T+k % C.size T=k:=by rw[qF];exact Nat.div_add_mod k _
  have f:k % C.size T < (C.emb T s.xs[k / C.size T]).length:=by rw[C.len];exact r
  have e1:=key _ _ _ _ (UJ hi) (UJ f);let⟨ad,ha,hc⟩:=h7 _ _ _ _ (UJ hi) (UJ f);grind
theorem Rv.of_slAt{T:Nat}{s:Sl (C.D T)}{e:Bool}{a:U3 Addr}{n c:Nat}(h:Px.slAt (zB C T) Z a n c s)(r:e=G->c=n):Rv C Z (.slice a n c) (.sl T s e):=by
 let⟨h1,h2,u,q,m,cells,f,M⟩:=h;let⟨B,Q⟩:=zip.1 f;refine .sl (λi j=>(cells[i * C.size T+j]?).getD default) h1 h2 u q m r (λi x j A hi l=>?_) (λi x j A hi l=>?_)
 ·grind
 grind
omit [Dfr] in
theorem Rv.vrel{T:Nat}{s:Sl (C.D T)}{e:Bool}{v:Value}(h:Rv C Z v (.sl T s e)):(tSl (zB C T)).vrel Z v s:=by
 obtain⟨a,n,c,rfl,h,_⟩:=h.slAt;exact YS.2 ⟨a,n,c,rfl,h⟩
theorem Rv.of_vrel{T:Nat}{s:Sl (C.D T)}{v:Value}(h:(tSl (zB C T)).vrel Z v s):Rv C Z v (.sl T s N):=by
 obtain⟨a,n,c,rfl,k⟩:=YS.1 h;exact .of_slAt k je
structure Loc where
 a:Addr
 sub:Nat->Value
instance:Inhabited Loc:=⟨⟨default,λ_ =>.slice F 0 0⟩⟩
abbrev Loc.add(l:Loc)(o:Nat):Addr:=l.a.add o
structure Val where
 hdr:Nat->Value
 adr:Nat->Loc
def NX.val(C:Cod)(h:Value):NX->Value
 | .whole=>h
 | .part U lo hi=>vD h lo hi (C.size U)
 | .elem U k off =>.pointer (E (zi h (k.toNat * C.size U+off)))
def zaW(f:Nat):List Value->Value
 |[.tuple a] =>.func (.func f) a #[]
 |vs =>.func (.func f) #[] vs.toArray
theorem zm6(f:Nat){vs:List Value}(h:∀v∈vs,v.oneCell'=G):zaW f vs = .func (.func f) #[] vs.toArray:=by
 unfold zaW;split
 ·rename_i a;have:=h (.tuple a) je;cases this
 ·rfl
theorem zsr(f:Nat)(vs:List Value):(zaW f vs).oneCell'=true:=by
 unfold zaW;split<;>rfl
mutual
def VR(C:Cod)(Z:FS)(ν:Val):Value->AV C.D->Prop
 |v,.row id=>v=ν.hdr id
 |v,.pc id off=>v = .pointer (E ((ν.adr id).add off))
 |v,.pr id T i off=>v = .pointer (E (zi (ν.hdr id) (i.toNat * C.size T+off)))
 |v,.nx id _ i x=>v=x.val C ((ν.adr id).sub i.toNat)/\v.oneCell'=G
 |v,.agg cs=>∃vs:List Value,v = .agg vs.toArray/\VRs C Z ν vs cs
 |v,.tup cs=>∃vs:List Value,v = .tuple vs.toArray/\VRs C Z ν vs cs
 |v,.clo f caps=>∃vs:List Value,v=zaW f vs/\VRs C Z ν vs caps
 |v,.ifc t A=>∃u,v = .iface t u/\VR C Z ν u A
 |_,.und=>True
 |v,.nils=>v = .slice F 0 0
 |v,A=>Rv C Z v A
def VRs(C:Cod)(Z:FS)(ν:Val):List Value->List (AV C.D)->Prop
 |[],[]=>True
 |v::vs,A::As=>VR C Z ν v A/\VRs C Z ν vs As
 |_,_=>False
end
variable {ν:Val}
omit [Dfr] in
theorem VR.mono(l:Z.le τ):∀{A:AV C.D}{v:Value},VR C Z ν v A->VR C τ ν v A
 | .row _,_,h=>h
 | .pc _ _,_,h=>h
 | .pr _ _ _ _,_,h=>h
 | .nx _ _ _ _,_,h=>h
 | .agg cs,_,⟨vs,e,h⟩=>⟨vs,e,go vs cs h⟩
 | .tup cs,_,⟨vs,e,h⟩=>⟨vs,e,go vs cs h⟩
 | .clo _ cs,_,⟨vs,e,h⟩=>⟨vs,e,go vs cs h⟩
 | .ifc _ A,_,⟨u,e,h⟩=>⟨u,e,VR.mono l h⟩
 | .und,_,_=>trivial
 | .nils,_,h=>h
 | .int _ _,_,h=>Rv.mono l h
 | .bool _,_,h=>Rv.mono l h
 | .str _,_,h=>Rv.mono l h
 | .sl _ _ _,_,h=>Rv.mono l h
 | .pz _ _ _,_,h=>Rv.mono l h
 | .pnil,_,h=>Rv.mono l h
 | .nilf,_,h=>Rv.mono l h
 | .nili,_,h=>Rv.mono l h
where go:∀(vs:List Value) (cs:List (AV C.D)),VRs C Z ν vs cs->VRs C τ ν vs cs
 |[],[],_=>trivial
 |_::vs,_::cs,⟨h,k⟩=>⟨VR.mono l h,go vs cs k⟩
 |[],_::_,h=>h.elim
 |_::_,[],h=>h.elim
omit [Dfr] in
theorem VRs.mono(l:Z.le τ){vs:List Value}{cs:List (AV C.D)}(h:VRs C Z ν vs cs):VRs C τ ν vs cs:=VR.mono.go l vs cs h
theorem Rv.vr:∀{A:AV C.D}{v:Value},Rv C Z v A->VR C Z ν v A
 |_,_,h=>by
  induction h with
  |int=>exact .int
  |bool=>exact .bool
  |str=>exact .str
  |sl cell h1 h2 m f e c l q a=>exact Rv.sl cell h1 h2 m f e c l q
  |pz cell h1 h2 a=>exact Rv.pz cell h1 h2
  |pnil=>exact .pnil
  |clo=>exact⟨[],rfl,trivial⟩
  |nilf=>exact .nilf
  |ifc _ a=>exact⟨_,rfl,a⟩
  |nili=>exact .nili
omit [Dfr] in
theorem VR.rv:∀{A:AV C.D}{v:Value},A.base=G->VR C Z ν v A->Rv C Z v A
 | .int _ _,_,_,h=>h
 | .bool _,_,_,h=>h
 | .str _,_,_,h=>h
 | .sl _ _ _,_,_,h=>h
 | .pz _ _ _,_,_,h=>h
 | .pnil,_,_,h=>h
 | .nilf,_,_,h=>h
 | .nili,_,_,h=>h
 | .clo f [],_,_,⟨vs,e,h⟩=>by
  cases vs with
  |nil=>rw[e];exact .clo
  |cons=>exact h.elim
 | .ifc t A,_,hb,⟨u,e,h⟩=>by rw[e];exact .ifc (VR.rv (A:=A) hb h)
omit [Dfr] in
theorem VR.one:∀{A:AV C.D}{v:Value},VR C Z ν v A->A.leaf=G->(∀i,(ν.hdr i).oneCell'=G)->v.oneCell'=G
 | .row _,_,h,_,a=>by rw[h];exact a _
 | .pc _ _,_,h,_,_=>by rw[h];rfl
 | .pr _ _ _ _,_,h,_,_=>by rw[h];rfl
 | .nx _ _ _ _,_,h,_,_=>h.2
 | .clo _ cs,_,⟨vs,e,h⟩,_,_=>by rw[e];exact zsr _ _
 | .ifc _ A,_,⟨u,e,h⟩,_,_=>by rw[e];rfl
 | .nils,_,h,_,_=>by rw[h];rfl
 | .int _ _,_,h,_,_=>Rv.one h
 | .bool _,_,h,_,_=>Rv.one h
 | .str _,_,h,_,_=>Rv.one h
 | .sl _ _ _,_,h,_,_=>Rv.one h
 | .pz _ _ _,_,h,_,_=>Rv.one h
 | .pnil,_,h,_,_=>Rv.one h
 | .nilf,_,h,_,_=>Rv.one h
 | .nili,_,h,_,_=>Rv.one h
omit [Dfr] in
theorem VRs.len:∀{vs:List Value}{cs:List (AV C.D)},VRs C Z ν vs cs->vs.length=cs.length
 |[],[],_=>rfl
 |_::vs,_::cs,⟨_,k⟩=>by simp[VRs.len k]
 |[],_::_,h=>h.elim
 |_::_,[],h=>h.elim
omit [Dfr] in
theorem VRs.get:∀{vs:List Value}{cs:List (AV C.D)},VRs C Z ν vs cs->∀(j:Nat) A,cs[j]?=E A->∃u,vs[j]?=E u/\VR C Z ν u A
 |[],[],_,j,A,h=>by simp at h
 |v::vs,B::cs,⟨h,k⟩,0,A,e=>jE
 |v::vs,B::cs,⟨h,k⟩,j+1,A,e=>by simpa using k.get j A (by simpa using e)
 |[],_::_,h,_,_,_=>h.elim
 |_::_,[],h,_,_,_=>h.elim
omit [Dfr] in
theorem VRs.of:∀{vs:List Value}{cs:List (AV C.D)},vs.length=cs.length->(∀(j:Nat) u A,vs[j]?=E u->cs[j]?=E A->VR C Z ν u A)->VRs C Z ν vs cs
 |[],[],_,_=>trivial
 |v::vs,B::cs,hl,h=>⟨h 0 v B rfl rfl,VRs.of (by simpa using hl) λj u A h1 h2=>h (j+1) u A (by simpa using h1) (by simpa using h2)⟩
 |[],_::_,hl,_=>by simp at hl
 |_::_,[],hl,_=>by simp at hl
omit [Dfr] in
theorem VRs.rel{vs:List Value}{cs:List (AV C.D)}(h:VRs C Z ν vs cs){j:Nat}{u:Value}{A:AV C.D}(h1:vs[j]?=E u)(h2:cs[j]?=E A):VR C Z ν u A:=by
 let⟨w,e,k⟩:=h.get j A h2;grind
omit [Dfr] in
theorem VRs.drop{vs:List Value}{cs:List (AV C.D)}(h:VRs C Z ν vs cs)(m:Nat):VRs C Z ν (vs.drop m) (cs.drop m):=
 .of (by simp[h.len]) λj u A h1 h2=>h.rel (j:=m+j) (by simpa using h1) (by simpa using h2)
omit [Dfr] in
theorem VRs.take{vs:List Value}{cs:List (AV C.D)}(h:VRs C Z ν vs cs)(m:Nat):VRs C Z ν (vs.take m) (cs.take m):=
 .of (by simp[h.len]) λj u A h1 h2=>by
  rw[List.getElem?_take] at h1 h2;split at h1
  ·rename_i a;rw[jv a] at h2;exact h.rel h1 h2
  ·cases h1
omit [Dfr] in
theorem VRs.append:∀{vs us:List Value}{cs ds:List (AV C.D)},VRs C Z ν vs cs->VRs C Z ν us ds->VRs C Z ν (vs++us) (cs++ds)
 |[],_,[],_,_,k=>k
 |_::vs,_,_::cs,_,⟨h,h'⟩,k=>⟨h,VRs.append h' k⟩
 |[],_,_::_,_,h,_=>h.elim
 |_::_,_,[],_,h,_=>h.elim
def zt{D:Nat->Type}:AV D->List (AV D)
 | .agg cs=>cs
 |v=>[v]
def zbC{D:Nat->Type}(agg:Bool)(cs:List (AV D)):AV D:=bif agg then .agg cs else match cs with
 |[c]=>c
 |_ =>.und
omit [Dfr] in
theorem VRs.val{vs:List Value}{cs:List (AV C.D)}{agg:Bool}(h:VRs C Z ν vs cs):VR C Z ν (yF agg vs) (zbC agg cs):=by
 cases agg with
 |true=>exact⟨vs,rfl,h⟩
 |false=>
  match vs,cs,h with
  |[],[],_=>trivial
  |[u],[A],h=>exact h.1
  |_::_::_,_::_::_,h=>trivial
omit [Dfr] in
theorem VR.cells:∀{A:AV C.D}{v:Value},VR C Z ν v A->A.leaf=G\/(∃cs,A = .agg cs)->(∀i,(ν.hdr i).oneCell'=G)->VRs C Z ν v.cells.toList (zt A):=by
 intro A v h a c;rcases a with a | ⟨cs,rfl⟩
 ·have:=h.one a c;have e:v.cells.toList=[v]:=by cases v<;>simp_all[qN,qo]
  have f:zt A=[A]:=by cases A<;>first | rfl | cases a
  rw[e,f];exact⟨h,trivial⟩
 ·obtain⟨vs,rfl,h⟩:=h;simpa[qo,zt] using h
end
end
section
variable [Dfr]
inductive Own where
 |all
 |out (i:Int)
 |upto (k:Int)
 |fix
def Own.fl:Own->Nat->Nat
 | .all,_=>1
 | .out i,j=>if j=i.toNat then 2 else 1
 | .upto k,j=>if j < k.toNat then 1 else 0
 | .fix,_=>1
section
variable {C:Cod}{Z τ:FS}{ν:Val}
def Zn(C:Cod)(T:Nat)(x:C.D T):AV C.D:=((C.emb T x)[C.nst T]?).getD .und
def Yb(C:Cod)(T:Nat)(Z:FS)(h:zc)(cs:List Value)(p:C.D T×Nat×Value):Prop:=
 cs.length=C.size T/\(∀u∈cs,u.oneCell'=G)/\(∀(j:Nat) A,(C.emb T p.1)[j]?=E A->j≠C.nst T->∃u,cs[j]?=E u/\Rv C Z u A)/\cs[C.nst T]?=E p.2.2/\
 (p.2.1=0->Rv C Z p.2.2 (Zn C T p.1))/\(p.2.1=1->∃U s,Zn C T p.1 = .sl U s N/\zn (zB C U).o U p.2.2 s Z h)
omit [Dfr] in
theorem Yb.mono{T:Nat}{h g:zc}{cs:List Value}{p:C.D T×Nat×Value}(l:Z.le τ)(m:h.le g)(r:Yb C T Z h cs p):Yb C T τ g cs p:=by
 let⟨h1,h2,R,M,B,f⟩:=r;refine⟨h1,h2,λj A q Q=>?_,M,λe=>(B e).mono l,λe=>?_⟩
 ·let⟨u,c,a⟩:=R j A q Q;exact⟨u,c,a.mono l⟩
 ·let⟨U,s,c,a⟩:=f e;exact⟨U,s,c,a.mono l m⟩
def Zd(C:Cod)(T:Nat):OTy (C.D T×Nat×Value) where
 size:=C.size T
 agg:=C.agg T
 rel Z h cs p:=Yb C T Z h cs p
 len h:=h.1
 mono l m r:=r.mono l m
 one r:=r.2.1
 sz:=C.sz T
theorem Yb.nlt{T:Nat}{h:zc}{cs:List Value}{p:C.D T×Nat×Value}(r:Yb C T Z h cs p):C.nst T < C.size T:=by
 have:=(UC.1 r.2.2.2.1).1;rw[<- r.1];exact this
def zfk(C:Cod)(T:Nat)(x:C.D T)(id:Nat)(i:Int):List (AV C.D):=(C.emb T x).set (C.nst T) (.nx id T i .whole)
theorem Yb.vrs{T id:Nat}{i:Int}{x:C.D T}{f:Nat}{h:zc}{cs:List Value}(r:Yb C T Z h cs (x,f,(ν.adr id).sub i.toNat)):VRs C Z ν cs (zfk C T x id i):=by
 refine .of (by rw[r.1,zfk,List.length_set,C.len]) λj u A h1 h2=>?_
 unfold zfk at h2;rw[UI] at h2;split at h2
 ·rename_i e;subst e;split at h2
  ·cases h2;have c:=r.2.2.2.1;rw[h1] at c;refine⟨W.inj c,?_⟩;exact r.2.1 u (UT h1)
  ·cases h2
 ·rename_i e;let⟨w,a,l⟩:=r.2.2.1 j A h2 (λe'=>e e'.symm);rw[h1] at a;cases a;exact l.vr
def hpl(C:Cod)(T:Nat)(sub:Nat->Value)(s:Sl (C.D T))(g:Own):Sl (C.D T×Nat×Value):=⟨s.xs.mapIdx λj x=>(x,g.fl j,sub j),s.nn⟩
theorem WM{T:Nat}{sub:Nat->Value}{s:Sl (C.D T)}{g:Own}:(hpl C T sub s g).xs.length=s.xs.length:=by simp[hpl]
theorem zqD{T:Nat}{sub:Nat->Value}{s:Sl (C.D T)}{g:Own}:(hpl C T sub s g).len=s.len:=by simp[hpl,Sl.len]
theorem WN{T:Nat}{sub:Nat->Value}{s:Sl (C.D T)}{g:Own}{i:Int}{q:C.D T}(h:za s i=E q):za (hpl C T sub s g) i=E (q,g.fl i.toNat,sub i.toNat):=by
 let⟨h0,h1⟩:=yP.1 h;exact yP.2 ⟨h0,by simp[hpl,h1]⟩
theorem zd6 {T:Nat}{sub sub':Nat->Value}{s:Sl (C.D T)}{g g':Own}{i:Int}{q':C.D T}(h1:∀j,j < s.xs.length->j≠i.toNat->g'.fl j=g.fl j/\sub' j=sub j) :
    (hpl C T sub s g).set i (q',g'.fl i.toNat,sub' i.toNat)=hpl C T sub' (s.set i q') g':=by
 unfold hpl Sl.set;congr 1;apply UH;intro j;rw[UI,Du,Du,UI];by_cases e:i.toNat=j
 ·grind
 · rw[jx e,jx e];cases a:s.xs[j]? with
   |none=>rfl
   |some y=>
    grind
theorem zc7{T:Nat}{sub sub':Nat->Value}{s:Sl (C.D T)}{g g':Own}(h:∀j,j < s.xs.length->g.fl j=g'.fl j/\sub j=sub' j):hpl C T sub s g=hpl C T sub' s g':=by
 unfold hpl;congr 1;apply UH;intro j;rw[Du,Du];cases a:s.xs[j]? with
 |none=>rfl
 |some y=>
  grind
def Own.rd:Own->Bool
 | .out _=>N
 |_=>G
theorem Own.rd_fl{g:Own}(h:g.rd=G)(j:Nat):g.fl j=0\/g.fl j=1:=by
 cases g with
 |all=>exact .inr rfl
 |out i=>cases h
 |upto k=>unfold Own.fl;grind
 |fix=>exact .inr rfl
def SlR(C:Cod)(Z:FS)(w:World)(v:Value)(U:Nat)(u:Sl (C.D U)):Prop:=(∃c,Rv C Z v (.sl U u c))\/∃h,zn (zB C U).o U v u Z h/\h.sub w
theorem Yb.slr{T:Nat}{x:C.D T}{f:Nat}{v:Value}{h:zc}{cs:List Value}{w:World}{U:Nat}{u:Sl (C.D U)}{c:Bool}(r:Yb C T Z h cs (x,f,v))(a:f=0\/f=1)(hs:h.sub w)(q:Zn C T x = .sl U u c):SlR C Z w v U u:=by
 let⟨_,_,_,_,m,l⟩:=r;rcases a with e | e
 ·left;grind
 ·right;grind
theorem ziq {T:Nat}{sub:Nat->Value}{s:Sl (C.D T)}{g:Own}{v:Value}{h:zc}{w:World}{i:Int}{q:C.D T}(m:zn (Zd C T) T v (hpl C T sub s g) Z h) (hs:h.sub w) (M:za s i=E q) :
    ∃cs k,Yb C T Z k cs (q,g.fl i.toNat,sub i.toNat)/\k.sub w/\∀(j:Nat) (u:Value),cs[j]?=E u->w.cell? ((zi v (i.toNat * C.size T)).add j)=E u:=by
 let⟨h1,h2,m1,Q,R,c,d⟩:=(VB (v:=v) (e:=T) (i:=i) m (WN M)).uncons;let⟨cs,c1,c2,f,B,U,r,a⟩:=Q.one_of;have a:Yb C T Z c2 cs (q,g.fl i.toNat,sub i.toNat):=a;refine⟨cs,c2,a,hs.mono (B.trans c),λj u l=>?_⟩;exact r.cell (hs.mono (f.trans c)) l
def zhr(C:Cod)(T:Nat):Ty (C.D T×Nat×Value) where
 size:=C.size T
 agg:=C.agg T
 rel Z cs p:=cs.length=C.size T/\(∀u∈cs,u.oneCell'=G)/\cs[C.nst T]?=E p.2.2/\(p.2.1=0\/p.2.1=1->(zB C T).rel Z cs p.1)
 len h:=h.1
 mono l h:=⟨h.1,h.2.1,h.2.2.1,λe=>(zB C T).mono l (h.2.2.2 e)⟩
 one h:=h.2.1
 sz:=C.sz T
omit [Dfr] in
theorem Yb.fast{T:Nat}{h:zc}{cs:List Value}{p:C.D T×Nat×Value}(l:Z.le τ)(Q:∀b o v,h b (o+1)=E (.cell v)->τ b o=E v)(r:Yb C T Z h cs p)(e:p.2.1=0\/p.2.1=1):(zB C T).rel τ cs p.1:=by
 let⟨h1,h2,R,M,B,q⟩:=r;refine⟨h1,λj A f=>?_⟩;by_cases m:j=C.nst T
 ·subst m;refine⟨_,M,?_⟩;have hA:Zn C T p.1=A:=by unfold Zn;rw[f];rfl
  rcases e with e | e
  ·rw[<- hA];exact(B e).mono l
  ·let⟨U,s,c,a⟩:=q e;rw[<- hA,c];exact Rv.of_vrel (a.fast l Q)
 ·let⟨u,c,a⟩:=R j A f m;exact⟨u,c,a.mono l⟩
instance (T:Nat):Frz (Zd C T) (zhr C T):=⟨rfl,rfl,λl a r=>⟨r.1,r.2.1,r.2.2.2.1,λe=>Yb.fast l a r e⟩⟩
theorem zkv{T:Nat}{sub:Nat->Value}{s:Sl (C.D T)}{g:Own}{v:Value}(u:g.rd=G)(h:(tSl (zhr C T)).vrel τ v (hpl C T sub s g)):(tSl (zB C T)).vrel τ v s:=by
 let⟨a,n,c,e,h1,h2,B,r,q,cells,f,m⟩:=YS.1 h;rw[WM] at h1;refine YS.2 ⟨a,n,c,e,h1,h2,B,r,q,cells,?_,m⟩;refine Ty.rels_of (by rw[(zhr C T).rels_len f,WM];rfl) λi x l=>?_
 have:=(zhr C T).rels_get i f (x:=(x,g.fl i,sub i)) (by simp[hpl,l]);exact this.2.2.2 (Own.rd_fl u i)
theorem zwi{T:Nat}{sub:Nat->Value}{s:Sl (C.D T)}{g:Own}{v:Value}(hg:g.rd=G)(h:(tSl (zhr C T)).vrel τ v (hpl C T sub s g)){i:Int}{q:C.D T}(B:za s i=E q){U:Nat}{u:Sl (C.D U)}{c:Bool}(l:Zn C T q = .sl U u c):Rv C τ (sub i.toNat) (.sl U u c):=by
 let⟨a,n,c',e,h1,h2,h3,h4,h5,cells,R,h7⟩:=YS.1 h;let⟨_,m⟩:=yP.1 B;have M:=(zhr C T).rels_get i.toNat R (x:=(q,g.fl i.toNat,sub i.toNat)) (by simp[hpl,m]);let⟨k1,k2,k3,k4⟩:=M;have r:=k4 (Own.rd_fl hg _);have Q:Zn C T q ≠.und:=jE
 unfold Zn at l Q;cases f:(C.emb T q)[C.nst T]? with
 |none=>grind
 |some A=>
  rw[f] at l;have l:A = .sl U u c:=l;let⟨w,e1,e2⟩:=r.2 _ _ f;grind
end
end
section
variable [Dfr]
inductive Ent(C:Cod) where
 |cell (cs:List (AV C.D))
 |row (T:Nat) (s:Sl (C.D T))
 |obj (k T:Nat) (b:ByteArray) (s:Sl (C.D T))
 |orow (T:Nat) (s:Sl (C.D T)) (g:Own)
def Own.isFix:Own->Bool
 | .fix=>G
 |_=>N
def Z0{C:Cod}:U3 (Ent C)->Bool
 |some (.orow _ _ g)=>g.isFix
 |_=>N
structure St(C:Cod) where
 env:Nat->AV C.D
 heap:Nat->U3 (Ent C)
def upd{α:Type}(f:Nat->α)(i:Nat)(v:α):Nat->α:=λj=>bif I j i then v else f j
theorem zp{α:Type}{f:Nat->α}{i:Nat}{v:α}:upd f i v i=v:=by simp[upd]
theorem zq{α:Type}{f:Nat->α}{i j:Nat}{v:α}(h:j≠i):upd f i v j=f j:=by
 unfold upd;cases e:I j i with
 |true=>exact absurd (ge e) h
 |false=>rfl
def chk{α:Type}(b:Bool)(x:U3 α):U3 α:=bif b then x else F
theorem zb{α:Type}{b:Bool}{x:U3 α}{y:α}(h:chk b x=E y):b=G/\x=E y:=by
 cases b with
 |true=>exact⟨rfl,h⟩
 |false=>cases h
section
variable {C:Cod}
def St.put(S:St C)(d:Nat)(v:AV C.D):St C:={S with env:=upd S.env d v}
def ZY{D:Nat->Type}:Value->AV D
 | .int k n =>.int k n
 | .bool b =>.bool b
 | .string s =>.str s
 | .pointer F =>.pnil
 | .slice F 0 0 =>.nils
 | .nilFunc =>.nilf
 | .nilIface =>.nili
 |_ =>.und
def zbD{D:Nat->Type}:Value->AV D
 | .agg a =>.agg (a.toList.map ZY)
 |v=>ZY v
def St.op(S:St C):Operand->AV C.D
 | .tmp t=>S.env t
 | .const v=>zbD v
 | .func f =>.clo f []
 | .global _ =>.und
omit [Dfr] in
def zK(C:Cod)(ν:Val)(vs:Nat->List Value)(id:Nat):U3 (Ent C)->Priv
 |some (.cell _) =>.cell (ν.adr id).a (vs id)
 |some (.row T s) =>.row (zB C T).o T (ν.hdr id) s
 |some (.obj k T b s)=>C.opv k T (ν.hdr id) (ν.adr id).a b s
 |some (.orow T s g) =>.row (Zd C T) T (ν.hdr id) (hpl C T (ν.adr id).sub s g)
 |none =>.cell default []
omit [Dfr] in
structure Abs(S:St C)(ν:Val)(vs:Nat->List Value)(ids:List Nat)(L:List (Nat×Value))(b:Nat->Value)(Z:FS)(PV:List Priv):Prop where
 nd:ids.Nodup
 dom:∀id,id∈ids↔(S.heap id).isSome=G
 pv:PV=ids.map λid=>zK C ν vs id (S.heap id)
 cell:∀id cs,S.heap id=E (.cell cs)->VRs C Z ν (vs id) cs
 env:∀t,VR C Z ν (look L b t) (S.env t)
 one:∀i,(ν.hdr i).oneCell'=G
variable {S:St C}{ν:Val}{vs:Nat->List Value}{ids:List Nat}{L:List (Nat×Value)}{b:Nat->Value}{Z:FS}{PV:List Priv}{P:Program}
omit [Dfr] in
theorem Abs.at(h:Abs S ν vs ids L b Z PV){id:Nat}{e:Ent C}(a:S.heap id=E e):∃m:Nat,PV[m]?=E (zK C ν vs id (E e))/\ids[m]?=E id:=by
 let⟨m,c⟩:=qH.1 ((h.dom id).2 (by rw[a];rfl));exact⟨m,by rw[h.pv,UA,c,UB,a],c⟩
theorem zbE:∀v:Value,VR C Z ν v (ZY v)
 | .int _ _=>Rv.int
 | .bool _=>Rv.bool
 | .string _=>Rv.str
 | .pointer F=>Rv.pnil
 | .slice F 0 0=>by unfold ZY VR;rfl
 | .nilFunc=>Rv.nilf
 | .nilIface=>Rv.nili
 | .float .. | .complex .. | .pointer (E _) | .map _ | .chan _ | .func .. | .iface .. | .agg _ | .tuple _=>by unfold ZY;trivial
 | .slice (E _) _ _=>by unfold ZY;trivial
 | .slice F (n+1) _=>by unfold ZY;trivial
 | .slice F 0 (n+1)=>by unfold ZY;trivial
theorem xM:∀l:List Value,VRs C Z ν l (l.map ZY)
 |[]=>trivial
 |v::l=>⟨zbE v,xM l⟩
theorem zkw(v:Value):VR C Z ν v (zbD v):=by
 cases v<;>first | exact zbE _ | exact⟨_,rfl,xM _⟩
omit [Dfr] in
theorem Abs.op(h:Abs S ν vs ids L b Z PV)(x:Operand):VR C Z ν (opv L b x) (S.op x):=by
 cases x with
 |tmp t=>exact h.env t
 |const v=>exact zkw v
 |global g=>trivial
 |func f=>exact⟨[],rfl,trivial⟩
def Yl(P:Program)(Z:FS)(PV:List Priv)(L:List (Nat×Value))(b:Nat->Value)(o:Oper)(R:Value->Prop):Prop:=
 ∀w,Y7 Z PV w->∃v,(execOp (opv L b) o).run P w = .ok (.value v) w/\R v
omit [Dfr] in
theorem Yl.of{o:Oper}{R:Value->Prop}{v:Value}(h:z8 P Z PV L b o v)(a:R v):Yl P Z PV L b o R:=λw c=>⟨v,h w c,a⟩
theorem Yl.ok{ρ:Type}{n:Nat}{w0:Start}{σ0:FS}{p:U3 ρ}{H:U3 ρ->List (Nat×Value)->FS->List Priv->Prop}{o:Oper}{R:Value->Prop}{d:Nat}(f:O d n=G)(hd:o.dst=E d)(h:Yl P Z PV L b o R)(l:∀v,R v->H p ((d,v)::L) Z PV):Xl P n w0 σ0 o p L b Z PV H:=by
 intro r hp a w hi c K Q e;let⟨v,h1,h2⟩:=h w hi.held;unfold qc;rw[c.eval,h1,qA,hd];exact e p _ Z PV _ w hp hi (c.put (by simpa[Da] using f) v) (l v h2)
theorem VR.int_inv{v:Value}{k:IntKind}{n:Int}(h:VR C Z ν v (.int k n)):v = .int k n:=by
 have:Rv C Z v (.int k n):=h;cases this;rfl
theorem VR.bool_inv{v:Value}{e:Bool}(h:VR C Z ν v (.bool e)):v = .bool e:=by
 have:Rv C Z v (.bool e):=h;cases this;rfl
theorem VR.str_inv{v:Value}{s:ByteArray}(h:VR C Z ν v (.str s)):v = .string s:=by
 have:Rv C Z v (.str s):=h;cases this;rfl
theorem VR.pnil_inv{v:Value}(h:VR C Z ν v .pnil):v = .pointer none:=by
 have:Rv C Z v .pnil:=h;cases this;rfl
theorem VR.nili_inv{v:Value}(h:VR C Z ν v .nili):v = .nilIface:=by
 have:Rv C Z v .nili:=h;cases this;rfl
theorem VR.sl_vrel{v:Value}{T:Nat}{s:Sl (C.D T)}{c:Bool}(h:VR C Z ν v (.sl T s c)):(tSl (zB C T)).vrel Z v s:=Rv.vrel (show Rv C Z v (.sl T s c) from h)
theorem VR.pz_inv{v:Value}{T:Nat}{x:C.D T}{off:Nat}(h:VR C Z ν v (.pz T x off)):∃(a:Addr) (cell:Nat->Value),v = .pointer (E (a.add off))/\(∀(j:Nat) A,(C.emb T x)[j]?=E A->Z.cell (a.add j)=E (cell j))/\∀(j:Nat) A,(C.emb T x)[j]?=E A->Rv C Z (cell j) A:=by
 have:Rv C Z v (.pz T x off):=h;cases this with
 |pz cell h1 h2=>exact⟨_,cell,rfl,h1,h2⟩
def zd7(b:BinOp)(k:IntKind)(i j:Int):U3 (AV C.D):=
 match b with
 | .add=>E (.int k (k.wrap (i+j)))
 | .sub=>E (.int k (k.wrap (i - j)))
 | .mul=>E (.int k (k.wrap (i * j)))
 | .quo=>(zkj k i j).bind λq=>E (.int k q)
 | .rem=>(zkk k i j).bind λq=>E (.int k q)
 | .lss=>E (.bool (decide (i < j)))
 | .leq=>E (.bool (decide (i<=j)))
 | .gtr=>E (.bool (decide (j < i)))
 | .geq=>E (.bool (decide (j<=i)))
 | .eql=>E (.bool (decide (i=j)))
 | .neq=>E (.bool (decide (i≠j)))
 |_=>F
theorem zss {bo:BinOp}{k:IntKind}{i j:Int}{A:AV C.D}{t t' ty:TypeId}{x y:Operand}{d:Nat}{ps:String}{af:Array Edge}{g:U3 (Nat×Bool)}(h:zd7 bo k i j=E A) (a:opv L b x = .int k i) (c:opv L b y = .int k j) :
    Yl P Z PV L b ⟨E d,.binOp bo t x y t',ty,ps,af,g⟩ (λv=>VR C Z ν v A):=by
 cases bo<;>simp only[zd7] at h<;>try (cases h;done)
 case add=>cases h;exact .of (zzX a c) Rv.int
 case sub=>cases h;exact .of (zzY a c) Rv.int
 case mul=>cases h;exact .of (zzZ a c) Rv.int
 case quo=>
   cases e:zkj k i j with
   |none=>grind
   |some q=>rw[e] at h;cases h;exact .of (zz6 a c e) Rv.int
 case rem=>
   cases e:zkk k i j with
   |none=>grind
   |some q=>rw[e] at h;cases h;exact .of (zz7 a c e) Rv.int
 case lss=>cases h;exact .of (zz0 a c) Rv.bool
 case leq=>cases h;exact .of (zz1 a c) Rv.bool
 case gtr=>cases h;exact .of (zz2 a c) Rv.bool
 case geq=>cases h;exact .of (zz3 a c) Rv.bool
 case eql=>cases h;exact .of (zz4 a c) Rv.bool
 case neq=>cases h;exact .of (zz5 a c) Rv.bool
def zn3(P:Program)(e:TypeId->AV C.D->AV C.D->U3 Bool)(xs c:List (AV C.D)):List Field->U3 Bool
 |[]=>E G
 |fd::fs=>match P.underlying fd.type,P.info? fd.type with
  | some a, E ti => chk (fd.name != "_" && (I ((xs.drop fd.offset).take ti.size).length ti.size && (I ((c.drop fd.offset).take ti.size).length ti.size && (Zh a || I ti.size 1)))) <|
   match e fd.type (zbC (Zh a) ((xs.drop fd.offset).take ti.size)) (zbC (Zh a) ((c.drop fd.offset).take ti.size)),zn3 P e xs c fs with
   |some f,E h=>E (f && h)
   |_,_=>F
  |_,_=>F
def eqA(P:Program):Nat->TypeId->AV C.D->AV C.D->U3 Bool
 |0,_,_,_=>F
 |f+1,t,A,B=>match P.underlying t,A,B with
  |some (.int _),.int a i,.int c j=>chk (decide (a=c)) (E (decide (i=j)))
  |some .bool,.bool i,.bool j=>E (decide (i=j))
  |some .string,.str i,.str j=>E (decide (i=j))
  |some (.struct fs),.agg xs,.agg e=>chk (!P.stoodInHeld t) (zn3 P (eqA P f) xs e fs.toList)
  |_,_,_=>F
theorem zwj{t:TypeId}{k a:IntKind}{i j:Int}(c:P.underlying t=E (.int k))(f:Nat):Yi P t (f+1) (.int a i) (.int a j) (decide (i=j)):=λm w=>by
 have:(i == j)=decide (i=j):=jE
 rw[(Zc:m+(f+1)=(m+f)+1)];simp[qv,UV c,this]
theorem zqE:∀{f:Nat}{t:TypeId}{A B:AV C.D}{r:Bool},eqA P f t A B=E r->∀{u v:Value},VR C Z ν u A->VR C Z ν v B->Yi P t f u v r:=by
 intro f
 induction f with
 |zero=>intro t A B r h;simp[eqA] at h
 |succ f ih=>
  intro t A B r h u v Q M;unfold eqA at h;split at h
  ·rename_i e;let⟨hk,h⟩:=zb h;cases h;obtain rfl:=Dv hk;rw[Q.int_inv,M.int_inv];exact zwj e f
  ·rename_i e;cases h;rw[Q.bool_inv,M.bool_inv];exact(Yi.bool e).mono Zc
  ·rename_i e;cases h;rw[Q.str_inv,M.str_inv];exact(Yi.str e).mono Zc
  ·rename_i fs xs ys e;let⟨hh,a⟩:=zb h;clear h;simp only[Dw] at hh;obtain⟨us,rfl,m⟩:=Q;obtain⟨ws,rfl,c⟩:=M;refine Yi.struct e hh ?_;generalize fs.toList=l at a;clear e
   induction l generalizing r with
   |nil=>simp only[zn3] at a;cases a;rfl
   |cons fd l R=>
    simp only[zn3] at a;split at a
    ·rename_i td ti q hi;let⟨hc,h⟩:=zb a;split at h
     ·rename_i r1 r2 e1 e2;cases h;simp only[gf,bne_iff_ne,UO] at hc;let⟨h1,h2,U,h4⟩:=hc;have h2:=ge h2;have U:=ge U;have h5:Zh td=N->ti.size=1:=λh=>by rw[h] at h4;exact ge (by simpa using h4)
      exact⟨_,_,r1,r2,zks q hi rfl (by rw[<- h2];simp[m.len]) h5 rfl,zks q hi rfl (by rw[<- U];simp[c.len]) h5 rfl,h1,ih e1 ((m.drop _).take _).val ((c.drop _).take _).val,R e2,rfl⟩
     ·cases h
    ·cases a
  ·cases h
end
end
section
variable [Dfr]
section
variable {C:Cod}{S:St C}{ν:Val}{vs:Nat->List Value}{ids:List Nat}{L:List (Nat×Value)}{b:Nat->Value}{Z:FS}{PV:List Priv}{P:Program}
variable {t t' ty:TypeId}{x y z:Operand}{d:Nat}{ps:String}{af:Array Edge}{g:U3 (Nat×Bool)}{A:AV C.D}
def zc8(P:Program)(ty:TypeId)(A:AV C.D):AV C.D:=A
theorem zkx{T:Nat}:VR C Z ν (.slice F 0 0) (.sl T ⟨[],N⟩ G):=
 Rv.sl (λ_ _=>default) rfl rfl (UK _) (UL _) (λ_=>⟨rfl,rfl⟩) (λ_=>rfl) (λi x j A h=>by simp at h) (λi x j A h=>by simp at h)
theorem zc9{v:Value}(h:VR C Z ν v A):VR C Z ν v (zc8 P ty A):=h
def Yz(P:Program)(t:TypeId)(cs:List (AV C.D))(off:Nat):U3 (AV C.D):=
 match P.underlying t,P.info? t with
 |some a,E ti=>chk (I ((cs.drop off).take ti.size).length ti.size && (Zh a || I ti.size 1)) (E (zbC (Zh a) ((cs.drop off).take ti.size)))
 |_,_=>F
theorem zaf{cs:List (AV C.D)}{off:Nat}(h:Yz P t cs off=E A):∃a ti,P.underlying t=E a/\P.info? t=E ti/\((cs.drop off).take ti.size).length=ti.size/\(Zh a=N->ti.size=1)/\A=zbC (Zh a) ((cs.drop off).take ti.size):=by
 unfold Yz at h;split at h
 ·rename_i a ti f hi;let⟨c,h⟩:=zb h;simp only[gf,UO] at c;cases h;exact⟨a,ti,f,hi,ge c.1,λe=>by have:=c.2;rw[e] at this;exact ge jE,rfl⟩
 ·cases h
theorem w8 {a:Addr}{off:Nat}{c:List Value}{cs:List (AV C.D)}(h:Yz P t cs off=E A) (Q:c.length=cs.length) (r:opv L b x = .pointer (E (a.add off))) {w:World}
    (R:∀(j:Nat) (u:Value),c[j]?=E u->w.cell? (a.add j)=E u) (m:∀agg,VR C Z ν (yF agg ((c.drop off).take (match P.info? t with | some ti=>ti.size | none=>0))) (zbC agg ((cs.drop off).take (match P.info? t with | some ti=>ti.size | none=>0)))) :
    ∃v,(execOp (opv L b) ⟨E d,.load t x,ty,ps,af,g⟩).run P w = .ok (.value v) w/\VR C Z ν v A:=by
 obtain⟨q,ti,M,hi,h1,h2,rfl⟩:=zaf h;rw[hi] at m;have f:((c.drop off).take ti.size).length=ti.size:=jE
 refine⟨_,?_,m (Zh q)⟩
 have:=vU (P:=P) (w:=w) (a.add off) ((c.drop off).take ti.size) M hi f.symm (λe=>jE) (λj u B=>by
  have l:j < ti.size:=by
   grind
  rw[Dh l,Di] at B
  rw[Addr.add_add];grind)
 simp[execOp,r,Instr.loadAt,qW,this]
def zM{α:Type}(S:St C)(id T:Nat)(i:Int)(K:(U:Nat)->Sl (C.D U)->U3 α):U3 α:=match S.heap id with
 |some (.orow T' s g)=>chk (I T T' && g.rd) ((za s i).bind λq=>match Zn C T' q with
  | .sl U u _=>K U u
  |_=>F)
 |_=>F
theorem xO {α:Type}(hA:Abs S ν vs ids L b Z PV) {id T:Nat}{i:Int}{K:(U:Nat)->Sl (C.D U)->U3 α}{a:α}(h:zM S id T i K=E a) :
    ∃U u,K U u=E a/\∀w,Y7 Z PV w->SlR C Z w ((ν.adr id).sub i.toNat) U u:=by
 unfold zM at h;split at h
 · rename_i T' s g hs;let⟨l,h⟩:=zb h;simp only[gf] at l;let⟨q,Q,h⟩:=gd h;split at h
   ·rename_i U u c B;refine⟨U,u,h,λw hw=>?_⟩;let⟨m,M,_⟩:=hA.at hs;let⟨r,f,e⟩:=hw.get M;have f:zn (Zd C T') T' (ν.hdr id) (hpl C T' (ν.adr id).sub s g) Z r:=f;let⟨cs,k,R,k2,_⟩:=ziq (w:=w) f e Q;exact R.slr (Own.rd_fl l.2 _) k2 B
   ·cases h
 ·cases h
omit [Dfr] in
theorem SlR.cases{w:World}{v:Value}{U:Nat}{u:Sl (C.D U)}(h:SlR C Z w v U u)(a:Y7 Z PV w):(tSl (zB C U)).vrel Z v u\/Y7 Z [.row (zB C U).o U v u] w:=by
 rcases h with⟨c,h⟩ | ⟨h,h1,h2⟩
 ·exact .inl h.vrel
 ·exact .inr ⟨a.1,h,Sep.one h1,h2⟩
omit [Dfr] in
theorem SlR.form{w:World}{v:Value}{U:Nat}{u:Sl (C.D U)}(h:SlR C Z w v U u)(Q:Y7 Z PV w):∃a c,v = .slice a u.xs.length c/\(a=F->u.xs.length=0)/\u.xs.length<=c:=by
 rcases h.cases Q with e | e
 ·obtain⟨a,n,c,rfl,k1,M,l,r,f,_⟩:=YS.1 e;grind
 ·let⟨R,B,_⟩:=e.get (m:=0) rfl;obtain⟨a,c,rfl,M,l,q,r,f⟩:=zn.form B;grind
def x9(P:Program)(S:St C)(t:TypeId):AV C.D->U3 (AV C.D)
 | .pc id off=>match S.heap id with
  |some (.cell cs)=>Yz P t cs off
  |_=>F
 | .pz T x off=>Yz P t (C.emb T x) off
 | .pr id T i off=>match S.heap id with
  |some (.row T' s)=>chk (I T T') ((za s i).bind λx=>Yz P t (C.emb T' x) off)
  |some (.orow T' s g)=>chk (I T T') ((za s i).bind λx=>Yz P t (zfk C T' x id i) off)
  |_=>F
 | .nx id T i (.elem U k off)=>zM S id T i λa u=>chk (I U a) ((za u k).bind λy=>Yz P t (C.emb a y) off)
 |_=>F
theorem zf2{T:Nat}{q:C.D T}{cell:Nat->Value}(h:∀(j:Nat) A,(C.emb T q)[j]?=E A->Rv C Z (cell j) A):VRs C Z ν ((Y (C.size T)).map cell) (C.emb T q):=by
 refine .of (by simp[C.len]) λj u A h1 h2=>?_
 have a:j < C.size T:=jE
 rw[UA,qJ a,UB] at h1;cases h1;exact(h j A h2).vr
theorem zbF{T:Nat}{q:C.D T}{cs:List Value}(h:(zB C T).rel Z cs q):VRs C Z ν cs (C.emb T q):=
 .of (by rw[h.1,C.len]) λj u A h1 h2=>by
  let⟨w,e,r⟩:=h.2 j A h2;rw[h1] at e;cases e;exact r.vr
omit [Dfr] in
theorem SlR.elem {w:World}{v:Value}{U:Nat}{u:Sl (C.D U)}(h:SlR C Z w v U u) (hw:Y7 Z PV w) {k:Int}{y:C.D U}(B:za u k=E y) :
    ∃cs,VRs C Z ν cs (C.emb U y)/\∀(j:Nat) (q:Value),cs[j]?=E q->w.cell? ((zi v (k.toNat * C.size U)).add j)=E q:=by
 rcases h with⟨c,h⟩ | ⟨h,h1,h2⟩
 · let⟨hy0,l⟩:=yP.1 B;cases h with
   | @sl _ _ _ a n r cell h1 h2 h3 h4 h5 h6 h7 h8=>
    refine⟨(Y (C.size U)).map (cell k.toNat),zf2 λj A e=>h8 _ _ _ _ l e,λj q e=>?_⟩;rw[UA] at e;have f:j < C.size U:=by
     cases hr:(Y (C.size U))[j]? with
     |none=>grind
     |some z=>grind
    rw[qJ f,UB] at e;cases e;have:j < (C.emb U y).length:=by rw[C.len];exact f
    let⟨m,Q,hc⟩:=h7 _ _ _ _ l (UJ this);subst Q;have:=hw.1.cell hc;show w.cell? (((zi (.slice (E m) n r) _)).add j)=_;rw[show zi (.slice (E m) n r) (k.toNat * C.size U)=m.add (k.toNat * C.size U) from rfl,Addr.add_add];exact this
 ·let⟨cs,M,R⟩:=za9 (w:=w) h1 h2 B (ZZ.of (XQ.self (zB C U))) (by show 0+C.size U<=C.size U;omega);exact⟨cs,zbF M,λj q e=>by have:=R j q e;rw[Df] at this;exact this⟩
theorem zqF(hA:Abs S ν vs ids L b Z PV)(h:x9 P S t (S.op x)=E A):Yl P Z PV L b ⟨E d,.load t x,ty,ps,af,g⟩ (λv=>VR C Z ν v A):=by
 intro w D;have c:=hA.op x;unfold x9 at h;split at h
 ·rename_i id off e;rw[e] at c;have c:opv L b x = .pointer (E ((ν.adr id).add off)):=c;split at h
  ·rename_i cs Q;let⟨m,hm,_⟩:=hA.at Q;let⟨R,r,f⟩:=D.get hm;have r:Z2 (ν.adr id).a (vs id) R:=r;have l:=hA.cell id cs Q;exact w8 h l.len c (λj u B=>r.cell f B) λagg=>((l.drop off).take _).val
  ·cases h
 ·rename_i T q off e;rw[e] at c;let⟨ad,cell,hv,h1,h2⟩:=c.pz_inv;have l:=zf2 (ν:=ν) h2;refine w8 h l.len hv (λj u B=>?_) λagg=>((l.drop off).take _).val
  rw[UA] at B;have M:j < C.size T:=by
   cases r:(Y (C.size T))[j]? with
   |none=>grind
   |some z=>grind
  rw[qJ M,UB] at B;cases B;have:j < (C.emb T q).length:=by rw[C.len];exact M
  exact D.1.cell (h1 j _ (UJ this))
 ·rename_i id T i off e;rw[e] at c;have c:opv L b x = .pointer (E (zi (ν.hdr id) (i.toNat * C.size T+off))):=c;split at h
  ·rename_i T' s hs;let⟨hT,h⟩:=zb h;obtain rfl:=ge hT;cases hq:za s i with
   |none=>grind
   |some q=>
    rw[hq] at h;have h:Yz P t (C.emb T q) off=E A:=h;let⟨m,hm,_⟩:=hA.at hs;let⟨R,r,f⟩:=D.get hm;have r:zn (zB C T).o T (ν.hdr id) s Z R:=r;let⟨cs,h1,h2⟩:=za9 (w:=w) r f hq (ZZ.of (XQ.self (zB C T))) (by show 0+C.size T<=C.size T;omega);have l:=zbF (ν:=ν) h1;rw[<- Yx] at c;exact w8 (a:=zi (ν.hdr id) (i.toNat * C.size T)) h l.len c (λj u B=>by have:=h2 j u B;rw[Df] at this;exact this) λagg=>((l.drop off).take _).val
  ·rename_i T' s gg hs;let⟨hT,h⟩:=zb h;obtain rfl:=ge hT;let⟨q,hq,h⟩:=gd h;let⟨m,hm,_⟩:=hA.at hs;let⟨R,r,f⟩:=D.get hm;have r:zn (Zd C T) T (ν.hdr id) (hpl C T (ν.adr id).sub s gg) Z R:=r;let⟨cs,kf,k1,k2,k3⟩:=ziq (w:=w) r f hq;have l:=k1.vrs (ν:=ν);rw[<- Yx] at c;exact w8 h l.len c k3 λagg=>((l.drop off).take _).val
  ·cases h
 ·rename_i id T i U k off e;rw[e] at c;have c:opv L b x = .pointer (E (zi ((ν.adr id).sub i.toNat) (k.toNat * C.size U+off))):=c.1;let⟨U',u,h,hS⟩:=xO hA h;let⟨hU,h⟩:=zb h;obtain rfl:=ge hU;let⟨y,hy,h⟩:=gd h;let⟨cs,l,k3⟩:=(hS w D).elem (ν:=ν) D hy;rw[<- Yx] at c;exact w8 h l.len c k3 λagg=>((l.drop off).take _).val
 ·cases h
def wA(P:Program)(t:TypeId)(bo:BinOp)(A B:AV C.D):U3 (AV C.D):=
 match A,B with
 | .int k i,.int c j=>chk (decide (k=c)) (zd7 bo k i j)
 | .str s,.str u=>match bo with
  | .eql=>E (.bool (decide (s=u)))
  | .neq=>E (.bool (decide (s≠u)))
  | .add=>chk (decide (s.size+u.size<=9223372036854775807)) (E (.str (s++u)))
  |_=>F
 | .bool e,.bool q=>match P.underlying t,bo with
  |some .bool,.eql=>E (.bool (e == q))
  |some .bool,.neq=>E (.bool (e != q))
  |_,_=>F
 | .sl _ s _,.nils=>match P.underlying t,bo with
  |some (.slice _),.eql=>E (.bool !s.nn)
  |some (.slice _),.neq=>E (.bool s.nn)
  |_,_=>F
 | .nils,.nils=>match P.underlying t,bo with
  |some (.slice _),.eql=>E (.bool G)
  |some (.slice _),.neq=>E (.bool N)
  |_,_=>F
 | .pnil,.pnil=>evPtr P t bo G
 | .pc _ _,.pnil=>evPtr P t bo N
 | .pr _ _ _ _,.pnil=>evPtr P t bo N
 | .nx _ _ _ (.elem _ _ _),.pnil=>evPtr P t bo N
 | .pz _ _ _,.pnil=>evPtr P t bo N
 | .agg xs,.agg a=>match bo with
  | .eql=>chk (!P.eqGuardType P.depth t) ((eqA P 8 t (.agg xs) (.agg a)).bind λr=>E (.bool r))
  | .neq=>chk (!P.eqGuardType P.depth t) ((eqA P 8 t (.agg xs) (.agg a)).bind λr=>E (.bool !r))
  |_=>F
 |_,_=>F
where
 evPtr (P:Program) (t:TypeId) (bo:BinOp) (r:Bool):U3 (AV C.D):=match P.underlying t,bo with
  |some (.pointer _),.eql=>E (.bool r)
  |some (.pointer _),.neq=>E (.bool !r)
  |_,_=>F
theorem VC{bo:BinOp}{r:Bool}{a:U3 Addr}(h:wA.evPtr P t bo r=E A)(l:opv L b x = .pointer a)(f:a.isNone=r)(m:opv L b y = .pointer F):Yl P Z PV L b ⟨E d,.binOp bo t x y t',ty,ps,af,g⟩ (λv=>VR C Z ν v A):=by
 unfold wA.evPtr at h;split at h
 ·rename_i e c;cases h;exact .of (zmz c l m f) Rv.bool
 ·rename_i e c;cases h;exact .of (zmA c l m (by rw[f])) Rv.bool
 ·cases h
theorem zxV{s u:ByteArray}(a:opv L b x = .string s)(c:opv L b y = .string u)(e:s.size+u.size<=9223372036854775807):z8 P Z PV L b ⟨E d,.binOp .add t x y t',ty,ps,af,g⟩ (.string (s++u)):=λw _=>by
 have h2:¬ (((s.size+u.size:Nat):Int) > IntKind.i64.max):=by
  have:IntKind.i64.max=9223372036854775807:=jI
  grind
 simp only[execOp,a,c,eqGuard,binOp,Op.stringOp,jx h2];rfl
theorem zf3{w:World}{e:Array (String×TypeId)}{u:TypeId}{a:Value}(c:P.underlying t=E (.interface e)):(qP t (.iface u a) .nilIface).run P w = .ok N w:=by
 show(qv (9999+1) t (.iface u a) .nilIface).run P w = .ok N w;unfold qv;simp only[UW,UV c,UX];rfl
theorem zf4{w:World}{c:Array (String×TypeId)}(a:P.underlying t=E (.interface c)):(qP t .nilIface .nilIface).run P w = .ok G w:=by
 show(qv (9999+1) t .nilIface .nilIface).run P w = .ok G w;unfold qv;simp only[UW,UV a,UX];rfl
theorem zst(hA:Abs S ν vs ids L b Z PV){bo:BinOp}(h:wA P t bo (S.op x) (S.op y)=E A):Yl P Z PV L b ⟨E d,.binOp bo t x y t',ty,ps,af,g⟩ (λv=>VR C Z ν v A):=by
 have a:=hA.op x;have c:=hA.op y;unfold wA at h;split at h
 all_goals try (cases h;done)
 all_goals try (rename_i Q M;rw[Q] at a;rw[M] at c)
 ·let⟨u,h2⟩:=zb h;obtain rfl:=Dv u;exact zss h2 a.int_inv c.int_inv
 ·split at h
  ·cases h;exact .of (zxT a.str_inv c.str_inv) Rv.bool
  ·cases h;exact .of (zxU a.str_inv c.str_inv) Rv.bool
  ·let⟨u,h2⟩:=zb h;cases h2;exact .of (zxV a.str_inv c.str_inv (Dv u)) Rv.str
  ·cases h
 ·split at h
  ·rename_i e;cases h;exact .of (zxR e a.bool_inv c.bool_inv) Rv.bool
  ·rename_i e;cases h;exact .of (zxS e a.bool_inv c.bool_inv) Rv.bool
  ·cases h
 ·have c:opv L b y = .slice F 0 0:=c;split at h
  ·rename_i e;cases h;exact .of (WK e rfl c a.sl_vrel) Rv.bool
  ·rename_i e;cases h;exact .of (WL e rfl c a.sl_vrel) Rv.bool
  ·cases h
 ·have c:opv L b y = .slice F 0 0:=c;have a:VR C Z ν (opv L b x) (.sl 0 ⟨[],N⟩ G):=by rw[show opv L b x = .slice F 0 0 from a];exact zkx
  split at h
  ·rename_i e;cases h;exact .of (WK e rfl c a.sl_vrel) Rv.bool
  ·rename_i e;cases h;exact .of (WL e rfl c a.sl_vrel) Rv.bool
  ·cases h
 ·exact VC h a.pnil_inv rfl c.pnil_inv
 ·have a:opv L b x = .pointer (E _):=a;exact VC h a rfl c.pnil_inv
 ·have a:opv L b x = .pointer (E _):=a;exact VC h a rfl c.pnil_inv
 ·have a:opv L b x = .pointer (E _):=a.1;exact VC h a rfl c.pnil_inv
 ·let⟨ad,cell,R,_⟩:=a.pz_inv;exact VC h R rfl c.pnil_inv
 ·have B:=a;have q:=c;let⟨us,l,_⟩:=B;let⟨U,m,_⟩:=q;split at h
  ·let⟨f,h⟩:=zb h;simp only[Dw] at f;let⟨r,D,h⟩:=gd h;cases h;have:=zqE D a c;rw[l,m] at this;exact .of (zkt f l m jI this) Rv.bool
  ·let⟨f,h⟩:=zb h;simp only[Dw] at f;let⟨r,D,h⟩:=gd h;cases h;have:=zqE D a c;rw[l,m] at this;exact .of (zku f l m jI this) Rv.bool
  ·cases h
def zd8(P:Program)(t:TypeId)(m:Nat)(A:AV C.D):U3 (AV C.D):=
 match P.underlying t with
 |some (.struct fs)=>(match fs[m]? with
  |some f=>(match P.info? f.type with
   |some ti=>chk (!I ti.size 0) (match A with
    | .pc id off=>E (.pc id (off+f.offset))
    | .pr id T i off=>E (.pr id T i (off+f.offset))
    | .nx id T i (.elem U k off)=>E (.nx id T i (.elem U k (off+f.offset)))
    | .pz T q off=>E (.pz T q (off+f.offset))
    |_=>F)
   |none=>F)
  |none=>F)
 |_=>F
theorem zn4(hA:Abs S ν vs ids L b Z PV){m:Nat}(h:zd8 P t m (S.op x)=E A):Yl P Z PV L b ⟨E d,.fieldAddr t x m,ty,ps,af,g⟩ (λv=>VR C Z ν v A):=by
 have a:=hA.op x;unfold zd8 at h;split at h
 ·rename_i fs r;split at h
  ·rename_i f l;split at h
   ·rename_i ti hi;let⟨c,h⟩:=zb h;have c:ti.size≠0:=λe=>by rw[e] at c;cases c
    split at h
    ·rename_i id off e;rw[e] at a;cases h;exact .of (vj r l hi c (show opv L b x = .pointer (E _) from a) rfl) (by show _=V (E _);rw[Addr.add_add])
    ·rename_i id T i off e;rw[e] at a;cases h;exact .of (vj r l hi c (show opv L b x = .pointer (E _) from a) rfl) (by show _=V (E _);rw[Yx,qQ])
    ·rename_i id T i U k off e;rw[e] at a;cases h;exact .of (vj r l hi c (show opv L b x = .pointer (E _) from a.1) rfl) ⟨by show _=V (E _);rw[Yx,qQ],rfl⟩
    ·rename_i T q off e;rw[e] at a;cases h;let⟨B,cell,u,h1,h2⟩:=a.pz_inv;exact .of (vj r l hi c u rfl) (by rw[Addr.add_add];exact Rv.pz cell h1 h2)
    ·cases h
   ·cases h
  ·cases h
 ·cases h
def zda{D:Nat->Type}{β:Type}(sz id off:Nat)(i:Int):Nat->(AV D->U3 β)->U3 β
 |0,_=>F
 |j+1,K=>bif decide (i=(j:Int)) then K (.pc id (off+j * sz)) else zda sz id off i j K
theorem zir{D:Nat->Type}{β γ:Type}{sz id off:Nat}{i:Int}{K:AV D->U3 β}{L:β->U3 γ}:∀{n:Nat},(zda sz id off i n K).bind L=zda sz id off i n λA=>(K A).bind L
 |0=>rfl
 |j+1=>by
  unfold zda;cases decide (i=(j:Int)) with
  |true=>rfl
  |false=>exact zir
theorem zhs{D:Nat->Type}{sz id off:Nat}{i:Int}{A:AV D}:∀{n:Nat},zda sz id off i n E=E A->∃j,j < n/\i=(j:Int)/\A = .pc id (off+j * sz)
 |0,h=>by cases h
 |j+1,h=>by
  unfold zda at h;cases hd:decide (i=(j:Int)) with
  |true=>
   grind
  |false=>
   rw[hd] at h;let⟨k,h1,h2,a⟩:=zhs h;grind
def XS(P:Program)(S:St C)(t:TypeId)(A B:AV C.D):U3 (AV C.D):=
 match P.underlying t with
 |some (.slice e)=>(match P.info? e with
  |some ti=>(match A,B with
   | .sl T s _,.int _ i=>chk (I ti.size (C.size T)) ((za s i).bind λq=>E (.pz T q 0))
   | .row id,.int _ i=>(match S.heap id with
    |some (.row T s)=>chk (I ti.size (C.size T)) ((za s i).bind λ_=>E (.pr id T i 0))
    |some (.orow T s g)=>chk (I ti.size (C.size T)) ((za s i).bind λ_=>E (.pr id T i 0))
    |_=>F)
   | .nx id T i .whole,.int _ k=>zM S id T i λU u=>chk (I ti.size (C.size U)) ((za u k).bind λ_=>E (.nx id T i (.elem U k 0)))
   | .nx id T i (.part U lo hi),.int _ k=>zM S id T i λc u=>chk (I U c && I ti.size (C.size U)) ((z7 u lo hi).bind λa=>(za a k).bind λ_=>E (.nx id T i (.elem U (lo+k) 0)))
   |_,_=>F)
  |none=>F)
 |some (.array n e)=>(match P.info? e with
  |some ti=>(match A,B with
   | .pc id off,.int .i64 i=>chk (!I ti.size 0) (zda ti.size id off i n E)
   |_,_=>F)
  |none=>F)
 |_=>F
theorem zwk{T:Nat}{s:Sl (C.D T)}{cl:Bool}{v:Value}(h:VR C Z ν v (.sl T s cl)){i:Int}{q:C.D T}(Q:za s i=E q):VR C Z ν (.pointer (E (zi v (i.toNat * C.size T)))) (.pz T q 0):=by
 have M:Rv C Z v (.sl T s cl):=h;let⟨h0,m⟩:=yP.1 Q;cases M with
 | @sl _ _ _ a n c cell h1 h2 h3 h4 h5 h6 r h8=>
  cases a with
  |none=>
   grind
  |some l=>
   have e:zi (.slice (E l) n c) (i.toNat * C.size T)=(l.add (i.toNat * C.size T)).add 0:=by
    rw[Addr.add_add];rfl
   rw[e];refine Rv.pz (cell i.toNat) (λj B f=>?_) (λj B f=>h8 _ _ _ _ m f);let⟨R,U,u⟩:=r _ _ _ _ m f;cases U;rw[Addr.add_add];exact u
theorem zn5(hA:Abs S ν vs ids L b Z PV)(h:XS P S t (S.op x) (S.op y)=E A):Yl P Z PV L b ⟨E d,.indexAddr t x y,ty,ps,af,g⟩ (λv=>VR C Z ν v A):=by
 have l:=hA.op x;have r:=hA.op y;unfold XS at h;split at h
 ·rename_i e Q;split at h
  ·rename_i ti hi;split at h
   ·rename_i T s cl k i D M;rw[D] at l;rw[M] at r;obtain⟨f,h⟩:=zb h;have f:ti.size=(zB C T).size:=ge f;let⟨q,B,h⟩:=gd h;cases h;exact .of (za8 Q hi f rfl r.int_inv l.sl_vrel B) (zwk l B)
   ·rename_i id k i D M;rw[D] at l;rw[M] at r;split at h
    ·rename_i T s hs;let⟨f,h⟩:=zb h;have f:ti.size=(zB C T).o.size:=ge f;let⟨q,B,h⟩:=gd h;cases h;let⟨m,hm,_⟩:=hA.at hs;have l:opv L b x=ν.hdr id:=l;exact .of (zaV m Q hi f l r.int_inv hm B) (by show _=V (E _);rw[Df];rfl)
    ·rename_i T s gg hs;obtain⟨f,h⟩:=zb h;have f:ti.size=(Zd C T).size:=ge f;let⟨q,B,h⟩:=gd h;cases h;let⟨m,hm,_⟩:=hA.at hs;have l:opv L b x=ν.hdr id:=l;exact .of (zaV m Q hi f l r.int_inv hm (WN B)) (by show _=V (E _);rw[Df];rfl)
    ·cases h
   ·rename_i id T i k0 k D M;rw[D] at l;rw[M] at r;let⟨U,u,h,hS⟩:=xO hA h;obtain⟨f,h⟩:=zb h;have f:ti.size=(zB C U).size:=ge f;let⟨q,B,h⟩:=gd h;cases h;have l:opv L b x=(ν.adr id).sub i.toNat:=l.1;intro w hw;refine⟨.pointer (E (zi ((ν.adr id).sub i.toNat) (k.toNat * C.size U))),?_,by show _=V (E _);grind,rfl⟩;rcases(hS w hw).cases hw with R | R
    ·exact za8 (PV:=PV) Q hi f l r.int_inv R B w hw
    ·exact zaV (PV:=[.row (zB C U).o U ((ν.adr id).sub i.toNat) u]) (T:=(zB C U).o) 0 Q hi f l r.int_inv rfl B w R
   ·rename_i id T i U lo hi2 k0 k D M;rw[D] at l;rw[M] at r;let⟨U',u,h,hS⟩:=xO hA h;let⟨f,h⟩:=zb h;simp only[gf] at f;obtain rfl:=ge f.1;have f:ti.size=C.size U:=ge f.2;let⟨u',B,h⟩:=gd h;let⟨y0,hq2,h⟩:=gd h;cases h;obtain⟨g1,g2,g3,rfl⟩:=wo B;have hk:=za7 hq2;simp only[UR,Dl] at hk;have r:=r.int_inv;have l:opv L b x=vD ((ν.adr id).sub i.toNat) lo hi2 (C.size U):=l.1;intro w hw;let⟨a,c,R,k1,k2⟩:=(hS w hw).form hw;rw[R] at l;refine⟨.pointer (E (zi ((ν.adr id).sub i.toNat) ((lo+k).toNat * C.size U))),?_,by show _=V (E _);grind,rfl⟩;cases a with
    |none=>grind
    |some ad=>
     have hc:¬ (c:Int)=lo:=Zc
     have hkl:¬ max (hi2 - lo) 0<=k:=Zc
     have hs:(lo+k).toNat=lo.toNat+k.toNat:=Zc
     simp[execOp,l,r,Instr.indexAt,asIntOf,UV Q,sizeOf,typeInfo,hi,f,zi,vD,hc,hk.1,hkl,R,hs,Addr.add_add,US]
   ·cases h
  ·cases h
 ·rename_i n e Q;split at h
  ·rename_i ti hi;split at h
   ·rename_i id off i D M;rw[D] at l;rw[M] at r;let⟨f,h⟩:=zb h;have f:ti.size≠0:=λe=>by rw[e] at f;cases f
    obtain⟨j,hj,hij,rfl⟩:=zhs h;subst hij;exact .of (zmy Q hi f l r.int_inv hj rfl) (by show _=V (E _);rw[Addr.add_add])
   ·cases h
  ·cases h
 ·cases h
def Zm(S:St C)(dflt:Int):U3 Operand->U3 Int
 |none=>E dflt
 |some x=>match S.op x with
  | .int _ i=>E i
  |_=>F
theorem xP(hA:Abs S ν vs ids L b Z PV){dflt i:Int}{o:U3 Operand}(h:Zm S dflt o=E i):YT L b o dflt i:=by
 cases o with
 |none=>simp only[Zm] at h;cases h;exact rfl
 |some x=>
  have a:=hA.op x;simp only[Zm] at h;split at h
  ·rename_i k j e;rw[e] at a;cases h;exact⟨k,a.int_inv⟩
  ·cases h
def Yt(P:Program)(S:St C)(t:TypeId)(A:AV C.D)(lo hi:U3 Operand):U3 (AV C.D):=
 match P.underlying t,A with
 |some .string,.str s=>(match Zm S 0 lo,Zm S s.size hi with
  |some i,E j=>(ZI s i j).bind λu=>E (.str u)
  |_,_=>F)
 |some (.slice e),.sl T s _=>(match P.info? e,Zm S 0 lo,Zm S s.len hi with
  |some ti,E i,E j=>chk (I ti.size (C.size T)) ((z7 s i j).bind λu=>E (.sl T u N))
  |_,_,_=>F)
 |some (.slice e),.nx id T k .whole=>(match P.info? e,Zm S 0 lo with
  |some ti,E i=>zM S id T k λU u=>(match Zm S u.len hi with
   |some j=>chk (I ti.size (C.size U)) ((z7 u i j).bind λ_=>E (.nx id T k (.part U i j)))
   |none=>F)
  |_,_=>F)
 |_,_=>F
theorem zky {e:TypeId}{ti:TypeInfo}{lo hi:U3 Operand}{i j:Int}{a:U3 Addr}{m c z:Nat}(u:P.underlying t=E (.slice e)) (h:P.info? e=E ti) (D:ti.size=z)
    (l:opv L b x = .slice a m c) (r:m<=c) (q:YT L b lo 0 i) (B:YT L b hi (m:Int) j) (h1:0<=i) (h2:i<=j) (Q:j<=m) :
    z8 P Z PV L b ⟨E d,.slice t x lo hi F,ty,ps,af,g⟩ (vD (.slice a m c) i j z):=λw M=>by
 have hb:=YG (P:=P) (w:=w) (isS:=true) (m:=m) (c:=c) q B h1 h2 Zc;have f:(qX t (.slice a m c) (lo.map (opv L b)) (hi.map (opv L b)) F).run P w = .ok (.slice (if(c:Int)=i then a else a.map (·.add (i.toNat * z))) (j - i).toNat (c - i.toNat)) w:=by
  unfold qX Instr.slice;simp only[UW,UV u,UX];simp only[UW,UX,hb,sizeOf,typeInfo,UY,h,UU,D];rw[(Zc:j.toNat - i.toNat=(j - i).toNat)];grind
 simp only[execOp,l,UW,f,UX,UU,Option.map_none,vD]
theorem zn6(hA:Abs S ν vs ids L b Z PV){lo hi:U3 Operand}(h:Yt P S t (S.op x) lo hi=E A):Yl P Z PV L b ⟨E d,.slice t x lo hi F,ty,ps,af,g⟩ (λv=>VR C Z ν v A):=by
 have f:=hA.op x;unfold Yt at h;split at h
 ·rename_i s m e;rw[e] at f;split at h
  ·rename_i i j h1 h2;let⟨u,q,h⟩:=gd h;cases h;exact .of (zhq m f.str_inv (xP hA h1) (xP hA h2) q) Rv.str
  ·cases h
 ·rename_i e T s cl m B;rw[B] at f;split at h
  ·rename_i ti i j hi h1 h2;obtain⟨l,h⟩:=zb h;have l:ti.size=(zB C T).size:=ge l;obtain⟨u,q,h⟩:=gd h;cases h;obtain⟨v,r,hr⟩:=zho (P:=P) (PV:=PV) (d:=d) (ty:=ty) (ps:=ps) (af:=af) (g:=g) m hi l rfl f.sl_vrel (xP hA h1) (xP hA h2) q;exact .of hr (Rv.of_vrel r).vr
  ·cases h
 ·rename_i e id T k m B;rw[B] at f;split at h
  ·rename_i ti i hi h1;let⟨U,u,h,R⟩:=xO hA h;split at h
   ·rename_i j h2;let⟨l,h⟩:=zb h;have l:ti.size=C.size U:=ge l;let⟨u',q,h⟩:=gd h;cases h;let⟨Q,g2,g3,_⟩:=wo q;have f:opv L b x=(ν.adr id).sub k.toNat:=f.1;intro w M;let⟨a,c,r,k1,k2⟩:=(R w M).form M;have D:opv L b x = .slice a u.xs.length c:=by rw[f,r]
    refine⟨_,zky (PV:=PV) m hi l D k2 (xP hA h1) (xP hA h2) Q g2 g3 w M,?_,rfl⟩;show _=vD ((ν.adr id).sub k.toNat) i j (C.size U);rw[r]
   ·cases h
  ·cases h
 ·cases h
def w9(P:Program)(S:St C)(t:TypeId)(A:AV C.D):U3 (AV C.D):=
 match P.underlying t,A with
 |some .string,.str s=>E (.int .i64 s.size)
 |some (.slice _),.sl _ s _=>E (.int .i64 s.len)
 |some (.slice _),.nils=>E (.int .i64 0)
 |some (.slice _),.row id=>(match S.heap id with
  |some (.row _ s)=>E (.int .i64 s.len)
  |some (.orow _ s _)=>E (.int .i64 s.len)
  |_=>F)
 |some (.slice _),.nx id T i .whole=>zM S id T i λ_ u=>E (.int .i64 u.len)
 |some (.slice _),.nx id T k (.part U i j)=>zM S id T k λa u=>chk (I U a) ((z7 u i j).bind λ_=>E (.int .i64 (j - i)))
 |_,_=>F
theorem zsu(hA:Abs S ν vs ids L b Z PV)(h:w9 P S t (S.op x)=E A):Yl P Z PV L b ⟨E d,.call {callee :=.builtin .len,args:= #[x],argTypes:= #[t]},ty,ps,af,g⟩ (λv=>VR C Z ν v A):=by
 have f:=hA.op x;unfold w9 at h;split at h
 ·rename_i l e;rw[e] at f;cases h;exact .of (zkl l f.str_inv) Rv.int
 ·rename_i l e;rw[e] at f;cases h;exact .of (Vy l rfl f.sl_vrel) Rv.int
 ·rename_i l e;rw[e] at f;cases h;have f:VR C Z ν (opv L b x) (.sl 0 ⟨[],N⟩ G):=by rw[show opv L b x = .slice F 0 0 from f];exact zkx
  exact .of (Vy l rfl f.sl_vrel) Rv.int
 ·rename_i id l e;rw[e] at f;split at h
  ·rename_i T s hs;cases h;let⟨m,M,_⟩:=hA.at hs;exact .of (zc3 m l (show opv L b x=ν.hdr id from f) M) Rv.int
  ·rename_i T s Q hs;cases h;let⟨m,M,_⟩:=hA.at hs;rw[<- zqD (sub:=(ν.adr id).sub) (g:=Q)];exact .of (zc3 m l (show opv L b x=ν.hdr id from f) M) Rv.int
  ·cases h
 ·rename_i id T i l e;rw[e] at f;let⟨U,u,h,D⟩:=xO hA h;cases h;have f:opv L b x=(ν.adr id).sub i.toNat:=f.1;intro w q;refine⟨.int .i64 u.len,?_,Rv.int⟩;rcases(D w q).cases q with r | r
  ·exact Vy (PV:=PV) l f r w q
  ·exact zc3 (PV:=[.row (zB C U).o U ((ν.adr id).sub i.toNat) u]) (T:=(zB C U).o) 0 l f rfl w r
 ·rename_i id T k U i j l e;rw[e] at f;let⟨U',u,h,D⟩:=xO hA h;let⟨hz,h⟩:=zb h;obtain rfl:=ge hz;let⟨u',R,h⟩:=gd h;cases h;let⟨g1,g2,g3,_⟩:=wo R;have f:opv L b x=vD ((ν.adr id).sub k.toNat) i j (C.size U):=f.1;intro w q;refine⟨.int .i64 (j - i),?_,Rv.int⟩;let⟨a,c,r,k1,k2⟩:=(D w q).form q;rw[r] at f;have B:(((j - i).toNat:Nat):Int)=j - i:=Zc
  simp[execOp,resolve,invoke,builtin,f,vD,Builtin.len_,UV l,goInt,B]
 ·cases h
end
end
section
variable [Dfr]
section
variable {C:Cod}{S:St C}{ν:Val}{vs:Nat->List Value}{ids:List Nat}{L:List (Nat×Value)}{b:Nat->Value}{Z:FS}{PV:List Priv}{P:Program}
variable {t t' ty:TypeId}{x y z:Operand}{d:Nat}{ps:String}{af:Array Edge}{g:U3 (Nat×Bool)}{A:AV C.D}
def YU{D:Nat->Type}:AV D->Bool
 | .agg cs=>cs.all AV.leaf
 |v=>v.leaf
def vY{D:Nat->Type}(a:List (Nat×Nat)):List (AV D)->List (Nat×AV D)->U3 (List (AV D))
 |cs,[]=>E cs
 |cs,(i,c)::r=>match a[i]? with
  |none=>F
  |some (off,size)=>chk (YU c && (I (zt c).length size && qB (off+(zt c).length) cs.length)) (vY a (cs.take off++zt c++cs.drop (off+(zt c).length)) r)
theorem zdb{D:Nat->Type}{A:AV D}(h:YU A=G):A.leaf=G\/∃cs,A = .agg cs/\cs.all AV.leaf=true:=by
 cases A
 case agg cs=>exact .inr ⟨cs,rfl,h⟩
 all_goals exact .inl h
theorem ZE{v:Value}(h:VR C Z ν v A)(hs:YU A=G)(f:∀i,(ν.hdr i).oneCell'=G):VRs C Z ν v.cells.toList (zt A)/\∀u∈v.cells.toList,u.oneCell'=true:=by
 rcases zdb hs with c | ⟨cs,rfl,hs⟩
 ·refine⟨h.cells (.inl c) f,λu a=>?_⟩;have h1:=h.one c f;have e:v.cells.toList=[v]:=by cases v<;>simp_all[qN,qo]
  grind
 ·obtain⟨us,rfl,k⟩:=h;refine⟨by simpa[qo,zt] using k,λu a=>?_⟩;have a:u∈us:=by simpa[qo] using a
  let⟨j,m⟩:=qH.1 a;have c:=k.len;have q:=(UC.1 m).1;have l:=UJ (Zc:j < cs.length);exact(k.rel m l).one (Dx.1 hs _ (UT l)) f
theorem zfl (Q:∀i,(ν.hdr i).oneCell'=G) (a:List (Nat×Nat)):∀(ps:List (Nat×AV C.D)) (us:List (Nat×Value)) (cs r:List (AV C.D)) (f:List Value),us.map (·.1)=ps.map (·.1)->(∀(j:Nat) u B,us[j]?=E u->ps[j]?=E B->VR C Z ν u.2 B.2)->VRs C Z ν f cs->vY a cs ps=E r->
    ∃rs,zae a f (us.map λu=>(u.1,u.2.cells.toList))=E rs/\VRs C Z ν rs r
 |[],us,cs,r,f,h1,h2,h3,e=>by
   simp only[vY] at e;cases e;have:us=[]:=by simpa using h1
   subst this;exact⟨f,rfl,h3⟩
 |(i,c)::ps,[],cs,r,f,h1,h2,h3,e=>by simp at h1
 |(i,c)::ps,(j,u)::us,cs,r,f,h1,h2,h3,e=>by
   simp only[UF,List.cons.injEq] at h1;obtain⟨rfl,h1⟩:=h1;simp only[vY] at e;simp only[UF,zae];cases hp:a[j]? with
   |none=>grind
   |some q=>
    let⟨off,size⟩:=q;rw[hp] at e;simp only at e |-
    let⟨m,M⟩:=zb e;simp only[gf] at m;let⟨c1,c2,c3⟩:=m;have h:=(ZE (h2 0 (j,u) (j,c) rfl rfl) c1 Q).1;have R:=h.len;have l:=h3.len;rw[<- R] at c2 c3 M;rw[<- l] at c3;rw[c2,c3];simp only[Bool.and_self,Dy];exact zfl Q a ps us _ r _ h1 (λk u B U hB=>h2 (k+1) u B (by simpa using U) (by simpa using hB)) (((h3.take off).append h).append (h3.drop _)) M
def zf5(P:Program):List Field->U3 (List (Nat×Nat))
 |[]=>E []
 |f::fs=>match P.info? f.type,zf5 P fs with
  |some ti,E r=>E ((f.offset,ti.size)::r)
  |_,_=>F
theorem zkz:∀{fs:List Field}{a:List (Nat×Nat)},zf5 P fs=E a->fs.map (λf=>(P.info? f.type).map λi=>(f.offset,i.size))=a.map E
 |[],a,h=>by simp only[zf5] at h;cases h;rfl
 |f::fs,a,h=>by
  simp only[zf5] at h;split at h
  ·rename_i ti r hi c;cases h;simp[hi,zkz c]
  ·cases h
def zdc(size n:Nat):List (Nat×Nat):=(Y n).map λi=>(i * size,size)
theorem zis{p q:Nat->U3 (Nat×Nat)}(h:∀i x,p i=E x->q i=E x):∀(ps:List (Nat×Value)) (cs r:Array Value),qL p cs ps=E r->qL q cs ps=E r
 |[],cs,r,hf=>hf
 |(i,v)::ps,cs,r,hf=>by
  simp only[qL] at hf |-
  cases hp:p i with
  |none=>grind
  |some x=>
   rw[hp] at hf;rw[h i x hp];let⟨off,size⟩:=x;simp only at hf |-
   split at hf
   ·cases hf
   ·rename_i a;rw[jx a];exact zis h ps _ r hf
theorem zn7 {n:Nat}{e:TypeId}{ti h:TypeInfo}{m:Value}{a:Array (Nat×Operand)}{vs:List (Nat×Value)}{f:List (Nat×List Value)}{cs:List Value}(M:P.underlying t=E (.array n e)) (hi:P.info? t=E ti) (Q:P.info? e=E h) (R:ti.zero=E m)
    (hp:(a.toList.map λq=>(q.1,opv L b q.2))=vs) (u:zc6 vs f) (B:zae (zdc h.size n) m.cells.toList f=E cs) :
    z8 P Z PV L b ⟨E d,.build t a,ty,ps,af,g⟩ (.agg cs.toArray):=λw _=>by
 have l:(a.map λ(q:Nat×Operand)=>(q.1,opv L b q.2)).toList=vs:=by rw[Array.toList_map];exact hp
 have c:=zis (q:=λi=>E (i * h.size,h.size)) (λi x r=>by
  simp only[zdc,UA] at r;cases D:(Y n)[i]? with
  |none=>grind
  |some j=>
   rw[D] at r;have:j=i:=by
    grind
   grind) _ _ _ (zkp (zdc h.size n) vs f m.cells cs u B)
 have:(zI t (a.map λq=>(q.1,opv L b q.2))).run P w = .ok (.agg cs.toArray) w:=by
  unfold zI;simp only[UW,zeroValue,sizeOf,typeInfo,UY,UX,hi,Q,UU,R,UV M,l,c]
 simp only[execOp,UW,this,UX,UU]
def vN{α:Type}(l:List α)(i:Int):U3 α:=if 0<=i then l[i.toNat]? else F
def zbG{D:Nat->Type}:List (AV D)->U3 (List ByteArray)
 |[]=>E []
 | .str s::r=>(zbG r).bind λl=>E (s::l)
 |_=>F
def zd9{D:Nat->Type}(k:IntKind):List (AV D)->U3 (List Int)
 |[]=>E []
 | .int k' n::r=>chk (decide (k'=k)) ((zd9 k r).bind λl=>E (n::l))
 |_=>F
def zf6(n:Nat)(cs:List (AV C.D))(i:Int):U3 (AV C.D):=chk (I n cs.length) (match zbG cs with
 |some l=>(vN l i).bind λs=>E (.str s)
 |none=>(match cs with
  | .int k _::_=>(zd9 k cs).bind λl=>(vN l i).bind λm=>E (.int k m)
  |_=>F))
theorem zit{α:Type}{l:List α}{i:Int}{x:α}(h:vN l i=E x):0<=i/\l[i.toNat]?=E x:=by
 unfold vN at h;grind
theorem ziu:∀{cs:List (AV C.D)}{l:List ByteArray},zbG cs=E l->∀{j:Nat}{s:ByteArray},l[j]?=E s->cs[j]?=E (.str s)
 |[],l,h,j,s,hj=>by simp only[zbG] at h;grind
 |A::r,l,h,j,s,hj=>by
  cases A<;>simp only[zbG] at h<;>try (cases h;done)
  let⟨a,h1,h2⟩:=gd h;cases h2;cases j with
  |zero=>grind
  |succ j=>simpa using ziu h1 (by simpa using hj)
theorem ziv{k:IntKind}:∀{cs:List (AV C.D)}{l:List Int},zd9 k cs=E l->∀{j:Nat}{m:Int},l[j]?=E m->cs[j]?=E (.int k m)
 |[],l,h,j,s,hj=>by simp only[zd9] at h;grind
 |A::r,l,h,j,s,hj=>by
  cases A<;>simp only[zd9] at h<;>try (cases h;done)
  let⟨a,h⟩:=zb h;have:=Dv a;subst this;let⟨c,h1,h2⟩:=gd h;cases h2;cases j with
  |zero=>grind
  |succ j=>simpa using ziv h1 (by simpa using hj)
theorem zqG{n:Nat}{cs:List (AV C.D)}{i:Int}{A:AV C.D}(h:zf6 n cs i=E A):0<=i/\i < n/\cs[i.toNat]?=E A:=by
 let⟨c,h⟩:=zb h;have c:=ge c
 have key:∀{A:AV C.D},0<=i->cs[i.toNat]?=E A->0<=i/\i < n/\cs[i.toNat]?=E A:=λh0 h1=>⟨h0,by
  grind,h1⟩
 split at h
 ·rename_i l a;let⟨s,hs,h⟩:=gd h;cases h;let⟨h0,h1⟩:=zit hs;exact key h0 (ziu a h1)
 ·split at h
  ·let⟨l,a,h⟩:=gd h;let⟨m,e,h⟩:=gd h;cases h;let⟨h0,h1⟩:=zit e;exact key h0 (ziv a h1)
  ·cases h
theorem zsv{p:Nat->Prop}{n:Nat}{cs:List (AV C.D)}{i:Int}{A:AV C.D}(h:zf6 n cs i=E A):(∃s,A = .str s)\/∃k m,A = .int k m:=by
 let⟨_,h⟩:=zb h;split at h
 ·let⟨s,hs,h⟩:=gd h;grind
 ·split at h
  ·let⟨l,a,h⟩:=gd h;let⟨m,c,h⟩:=gd h;grind
  ·cases h
def zba(P:Program)(t:TypeId)(A B:AV C.D):U3 (AV C.D):=match P.underlying t,A,B with
 |some .string,.str s,.int _ i=>(Zg s i).bind λc=>E (.int .u8 c)
 |some (.array n e),.agg cs,.int _ i=>(match P.underlying e,P.info? e with
  |some a,E f=>chk (!Zh a && I f.size 1) (zf6 n cs i)
  |_,_=>F)
 |_,_,_=>F
theorem zn8 {n:Nat}{e:TypeId}{c:TypeDesc}{h:TypeInfo}{cs:List Value}{k:IntKind}{i:Int}{v:Value}(m:P.underlying t=E (.array n e)) (f:P.underlying e=E c) (hi:P.info? e=E h) (hd:Zh c=N) (h1:h.size=1) (l:opv L b x = .agg cs.toArray) (q:opv L b y = .int k i) (h0:0<=i) (r:i < n) (u:cs[i.toNat]?=E v) :
    z8 P Z PV L b ⟨E d,.index t x y,ty,ps,af,g⟩ v:=λw _=>by
 have a:(Go.isAgg e).run P w=qO (Zh c) w:=by
  unfold Go.isAgg;rw[UW,UV f];cases c<;>rfl
 have:(q5 t (.agg cs.toArray) (.int k i)).run P w = .ok v w:=by
  unfold q5;simp only[asIntOf,UW,UU,UX,UV m];rw[jv ⟨h0,r⟩];simp only[part,sizeOf,typeInfo,UY,hi,h1,UW,UU,UX,a,hd,Nat.mul_one,List.getElem?_toArray,u];simp
 simp only[execOp,l,q,UW,this,UX,UU]
theorem zqH(hA:Abs S ν vs ids L b Z PV)(h:zba P t (S.op x) (S.op y)=E A):Yl P Z PV L b ⟨E d,.index t x y,ty,ps,af,g⟩ (λv=>VR C Z ν v A):=by
 have e:=hA.op x;have f:=hA.op y;unfold zba at h;split at h
 ·rename_i B l M;rw[l] at e;rw[M] at f;let⟨c,a,h⟩:=gd h;cases h;exact .of (zhp B e.str_inv f.int_inv a) Rv.int
 ·rename_i B l M;rw[l] at e;rw[M] at f;split at h
  ·rename_i td te m hi;let⟨a,h2⟩:=zb h;simp only[gf,Dw] at a;let⟨h0,U,r⟩:=zqG h2;let⟨us,Q,R⟩:=e;let⟨u,q,D⟩:=R.get _ A r;exact .of (zn8 B m hi a.1 (ge a.2) Q f.int_inv h0 U q) D
  ·cases h
 ·cases h
def WO(P:Program)(S:St C)(t:TypeId)(a:List (Nat×Operand)):U3 (AV C.D):=
 match P.underlying t,P.info? t with
 |some (.struct fs),E ti=>(match ti.zero,zf5 P fs.toList with
  |some f,E c=>(vY c (f.cells.toList.map ZY) (a.map λq=>(q.1,S.op q.2))).bind λcs=>E (.agg cs)
  |_,_=>F)
 |some (.array n e),E ti=>(match ti.zero,P.info? e with
  |some f,E h=>(vY (zdc h.size n) (f.cells.toList.map ZY) (a.map λq=>(q.1,S.op q.2))).bind λcs=>E (.agg cs)
  |_,_=>F)
 |_,_=>F
theorem zbH:∀us:List (Nat×Value),zc6 us (us.map λu=>(u.1,u.2.cells.toList))
 |[]=>trivial
 |(i,v)::us=>⟨rfl,rfl,zbH us⟩
theorem zn9(hA:Abs S ν vs ids L b Z PV){a:Array (Nat×Operand)}(h:WO P S t a.toList=E A):Yl P Z PV L b ⟨E d,.build t a,ty,ps,af,g⟩ (λv=>VR C Z ν v A):=by
 unfold WO at h;split at h
 ·rename_i fs ti c hi;split at h
  ·rename_i r m M hp;let⟨cs,l,h⟩:=gd h;cases h
   let⟨rs,h1,h2⟩:=zfl (Z:=Z) (ν:=ν) hA.one m _ (a.toList.map λq=>(q.1,opv L b q.2)) _ cs r.cells.toList je (λj u B c f=>by
    rw[UA] at c f;cases D:a.toList[j]? with
    |none=>grind
    |some q=>rw[D] at c f;cases c;cases f;exact hA.op q.2) (xM _) l
   exact .of (zwg c hi M (zkz hp) rfl (zbH _) h1) ⟨rs,rfl,h2⟩
  ·cases h
 ·rename_i n e ti c hi;split at h
  ·rename_i r Q M R;let⟨cs,l,h⟩:=gd h;cases h
   let⟨rs,h1,h2⟩:=zfl (Z:=Z) (ν:=ν) hA.one (zdc Q.size n) _ (a.toList.map λq=>(q.1,opv L b q.2)) _ cs r.cells.toList je (λj u B c f=>by
    rw[UA] at c f;cases D:a.toList[j]? with
    |none=>grind
    |some q=>rw[D] at c f;cases c;cases f;exact hA.op q.2) (xM _) l
   exact .of (zn7 c hi R M rfl (zbH _) h1) ⟨rs,rfl,h2⟩
  ·cases h
 ·cases h
def zea(P:Program)(t:TypeId)(m:Nat)(A:AV C.D):U3 (AV C.D):=
 match P.underlying t,A with
 |some (.struct fs),.agg cs=>(match fs[m]? with
  |some f=>Yz P f.type cs f.offset
  |none=>F)
 |_,_=>F
theorem zoa(hA:Abs S ν vs ids L b Z PV){m:Nat}(h:zea P t m (S.op x)=E A):Yl P Z PV L b ⟨E d,.field t x m,ty,ps,af,g⟩ (λv=>VR C Z ν v A):=by
 have l:=hA.op x;unfold zea at h;split at h
 ·rename_i fs cs r e;rw[e] at l;split at h
  ·rename_i f q;obtain⟨B,ti,c,hi,h1,h2,rfl⟩:=zaf h;let⟨us,u,k⟩:=l;have a:((us.drop f.offset).take ti.size).length=ti.size:=by rw[<- h1];simp[k.len]
   exact .of (zwh r q c hi u rfl a h2 rfl) ((k.drop _).take _).val
  ·cases h
 ·cases h
theorem zbb(hA:Abs S ν vs ids L b Z PV):∀l:List Operand,VRs C Z ν (l.map (opv L b)) (l.map S.op)
 |[]=>trivial
 |x::l=>⟨hA.op x,zbb hA l⟩
def wq(P:Program)(S:St C)(t:TypeId)(bo:BinOp)(A B:AV C.D):U3 (AV C.D):=match A with
 | .row id=>(match B,S.heap id with
  | .nils,E (.row _ s)=>(match P.underlying t,bo with
   |some (.slice _),.eql=>E (.bool !s.nn)
   |some (.slice _),.neq=>E (.bool s.nn)
   |_,_=>F)
  | .nils,E (.orow _ s _)=>(match P.underlying t,bo with
   |some (.slice _),.eql=>E (.bool !s.nn)
   |some (.slice _),.neq=>E (.bool s.nn)
   |_,_=>F)
  |_,_=>F)
 | .nx id T i .whole=>(match B with
  | .nils=>zM S id T i λ_ s=>(match P.underlying t,bo with
   |some (.slice _),.eql=>E (.bool !s.nn)
   |some (.slice _),.neq=>E (.bool s.nn)
   |_,_=>F)
  |_=>F)
 |A=>wA P t bo A B
theorem zqI(hA:Abs S ν vs ids L b Z PV){bo:BinOp}(h:wq P S t bo (S.op x) (S.op y)=E A):Yl P Z PV L b ⟨E d,.binOp bo t x y t',ty,ps,af,g⟩ (λv=>VR C Z ν v A):=by
 have c:=hA.op x;have a:=hA.op y;unfold wq at h;split at h
 ·rename_i id B;rw[B] at c;split at h
  ·rename_i T s q hs;rw[q] at a;have a:opv L b y = .slice F 0 0:=a;have c:opv L b x=ν.hdr id:=c;let⟨m,r,_⟩:=hA.at hs;split at h
   ·rename_i e;cases h;exact .of (zaT m e c a r) Rv.bool
   ·rename_i e;cases h;exact .of (zaU m e c a r) Rv.bool
   ·cases h
  ·rename_i T s M q hs;rw[q] at a;have a:opv L b y = .slice F 0 0:=a;have c:opv L b x=ν.hdr id:=c;let⟨m,r,_⟩:=hA.at hs;split at h
   ·rename_i e;cases h;exact .of (zaT m e c a r) Rv.bool
   ·rename_i e;cases h;exact .of (zaU m e c a r) Rv.bool
   ·cases h
  ·cases h
 ·rename_i id T i B;rw[B] at c;split at h
  ·rename_i q;rw[q] at a;have a:opv L b y = .slice F 0 0:=a;have c:opv L b x=(ν.adr id).sub i.toNat:=c.1;let⟨U,u,h2,D⟩:=xO hA h;clear h;split at h2
   ·rename_i e;cases h2;intro w f;refine⟨.bool !u.nn,?_,Rv.bool⟩;rcases(D w f).cases f with l | l
    ·exact WK (PV:=PV) e c a l w f
    ·exact zaT (PV:=[.row (zB C U).o U ((ν.adr id).sub i.toNat) u]) (T:=(zB C U).o) 0 e c a rfl w l
   ·rename_i e;cases h2;intro w f;refine⟨.bool u.nn,?_,Rv.bool⟩;rcases(D w f).cases f with l | l
    ·exact WL (PV:=PV) e c a l w f
    ·exact zaU (PV:=[.row (zB C U).o U ((ν.adr id).sub i.toNat) u]) (T:=(zB C U).o) 0 e c a rfl w l
   ·cases h2
  ·cases h
 ·exact zst hA h
def Yg:Operand->Bool
 | .const .nilIface=>G
 |_=>N
def Xa(P:Program)(S:St C)(t:TypeId)(bo:BinOp)(x y:Operand):U3 (AV C.D):=bif Yg y then
    (match P.underlying t,S.op x,bo with
    |some (.interface _),.ifc _ _,.eql=>E (.bool N)
    |some (.interface _),.ifc _ _,.neq=>E (.bool G)
    |some (.interface _),.nili,.eql=>E (.bool G)
    |some (.interface _),.nili,.neq=>E (.bool N)
    |_,_,_=>F)
 else wq P S t bo (S.op x) (S.op y)
theorem wQ{y:Operand}(h:Yg y=G):y = .const .nilIface:=by
 unfold Yg at h;grind
theorem zqJ(hA:Abs S ν vs ids L b Z PV){bo:BinOp}(h:Xa P S t bo x y=E A):Yl P Z PV L b ⟨E d,.binOp bo t x y t',ty,ps,af,g⟩ (λv=>VR C Z ν v A):=by
 unfold Xa at h;cases c:Yg y with
 |false=>rw[c] at h;exact zqI hA h
 |true=>
  rw[c,Dy] at h;have:=wQ c;subst this;have a:=hA.op x;have c:opv L b (.const .nilIface) = .nilIface:=rfl;split at h
  ·rename_i m u B l f;rw[f] at a;cases h;let⟨v,e,_⟩:=a;exact .of (v :=.bool N) (λw _=>by simp[execOp,e,c,eqGuard,binOp,zf3 l]) Rv.bool
  ·rename_i m u B l f;rw[f] at a;cases h;let⟨v,e,_⟩:=a;exact .of (v :=.bool G) (λw _=>by simp[execOp,e,c,eqGuard,binOp,zf3 l]) Rv.bool
  ·rename_i m l f;rw[f] at a;cases h;exact .of (v :=.bool G) (λw _=>by simp[execOp,a.nili_inv,c,eqGuard,binOp,zf4 l]) Rv.bool
  ·rename_i m l f;rw[f] at a;cases h;exact .of (v :=.bool N) (λw _=>by simp[execOp,a.nili_inv,c,eqGuard,binOp,zf4 l]) Rv.bool
  ·cases h
theorem zwl{t:TypeId}{a:TypeDesc}(e:P.underlying t=E a)(c:∀f,a ≠.interface f)(x:Operand):z8 P Z PV L b ⟨E d,.makeInterface t x,ty,ps,af,g⟩ (.iface t (opv L b x)):=λw _=>by
 simp only[execOp,Instr.makeInterface,UW,UV e,UX];cases a<;>first | rfl | exact absurd rfl (c _)
def zf7(q:Bool)(A B:AV C.D):U3 (AV C.D):=match A,B with
 | .int k i,.int c j=>chk (decide (k=c)) (E (.int k (bif q then i else j)))
 | .bool i,.bool j=>E (.bool (bif q then i else j))
 | .str i,.str j=>E (.str (bif q then i else j))
 | .sl T s _,.sl T' s' _=>if h:T'=T then E (.sl T (bif q then s else h ▸ s') N) else F
 | .pnil,.pnil=>E .pnil
 | .nils,.nils=>E .nils
 | .pc i o,.pc a o'=>chk (I i a && I o o') (E (.pc i o))
 | .row i,.row a=>chk (I i a) (E (.row i))
 |_,_=>F
theorem VR.unclip{v:Value}{T:Nat}{s:Sl (C.D T)}{c:Bool}(h:VR C Z ν v (.sl T s c)):VR C Z ν v (.sl T s N):=(Rv.of_vrel h.sl_vrel).vr
theorem zsw{q:Bool}{A B R:AV C.D}(h:zf7 q A B=E R){v:Value}(c:VR C Z ν v (bif q then A else B)):VR C Z ν v R:=by
 unfold zf7 at h;split at h
 ·let⟨e,h2⟩:=zb h;grind
 ·grind
 ·grind
 ·split at h
  ·rename_i e;subst e;cases h;cases q<;>exact VR.unclip c
  ·cases h
 ·grind
 ·grind
 ·let⟨e,h2⟩:=zb h;simp only[gf] at e;have a:=ge e.1;have f:=ge e.2;grind
 ·let⟨e,h2⟩:=zb h;have a:=ge e;grind
 ·cases h
def zf8(q:Bool)(A B:AV C.D):U3 (AV C.D):=match zf7 q A B with
 |some R=>E R
 |none=>bif q then E A else E B
theorem zkA{q:Bool}{A B R:AV C.D}(h:zf8 q A B=E R){v:Value}(a:VR C Z ν v (bif q then A else B)):VR C Z ν v R:=by
 unfold zf8 at h;split at h
 ·rename_i e;cases h;exact zsw e a
 grind
def zbI(P:Program)(A:AV C.D)(t:TypeId)(ok:Bool):U3 (AV C.D):=match P.underlying t,P.info? t with
 |some (.interface _),_=>F
 |some _,E ti=>(match ok,A with
  |true,.ifc t' A=>chk (I t' t) (E (.tup [A,.bool G]))
  |false,.ifc t' A=>chk (I t' t) (E A)
  |true,.nili=>(match ti.zero with
   |some a=>E (.tup [zbD a,.bool N])
   |none=>F)
  |_,_=>F)
 |_,_=>F
theorem zmG(hA:Abs S ν vs ids L b Z PV){x:Operand}{M t:TypeId}{ok:Bool}(h:zbI P (S.op x) t ok=E A):Yl P Z PV L b ⟨E d,.typeAssert x M t ok,ty,ps,af,g⟩ (λv=>VR C Z ν v A):=by
 unfold zbI at h;have l:=hA.op x;split at h
 ·cases h
 ·rename_i m ti D r hi;split at h
  ·rename_i t' B e;rw[e] at l;let⟨a,h2⟩:=zb h;have a:=ge a;subst a;cases h2;let⟨u,c,f⟩:=l;refine .of (v :=.tuple #[u,.bool G]) (λw _=>?_) ⟨[u,.bool G],rfl,f,Rv.bool,trivial⟩;cases m<;>first | exact absurd rfl (D _) | simp[execOp,qK,UV r,c]
  ·rename_i t' B e;rw[e] at l;let⟨a,h2⟩:=zb h;have a:=ge a;subst a;cases h2;let⟨u,c,f⟩:=l;refine .of (v:=u) (λw _=>?_) f;cases m<;>first | exact absurd rfl (D _) | simp[execOp,qK,UV r,c]
  ·rename_i e;rw[e] at l;split at h
   ·rename_i q Q;cases h;refine .of (v :=.tuple #[q,.bool N]) (λw _=>?_) ⟨[q,.bool N],rfl,zkw q,Rv.bool,trivial⟩;cases m<;>first | exact absurd rfl (D _) | simp[execOp,qK,UV r,l.nili_inv,zeroValue,typeInfo,hi,Q]
   ·cases h
  ·cases h
 ·cases h
def zdd{D:Nat->Type}:List (AV D)->Bool
 |[.tup _]=>G
 |[A]=>A.leaf
 |_=>G
def zqK{D:Nat->Type}:List (AV D)->Bool
 |[A]=>A.leaf
 |_=>G
theorem zwm(f:Nat)(c:∀i,(ν.hdr i).oneCell'=G){a:List Value}{caps:List (AV C.D)}(e:VRs C Z ν a caps)(h:zqK caps=G):zaW f a = .func (.func f) #[] a.toArray:=by
 match a,caps,e with
 |[],_,_=>rfl
 |[v],[A],e=>
  refine zm6 f λu m=>?_
  rw[Dz.1 m];exact e.1.one h c
 |u::v::l,_,_=>cases u<;>rfl
def zbc(S:St C)(f:Nat)(fs caps:List Operand):U3 (AV C.D):=match fs with
 |[]=>chk (zqK (caps.map S.op)) (E (.clo f (caps.map S.op)))
 |fs=>match caps with
  |[]=>E (.clo f [.tup (fs.map S.op)])
  |_=>F
theorem zob(hA:Abs S ν vs ids L b Z PV){f:Nat}{fs caps:Array Operand}(h:zbc S f fs.toList caps.toList=E A):Yl P Z PV L b ⟨E d,.makeFunc (.func f) fs caps,ty,ps,af,g⟩ (λv=>VR C Z ν v A):=by
 unfold zbc at h;split at h
 ·rename_i e;let⟨c,h2⟩:=zb h;cases h2;have a:=zbb hA caps.toList;exact .of (zfY (fs:=[]) (by rw[e];rfl) rfl) ⟨_,(zwm f hA.one a c).symm,a⟩
 ·split at h
  ·rename_i e;cases h;exact .of (zfY (cs:=[]) rfl (by rw[e];rfl)) ⟨[.tuple (fs.toList.map (opv L b)).toArray],rfl,⟨_,rfl,zbb hA _⟩,trivial⟩
  ·cases h
def yG(P:Program)(S:St C)(ty:TypeId):Op->U3 (AV C.D)
 | .move x=>E (zc8 P ty (S.op x))
 | .assign x=>E (zc8 P ty (S.op x))
 | .pick c a e=>match S.op c with
  | .bool q=>zf8 q (S.op a) (S.op e)
  |_=>F
 | .nilCheck x=>match S.op x with
  | .pc id off=>E (.pc id off)
  | .pr id T i off=>E (.pr id T i off)
  | .pz T q off=>E (.pz T q off)
  | .nx id T i (.elem U k off)=>E (.nx id T i (.elem U k off))
  |_=>F
 | .binOp bo t x y _=>Xa P S t bo x y
 | .makeInterface t x=>match P.underlying t with
  |some (.interface _)=>F
  |some _=>E (.ifc t (S.op x))
  |none=>F
 | .typeAssert x _ t ok=>zbI P (S.op x) t ok
 | .unOp .not _ x=>match S.op x with
  | .bool q=>E (.bool !q)
  |_=>F
 | .unOp .neg _ x=>match S.op x with
  | .int k i=>E (.int k (k.wrap (0 - i)))
  |_=>F
 | .convert t t' x=>match P.underlying t,P.underlying t',S.op x with
  |some _,E (.int l),.int _ i=>E (.int l (l.wrap i))
  |_,_,_=>F
 | .makeFunc (.func f) fs caps=>zbc S f fs.toList caps.toList
 | .extract x i=>match S.op x with
  | .tup us=>(us[i]?).bind λA=>E (zc8 P ty A)
  |_=>F
 | .build t h=>WO P S t h.toList
 | .field t x m=>zea P t m (S.op x)
 | .fieldAddr t x m=>zd8 P t m (S.op x)
 | .indexAddr t x y=>XS P S t (S.op x) (S.op y)
 | .load t x=>x9 P S t (S.op x)
 | .index t x y=>zba P t (S.op x) (S.op y)
 | .slice t x lo hi F=>Yt P S t (S.op x) lo hi
 | .call ⟨.builtin .len,args,ts⟩=>match args.toList,ts.toList with
  |[x],[t]=>w9 P S t (S.op x)
  |_,_=>F
 | .call ⟨.builtin .min,args,ts⟩=>match args.toList with
  |[x,y]=>(match S.op x,S.op y with
   | .int k i,.int l j=>chk (decide (k=l)) (E (.int k (if j < i then j else i)))
   |_,_=>F)
  |_=>F
 | .call ⟨.builtin .max,args,ts⟩=>match args.toList with
  |[x,y]=>(match S.op x,S.op y with
   | .int k i,.int l j=>chk (decide (k=l)) (E (.int k (if i < j then j else i)))
   |_,_=>F)
  |_=>F
 |_=>F
theorem zxW{α:Type}{a:Array α}{x:α}(h:a.toList=[x]):a = #[x]:=jE
theorem zaX{α:Type}{a:Array α}{x y:α}(h:a.toList=[x,y]):a = #[x,y]:=jE
theorem zwn(hA:Abs S ν vs ids L b Z PV){op:Op}(h:yG P S ty op=E A):Yl P Z PV L b ⟨E d,op,ty,ps,af,g⟩ (λv=>VR C Z ν v A):=by
 unfold yG at h;split at h
 ·cases h;exact .of (zxQ rfl) (zc9 (hA.op _))
 ·cases h;exact .of (zsn rfl) (zc9 (hA.op _))
 ·rename_i c a e;have U:=hA.op c;split at h
  ·rename_i q l;rw[l] at U;cases q with
   |true=>exact .of (zso U.bool_inv rfl rfl) (zkA h (hA.op _))
   |false=>exact .of (zsp U.bool_inv rfl rfl) (zkA h (hA.op _))
  ·cases h
 ·rename_i x;have f:=hA.op x;split at h
  ·rename_i e;rw[e] at f;cases h;exact .of (vX (show opv L b x = .pointer (E _) from f)) (by rfl)
  ·rename_i e;rw[e] at f;cases h;exact .of (vX (show opv L b x = .pointer (E _) from f)) (by rfl)
  ·rename_i e;rw[e] at f;cases h;let⟨ad,cell,M,h1,h2⟩:=f.pz_inv;exact .of (vX M) jE
  ·rename_i e;rw[e] at f;cases h;exact .of (vX (show opv L b x = .pointer (E _) from f.1)) ⟨rfl,rfl⟩
  ·cases h
 ·exact zqJ hA h
 ·rename_i t x;split at h
  ·cases h
  ·rename_i td hn m;cases h;exact .of (zwl m (λms e=>hn ms e) x) ⟨_,rfl,hA.op x⟩
  ·cases h
 ·exact zmG hA h
 ·rename_i x;have f:=hA.op x;split at h
  ·rename_i e;rw[e] at f;cases h;exact .of (zz8 f.bool_inv) Rv.bool
  ·cases h
 ·rename_i x;have f:=hA.op x;split at h
  ·rename_i e;rw[e] at f;cases h;exact .of (zz9 f.int_inv) Rv.int
  ·cases h
 ·rename_i t t' x;have f:=hA.op x;split at h
  ·rename_i m R e;rw[e] at f;cases h;exact .of (zi4 m R f.int_inv) Rv.int
  ·cases h
 ·exact zob hA h
 ·rename_i x i;have f:=hA.op x;split at h
  ·rename_i us e;rw[e] at f;let⟨B,hB,h⟩:=gd h;cases h;let⟨ws,M,k⟩:=f;let⟨u,m,hr⟩:=k.get i B hB;exact .of (zqA M (by simpa using m)) (zc9 hr)
  ·cases h
 ·exact zn9 hA h
 ·exact zoa hA h
 ·exact zn4 hA h
 ·exact zn5 hA h
 ·exact zqF hA h
 ·exact zqH hA h
 ·exact zn6 hA h
 ·split at h
  ·rename_i l D;rw[zxW l,zxW D];exact zsu hA h
  ·cases h
 ·split at h
  ·rename_i x y l;rw[zaX l];have f:=hA.op x;have r:=hA.op y;split at h
   ·rename_i D Q;rw[D] at f;rw[Q] at r;let⟨hk,h2⟩:=zb h;obtain rfl:=Dv hk;cases h2;exact .of (zAa f.int_inv r.int_inv) Rv.int
   ·cases h
  ·cases h
 ·split at h
  ·rename_i x y l;rw[zaX l];have f:=hA.op x;have r:=hA.op y;split at h
   ·rename_i D Q;rw[D] at f;rw[Q] at r;let⟨hk,h2⟩:=zb h;obtain rfl:=Dv hk;cases h2;exact .of (zAb f.int_inv r.int_inv) Rv.int
   ·cases h
  ·cases h
 ·cases h
end
end
section
variable [Dfr]
structure Kp where
 m:Nat
 le:m<=64
 ν0:Val
mutual
def AV.ok{D:Nat->Type}(p:Nat->Prop):AV D->Prop
 | .row id=>p id
 | .pc id _=>p id
 | .pr id _ _ _=>p id
 | .nx id _ _ _=>p id
 | .agg cs=>AV.oks p cs
 | .tup cs=>AV.oks p cs
 | .clo _ cs=>AV.oks p cs
 | .ifc _ A=>AV.ok p A
 |_=>True
def AV.oks{D:Nat->Type}(p:Nat->Prop):List (AV D)->Prop
 |[]=>True
 |A::As=>AV.ok p A/\AV.oks p As
end
mutual
def AV.sub{D:Nat->Type}(id:Nat)(R:AV D):AV D->AV D
 | .row j=>bif I j id then R else .row j
 | .pc j o=>bif I j id then .und else .pc j o
 | .pr j T i o=>bif I j id then .und else .pr j T i o
 | .nx j T i x=>bif I j id then .und else .nx j T i x
 | .agg cs =>.agg (AV.subs id R cs)
 | .tup cs =>.tup (AV.subs id R cs)
 | .clo f cs =>.clo f (AV.subs id R cs)
 | .ifc t A =>.ifc t (AV.sub id R A)
 |A=>A
def AV.subs{D:Nat->Type}(id:Nat)(R:AV D):List (AV D)->List (AV D)
 |[]=>[]
 |A::As=>AV.sub id R A::AV.subs id R As
end
section
variable {κ:Kp}{C:Cod}{S:St C}{ν ν':Val}{vs:Nat->List Value}{ids:List Nat}{L:List (Nat×Value)}{b:Nat->Value}{Z:FS}{PV:List Priv}{P:Program}
variable {t t' ty:TypeId}{x y z:Operand}{d:Nat}{ps:String}{af:Array Edge}{g:U3 (Nat×Bool)}{A:AV C.D}
omit [Dfr] in
mutual
theorem AV.ok_mono{D:Nat->Type}{p q:Nat->Prop}(h:∀i,p i->q i):∀{A:AV D},A.ok p->A.ok q
 | .row _,k=>h _ k
 | .pc _ _,k=>h _ k
 | .pr _ _ _ _,k=>h _ k
 | .nx _ _ _ _,k=>h _ k
 | .agg cs,k=>AV.oks_mono h (A:=cs) k
 | .tup cs,k=>AV.oks_mono h (A:=cs) k
 | .clo _ cs,k=>AV.oks_mono h (A:=cs) k
 | .ifc _ A,k=>AV.ok_mono h (A:=A) k
 | .int _ _,_=>trivial
 | .bool _,_=>trivial
 | .str _,_=>trivial
 | .sl _ _ _,_=>trivial
 | .pz _ _ _,_=>trivial
 | .pnil,_=>trivial
 | .nils,_=>trivial
 | .nilf,_=>trivial
 | .nili,_=>trivial
 | .und,_=>trivial
theorem AV.oks_mono{D:Nat->Type}{p q:Nat->Prop}(h:∀i,p i->q i):∀{A:List (AV D)},AV.oks p A->AV.oks q A
 |[],_=>trivial
 |A::As,⟨k,l⟩=>⟨AV.ok_mono h k,AV.oks_mono h l⟩
end
omit [Dfr] in
mutual
theorem VR.congr{p:Nat->Prop}(h:∀i,p i->ν.hdr i=ν'.hdr i/\ν.adr i=ν'.adr i):∀{A:AV C.D}{v:Value},A.ok p->VR C Z ν v A->VR C Z ν' v A
 | .row _,_,k,r=>by have:=(h _ k).1;rw[show _=ν.hdr _ from r,this];rfl
 | .pc _ _,_,k,r=>by have:=(h _ k).2;rw[show _=V (E ((ν.adr _).add _)) from r,this];rfl
 | .pr _ _ _ _,_,k,r=>by have:=(h _ k).1;rw[show _=V (E (zi (ν.hdr _) _)) from r,this];rfl
 | .nx _ _ _ _,_,k,r=>by refine⟨?_,r.2⟩;rw[<- (h _ k).2];exact r.1
 | .agg cs,_,k,⟨vs,e,r⟩=>⟨vs,e,VRs.congr h k r⟩
 | .tup cs,_,k,⟨vs,e,r⟩=>⟨vs,e,VRs.congr h k r⟩
 | .clo _ cs,_,k,⟨vs,e,r⟩=>⟨vs,e,VRs.congr h k r⟩
 | .ifc _ A,_,k,⟨u,e,r⟩=>⟨u,e,VR.congr h k r⟩
 | .int _ _,_,_,r=>r
 | .bool _,_,_,r=>r
 | .str _,_,_,r=>r
 | .sl _ _ _,_,_,r=>r
 | .pz _ _ _,_,_,r=>r
 | .pnil,_,_,r=>r
 | .nils,_,_,r=>r
 | .nilf,_,_,r=>r
 | .nili,_,_,r=>r
 | .und,_,_,_=>trivial
theorem VRs.congr{p:Nat->Prop}(h:∀i,p i->ν.hdr i=ν'.hdr i/\ν.adr i=ν'.adr i):∀{cs:List (AV C.D)}{vs:List Value},AV.oks p cs->VRs C Z ν vs cs->VRs C Z ν' vs cs
 |[],[],_,_=>trivial
 |A::As,v::vs,⟨k,l⟩,⟨r,s⟩=>⟨VR.congr h k r,VRs.congr h l s⟩
 |[],_::_,_,r=>r.elim
 |_::_,[],_,r=>r.elim
end
omit [Dfr] in
mutual
theorem AV.ok_sub{D:Nat->Type}{p:Nat->Prop}{id:Nat}{R:AV D}(a:R.ok λj=>p j/\j≠id):∀{A:AV D},A.ok p->(AV.sub id R A).ok λj=>p j/\j≠id
 | .row j,k=>by
  unfold AV.sub;cases e:I j id with
  |true=>exact a
  |false=>exact⟨k,λe'=>by rw[e'] at e;simp at e⟩
 | .pc j o,k=>by
  unfold AV.sub;cases e:I j id with
  |true=>trivial
  |false=>exact⟨k,λe'=>by rw[e'] at e;simp at e⟩
 | .pr j _ _ _,k=>by
  unfold AV.sub;cases e:I j id with
  |true=>trivial
  |false=>exact⟨k,λe'=>by rw[e'] at e;simp at e⟩
 | .nx j _ _ _,k=>by
  unfold AV.sub;cases e:I j id with
  |true=>trivial
  |false=>exact⟨k,λe'=>by rw[e'] at e;simp at e⟩
 | .agg cs,k=>AV.oks_sub a (A:=cs) k
 | .tup cs,k=>AV.oks_sub a (A:=cs) k
 | .clo _ cs,k=>AV.oks_sub a (A:=cs) k
 | .ifc _ A,k=>AV.ok_sub a (A:=A) k
 | .int _ _,_=>trivial
 | .bool _,_=>trivial
 | .str _,_=>trivial
 | .sl _ _ _,_=>trivial
 | .pz _ _ _,_=>trivial
 | .pnil,_=>trivial
 | .nils,_=>trivial
 | .nilf,_=>trivial
 | .nili,_=>trivial
 | .und,_=>trivial
theorem AV.oks_sub{D:Nat->Type}{p:Nat->Prop}{id:Nat}{R:AV D}(a:R.ok λj=>p j/\j≠id):∀{A:List (AV D)},AV.oks p A->AV.oks (λj=>p j/\j≠id) (AV.subs id R A)
 |[],_=>trivial
 |A::As,⟨k,l⟩=>⟨AV.ok_sub a k,AV.oks_sub a l⟩
end
omit [Dfr] in
mutual
theorem VR.sub{id:Nat}{R:AV C.D}(a:VR C Z ν (ν.hdr id) R):∀{A:AV C.D}{v:Value},VR C Z ν v A->VR C Z ν v (AV.sub id R A)
 | .row j,v,r=>by
  unfold AV.sub;cases e:I j id with
  |true=>have:=ge e;subst this;rw[show v=ν.hdr j from r];exact a
  |false=>exact r
 | .pc j o,v,r=>by
  unfold AV.sub;cases e:I j id with
  |true=>trivial
  |false=>exact r
 | .pr j _ _ _,v,r=>by
  unfold AV.sub;cases e:I j id with
  |true=>trivial
  |false=>exact r
 | .nx j _ _ _,v,r=>by
  unfold AV.sub;cases e:I j id with
  |true=>trivial
  |false=>exact r
 | .agg cs,_,⟨vs,e,r⟩=>⟨vs,e,VRs.sub a r⟩
 | .tup cs,_,⟨vs,e,r⟩=>⟨vs,e,VRs.sub a r⟩
 | .clo _ cs,_,⟨vs,e,r⟩=>⟨vs,e,VRs.sub a r⟩
 | .ifc _ A,_,⟨u,e,r⟩=>⟨u,e,VR.sub a r⟩
 | .int _ _,_,r=>r
 | .bool _,_,r=>r
 | .str _,_,r=>r
 | .sl _ _ _,_,r=>r
 | .pz _ _ _,_,r=>r
 | .pnil,_,r=>r
 | .nils,_,r=>r
 | .nilf,_,r=>r
 | .nili,_,r=>r
 | .und,_,_=>trivial
theorem VRs.sub{id:Nat}{R:AV C.D}(a:VR C Z ν (ν.hdr id) R):∀{cs:List (AV C.D)}{vs:List Value},VRs C Z ν vs cs->VRs C Z ν vs (AV.subs id R cs)
 |[],[],_=>trivial
 |A::As,v::vs,⟨r,s⟩=>⟨VR.sub a r,VRs.sub a s⟩
 |[],_::_,r=>r.elim
 |_::_,[],r=>r.elim
end
omit [Dfr] in
structure AbsL(κ:Kp)(S:St C)(ν:Val)(vs:Nat->List Value)(ids:List Nat)(L:List (Nat×Value))(b:Nat->Value)(Z:FS)(PV:List Priv):Prop extends Abs S ν vs ids L b Z PV where
 live:∀t,(S.env t).ok λid=>(S.heap id).isSome=G
 livec:∀id cs,S.heap id=E (.cell cs)->AV.oks (λid=>(S.heap id).isSome=G) cs
 keep:∀k,k < κ.m->(S.heap k).isSome=G->ν.hdr k=κ.ν0.hdr k/\(ν.adr k).a=(κ.ν0.adr k).a/\(Z0 (S.heap k)=G->(ν.adr k).sub=(κ.ν0.adr k).sub)
omit [Dfr] in
def zC(κ:Kp)(S:St C)(L:List (Nat×Value))(b:Nat->Value)(Z:FS)(PV:List Priv):Prop:=∃ν vs ids,AbsL κ S ν vs ids L b Z PV
def Ent.sub(id:Nat)(R:AV C.D):Ent C->Ent C
 | .cell cs =>.cell (AV.subs id R cs)
 | .row T s =>.row T s
 | .obj k T b s =>.obj k T b s
 | .orow T s g =>.orow T s g
def St.sub(S:St C)(id:Nat)(R:AV C.D):St C:=
 {env:=λt=>AV.sub id R (S.env t),heap:=λj=>bif I j id then F else(S.heap j).map (Ent.sub id R)}
theorem zsx{id:Nat}{R:AV C.D}{o:U3 (Ent C)}:Z0 (o.map (Ent.sub id R))=Z0 o:=by
 cases o with
 |none=>rfl
 |some e=>cases e<;>rfl
theorem VD{α β:Type}(f:α->β):∀(l:List α) (m:Nat),(l.map f).eraseIdx m=(l.eraseIdx m).map f
 |[],_=>rfl
 |_::_,0=>rfl
 |a::l,m+1=>by simp[VD f l m]
omit [Dfr] in
theorem AbsL.sub (h:AbsL κ S ν vs ids L b Z PV) {id m:Nat}{R:AV C.D}{τ:FS}{PV':List Priv}(hm:ids[m]?=E id) (Q:Z.le τ) (hR:VR C τ ν (ν.hdr id) R) (B:R.ok λj=>(S.heap j).isSome=G/\j≠id) (hP:PV.eraseIdx m=PV') :
    AbsL κ (S.sub id R) ν vs (ids.eraseIdx m) L b τ PV':=by
 have r:∀j,j∈ids.eraseIdx m↔j∈ids/\j≠id:=by
  intro j;have hp:=qx.1 (UD.1 h.nd);let⟨hml,hid⟩:=UC.1 hm;rw[qI];constructor
  ·grind
  ·rintro⟨f,hne⟩;obtain⟨i,hi,rfl⟩:=qS f;grind
 have c:∀j,j≠id->(S.sub id R).heap j=(S.heap j).map (Ent.sub id R):=λj f=>by
  show(bif I j id then F else _)=_;cases e:I j id with
  |true=>exact absurd (ge e) f
  |false=>rfl
 have hid0:(S.sub id R).heap id=none:=by
  show(bif I id id then F else _)=_;simp
 have a:∀j,((S.heap j).isSome=G/\j≠id)↔((S.sub id R).heap j).isSome=true:=λj=>by
  grind
 refine⟨⟨List.Nodup.sublist (qU _ _) h.nd,λj=>?_,?_,λj cs l=>?_,λt=>VR.sub hR ((h.env t).mono Q),h.one⟩,λt=>?_,λj cs l=>?_,λk hk hs=>have q:=h.keep k hk ((a k).2 hs).1;⟨q.1,q.2.1,λU=>q.2.2 (by rw[c k ((a k).2 hs).2,zsx] at U;exact U)⟩⟩
 ·rw[r,h.dom];exact a j
 · rw[<- hP,h.pv,VD];apply D0;intro j f;have:=((r j).1 f).2;rw[c j this];cases S.heap j with
   |none=>rfl
   |some e=>cases e<;>rfl
 · by_cases e:j=id
   ·grind
   · rw[c j e] at l;cases f:S.heap j with
     |none=>grind
     |some M=>
      rw[f] at l;cases M with
      |cell u=>cases l;exact VRs.sub hR ((h.cell j u f).mono Q)
      |row T s=>cases l
      |obj k T b s=>cases l
      |orow T s g=>cases l
 ·exact AV.ok_mono (λj f=>(a j).1 f) (AV.ok_sub B (h.live t))
 · by_cases e:j=id
   ·grind
   · rw[c j e] at l;cases f:S.heap j with
     |none=>grind
     |some M=>
      rw[f] at l;cases M with
      |cell u=>cases l;exact AV.oks_mono (λj f=>(a j).1 f) (AV.oks_sub B (h.livec j u f))
      |row T s=>cases l
      |obj k T b s=>cases l
      |orow T s g=>cases l
def Ent.hd(e:Ent C)(v:Value):Value:=match e with
 | .row _ _=>v
 | .obj _ _ _ _=>v
 | .orow _ _ _=>v
 | .cell _ =>.slice F 0 0
def Ent.at(e:Ent C)(v:Value)(a:Loc):Value:=match e with
 | .row _ _=>v
 | .obj _ _ _ _=>v
 | .orow _ _ _=>v
 | .cell _ =>.pointer (E a.a)
omit [Dfr] in
def Ent.pv(e:Ent C)(v:Value)(a:Loc)(us:List Value):Priv:=match e with
 | .cell _ =>.cell a.a us
 | .row T s =>.row (zB C T).o T v s
 | .obj k T b s=>C.opv k T v a.a b s
 | .orow T s g =>.row (Zd C T) T v (hpl C T a.sub s g)
theorem AbsL.new (h:AbsL κ S ν vs ids L b Z PV) {id:Nat}(h0:S.heap id=F) (h64:κ.m<=id) {e:Ent C}{v:Value}{a:Loc}{us:List Value}{A:AV C.D}{p:Priv}(hv:∀ν',ν'.hdr id=e.hd v->ν'.adr id=a->VR C Z ν' (e.at v a) A/\A.ok λj=>j=id)
    (Q:v.oneCell'=G) (hp:p=e.pv v a us) (U:∀cs,e = .cell cs->VRs C Z ν us cs/\AV.oks (λid=>(S.heap id).isSome=G) cs) {u:Value} (hu:u=e.at v a) {d:Nat} :
    zC κ {env:=upd S.env d A,heap:=upd S.heap id (E e)} ((d,u)::L) b Z (p::PV):=by
 let ν':Val:={hdr:=upd ν.hdr id (e.hd v),adr:=upd ν.adr id a}
 let f:=upd vs id us
 have l:∀j,(S.heap j).isSome=G->j≠id:=λj c e=>jE
 have q:∀j,(S.heap j).isSome=G->ν.hdr j=ν'.hdr j/\ν.adr j=ν'.adr j:=λj c=>⟨(zq (l j c)).symm,(zq (l j c)).symm⟩
 have M:∀j,(S.heap j).isSome=G->(upd S.heap id (E e) j).isSome=true:=λj c=>by rw[zq (l j c)];exact c
 have hid:id ∉ ids:=λhm=>by have:=(h.dom id).1 hm;grind
 let⟨hA1,hA2⟩:=hv ν' zp zp;refine⟨ν',f,id::ids,⟨⟨UE.2 ⟨hid,h.nd⟩,λj=>?_,?_,λj cs c=>?_,λt=>?_,λi=>?_⟩,λt=>?_,λj cs c=>?_,λk hk hs=>?_⟩⟩
 · by_cases e':j=id
   ·subst e';show _↔(upd S.heap j (E e) j).isSome=G;rw[zp];simp
   ·show _↔(upd S.heap id (E e) j).isSome=G;rw[zq e',Db,h.dom];grind
 · rw[UF,h.pv];refine List.cons_eq_cons.2 ⟨?_,D0 λj c=>?_⟩
   · show p=zK C ν' f id (upd S.heap id (E e) id);rw[hp,zp];cases e with
     |cell cs=>simp[zK,f,ν',zp,Ent.pv]
     |row T s=>simp[zK,ν',zp,Ent.hd,Ent.pv]
     |obj k T b s=>simp[zK,ν',zp,Ent.hd,Ent.pv]
     |orow T s g=>simp[zK,ν',zp,Ent.hd,Ent.pv]
   · have B:=l j ((h.dom j).1 c);show zK C ν vs j (S.heap j)=zK C ν' f j (upd S.heap id (E e) j);rw[zq B];cases S.heap j with
     |none=>rfl
     |some en=>cases en<;>simp[zK,f,ν',zq B]
 · by_cases e':j=id
   ·subst e';have c:upd S.heap j (E e) j=_:=c;rw[zp] at c;cases c;show VRs C Z ν' (upd vs j us j) cs;rw[zp];exact(U cs rfl).1.congr q (U cs rfl).2
   ·have c:upd S.heap id (E e) j=_:=c;rw[zq e'] at c;show VRs C Z ν' (upd vs id us j) cs;rw[zq e'];exact(h.cell j cs c).congr q (h.livec j cs c)
 · show VR C Z ν' (look ((d,u)::L) b t) (upd S.env d A t);unfold look upd;cases e':I t d with
   |true=>grind
   |false=>exact(h.env t).congr q (h.live t)
 · by_cases e':i=id
   ·subst e';show(upd ν.hdr i _ i).oneCell'=G;rw[zp];cases e<;>first | exact Q | rfl
   ·show(upd ν.hdr id _ i).oneCell'=G;rw[zq e'];exact h.one i
 · show(upd S.env d A t).ok λj=>(upd S.heap id (E e) j).isSome=G
   unfold upd;cases e':I t d with
   |true=>exact AV.ok_mono (λj c=>by subst c;simp) hA2
   |false=>exact AV.ok_mono (λj c=>jE) (h.live t)
 · by_cases e':j=id
   ·subst e';have c:upd S.heap j (E e) j=_:=c;rw[zp] at c;cases c;exact AV.oks_mono M (U cs rfl).2
   ·have c:upd S.heap id (E e) j=_:=c;rw[zq e'] at c;exact AV.oks_mono M (h.livec j cs c)
 · have r:k≠id:=Zc
   have hs:(upd S.heap id (E e) k).isSome=true:=hs;rw[zq r] at hs;have:=q k hs;have h2:=h.keep k hk hs;refine⟨this.1.symm.trans h2.1,(congrArg Loc.a this.2).symm.trans h2.2.1,λR=>(congrArg Loc.sub this.2).symm.trans (h2.2.2 ?_)⟩;have R:Z0 (upd S.heap id (E e) k)=true:=R;rw[zq r] at R;exact R
mutual
def AV.knx{D:Nat->Type}(q:Nat->Bool):AV D->AV D
 | .nx j T i x=>bif q j then .und else .nx j T i x
 | .agg cs =>.agg (AV.knxs q cs)
 | .tup cs =>.tup (AV.knxs q cs)
 | .clo f cs =>.clo f (AV.knxs q cs)
 | .ifc t A =>.ifc t (AV.knx q A)
 |A=>A
def AV.knxs{D:Nat->Type}(q:Nat->Bool):List (AV D)->List (AV D)
 |[]=>[]
 |A::As=>AV.knx q A::AV.knxs q As
end
omit [Dfr] in
mutual
theorem VR.knx{p:Nat->Prop}{q:Nat->Bool}(h:∀i,p i->ν.hdr i=ν'.hdr i/\(ν.adr i).a=(ν'.adr i).a)(c:∀i,p i->q i=N->(ν.adr i).sub=(ν'.adr i).sub):∀{A:AV C.D}{v:Value},A.ok p->VR C Z ν v A->VR C Z ν' v (AV.knx q A)
 | .row _,_,k,r=>by have:=(h _ k).1;rw[show _=ν.hdr _ from r,this];rfl
 | .pc _ _,_,k,r=>by have:=(h _ k).2;rw[show _=V (E ((ν.adr _).a.add _)) from r,this];rfl
 | .pr _ _ _ _,_,k,r=>by have:=(h _ k).1;rw[show _=V (E (zi (ν.hdr _) _)) from r,this];rfl
 | .nx j _ _ _,_,k,r=>by
  unfold AV.knx;cases e:q j with
  |true=>trivial
  |false=>refine⟨?_,r.2⟩;rw[<- c j k e];exact r.1
 | .agg cs,_,k,⟨vs,e,r⟩=>⟨vs,e,VRs.knx h c k r⟩
 | .tup cs,_,k,⟨vs,e,r⟩=>⟨vs,e,VRs.knx h c k r⟩
 | .clo _ cs,_,k,⟨vs,e,r⟩=>⟨vs,e,VRs.knx h c k r⟩
 | .ifc _ A,_,k,⟨u,e,r⟩=>⟨u,e,VR.knx h c k r⟩
 | .int _ _,_,_,r=>r
 | .bool _,_,_,r=>r
 | .str _,_,_,r=>r
 | .sl _ _ _,_,_,r=>r
 | .pz _ _ _,_,_,r=>r
 | .pnil,_,_,r=>r
 | .nils,_,_,r=>r
 | .nilf,_,_,r=>r
 | .nili,_,_,r=>r
 | .und,_,_,_=>trivial
theorem VRs.knx{p:Nat->Prop}{q:Nat->Bool}(h:∀i,p i->ν.hdr i=ν'.hdr i/\(ν.adr i).a=(ν'.adr i).a)(c:∀i,p i->q i=N->(ν.adr i).sub=(ν'.adr i).sub):∀{cs:List (AV C.D)}{vs:List Value},AV.oks p cs->VRs C Z ν vs cs->VRs C Z ν' vs (AV.knxs q cs)
 |[],[],_,_=>trivial
 |A::As,v::vs,⟨k,l⟩,⟨r,s⟩=>⟨VR.knx h c k r,VRs.knx h c l s⟩
 |[],_::_,_,r=>r.elim
 |_::_,[],_,r=>r.elim
end
omit [Dfr] in
mutual
theorem AV.ok_knx{D:Nat->Type}{p:Nat->Prop}{q:Nat->Bool}:∀{A:AV D},A.ok p->(AV.knx q A).ok p
 | .row _,k=>k
 | .pc _ _,k=>k
 | .pr _ _ _ _,k=>k
 | .nx j _ _ _,k=>by
  unfold AV.knx;cases q j with
  |true=>trivial
  |false=>exact k
 | .agg cs,k=>AV.oks_knx (A:=cs) k
 | .tup cs,k=>AV.oks_knx (A:=cs) k
 | .clo _ cs,k=>AV.oks_knx (A:=cs) k
 | .ifc _ A,k=>AV.ok_knx (A:=A) k
 | .int _ _,_=>trivial
 | .bool _,_=>trivial
 | .str _,_=>trivial
 | .sl _ _ _,_=>trivial
 | .pz _ _ _,_=>trivial
 | .pnil,_=>trivial
 | .nils,_=>trivial
 | .nilf,_=>trivial
 | .nili,_=>trivial
 | .und,_=>trivial
theorem AV.oks_knx{D:Nat->Type}{p:Nat->Prop}{q:Nat->Bool}:∀{A:List (AV D)},AV.oks p A->AV.oks p (AV.knxs q A)
 |[],_=>trivial
 |A::As,⟨k,l⟩=>⟨AV.ok_knx k,AV.oks_knx l⟩
end
def Ent.knx(q:Nat->Bool):Ent C->Ent C
 | .cell cs =>.cell (AV.knxs q cs)
 | .row T s =>.row T s
 | .obj k T b s =>.obj k T b s
 | .orow T s g =>.orow T s g
end
variable [Dfr]
inductive Out(C:Cod) where
 |go (S:St C)
 |pan (v:AV C.D) (S:St C)
def nid(d j:Nat):Nat:=(d+1) * 64+j
def isNone{α:Type}:U3 α->Bool
 |none=>G
 |some _=>N
theorem yQ(κ:Kp)(d j:Nat):κ.m<=nid d j:=by have:=κ.le;unfold nid;omega
theorem Ze{α:Type}{x:U3 α}(h:isNone x=G):x=none:=by cases x<;>first | rfl | cases h
section
variable {κ:Kp}{C:Cod}{S:St C}{ν:Val}{vs:Nat->List Value}{ids:List Nat}{L:List (Nat×Value)}{b:Nat->Value}{Z:FS}{PV:List Priv}{P:Program}
variable {t t' ty:TypeId}{x y z:Operand}{d:Nat}{ps:String}{af:Array Edge}{g:U3 (Nat×Bool)}{A:AV C.D}{n:Nat}{w0:Start}{σ0:FS}{o:Oper}{X:U3 (Out C)}
def Xy(C:Cod)(Z:FS)(u:Value)(v:AV C.D):Prop:=v.ok (λ_=>False)/\∀ν:Val,(∀i,(ν.hdr i).oneCell'=G)->VR C Z ν u v
def OpA(κ:Kp)(P:Program)(n:Nat)(w0:Start)(σ0:FS)(o:Oper)(X:U3 (Out C))(L:List (Nat×Value))(b:Nat->Value)(Z:FS)(PV:List Priv):Prop:=
 ∀out,X=E out->∀a w,Inv w0 σ0 Z PV w->Fits n L b a->∀(K:Act->World->Prop) (Q:Exit->Act->World->Prop),
  (∀S',out = .go S'->∀e c PV' a' w',Inv w0 σ0 c PV' w'->Fits n e b a'->zC κ S' e b c PV'->K a' w')->
  (∀v S',out = .pan v S'->∀u c PV' w',Inv w0 σ0 c PV' w'->zC κ S' L b c PV'->Xy C c u v->Q (.panic [{v:=u,recovered:=false}]) a w')->o.wp P a w K Q
theorem OpA.of(h:Xl P n w0 σ0 o X L b Z PV λp' l e PV'=>∀r,p'=E r->∃S',r = .go S'/\zC κ S' l b e PV'):OpA κ P n w0 σ0 o X L b Z PV:=by
 intro out c a w hi f K Q m q;refine h out c a w hi f K Q ?_;grind
omit [Dfr] in
theorem AbsL.put(h:AbsL κ S ν vs ids L b Z PV){v:Value}(c:VR C Z ν v A)(a:A.ok λid=>(S.heap id).isSome=G):AbsL κ (S.put d A) ν vs ids ((d,v)::L) b Z PV:=by
 refine⟨⟨h.nd,h.dom,h.pv,h.cell,λt=>?_,h.one⟩,λt=>?_,h.livec,h.keep⟩
 ·show VR C Z ν (look ((d,v)::L) b t) (upd S.env d A t);unfold look upd;cases I t d with
  |true=>exact c
  |false=>exact h.env t
 ·show(upd S.env d A t).ok _;unfold upd;cases I t d with
  |true=>exact a
  |false=>exact h.live t
theorem zag (h:AbsL κ S ν vs ids L b Z PV) {op:Op}(f:O d n=G) (e:yG P S ty op=E A) (a:A.ok λid=>(S.heap id).isSome=G) :
    OpA κ P n w0 σ0 ⟨E d,op,ty,ps,af,g⟩ (E (.go (S.put d A))) L b Z PV:=
 .of ((zwn h.toAbs e).ok f rfl λv l r c=>⟨_,(W.inj c).symm,ν,vs,ids,h.put l a⟩)
def St.frz1(S:St C)(id:Nat):St C:=match S.heap id with
 |some (.row T s)=>S.sub id (.sl T s N)
 |some (.orow T s g)=>bif g.rd then S.sub id (.sl T s N) else S
 |_=>S
def St.frz(S:St C):List Nat->St C
 |[]=>S
 |id::r=>(S.frz1 id).frz r
omit [Dfr] in
theorem Abs.idx(h:Abs S ν vs ids L b Z PV){id:Nat}{e:Ent C}(a:S.heap id=E e):∃m:Nat,PV[m]?=E (zK C ν vs id (E e))/\ids[m]?=E id:=h.at a
theorem zsy(h:zC κ S L b Z PV)(id:Nat){w:World}(hi:Inv w0 σ0 Z PV w):∃r PV',Inv w0 σ0 r PV' w/\zC κ (S.frz1 id) L b r PV':=by
 unfold St.frz1;split
 ·rename_i T s hs;let⟨ν,vs,ids,h⟩:=h;let⟨m,q,hid⟩:=h.at hs;let⟨h1,f,l,a,c⟩:=hi.freeze q;have f:zn (zB C T).o T (ν.hdr id) s Z h1:=f;refine⟨_,_,c,ν,vs,_,h.sub hid a ?_ trivial rfl⟩;exact(Rv.of_vrel (f.fast a λb o v e=>Xx b o v e)).vr
 ·rename_i T s g hs;cases u:g.rd with
  |false=>grind
  |true=>
   let⟨ν,vs,ids,h⟩:=h;let⟨m,q,hid⟩:=h.at hs;let⟨h1,f,l,a,c⟩:=hi.freeze q;have f:zn (Zd C T) T (ν.hdr id) (hpl C T (ν.adr id).sub s g) Z h1:=f;refine⟨_,_,c,ν,vs,_,h.sub hid a ?_ trivial rfl⟩;exact(Rv.of_vrel (zkv u (f.fast a λb o v e=>Xx b o v e))).vr
 grind
theorem zeb:∀(l:List Nat) {S:St C}{Z:FS}{PV:List Priv}(h:zC κ S L b Z PV) {w:World}(hi:Inv w0 σ0 Z PV w),∃c PV',Inv w0 σ0 c PV' w/\zC κ (S.frz l) L b c PV'
 |[],S,Z,PV,h,w,hi=>⟨Z,PV,hi,h⟩
 |id::r,S,Z,PV,h,w,hi=>by
  let⟨c,PV',a,e⟩:=zsy h id hi;exact zeb r e a
theorem OpA.frz(l:List Nat)(h:zC κ S L b Z PV)(k:∀c PV',zC κ (S.frz l) L b c PV'->OpA κ P n w0 σ0 o X L b c PV'):OpA κ P n w0 σ0 o X L b Z PV:=by
 intro out q a w hi r K Q f u;let⟨c,PV',e,m⟩:=zeb l h hi;exact k c PV' m out q a w e r K Q f u
def zbJ(S:St C)(d:Nat)(cs:List (AV C.D)):U3 (Out C):=
 chk (isNone (S.heap (nid d 0))) (E (.go {env:=upd S.env d (.pc (nid d 0) 0),heap:=upd S.heap (nid d 0) (E (.cell cs))}))
theorem AbsL.oks_op(h:AbsL κ S ν vs ids L b Z PV)(x:Operand):(S.op x).ok λid=>(S.heap id).isSome=true:=by
 cases x with
 |tmp t=>exact h.live t
 |const v=>
  have h1:∀v:Value,(ZY v:AV C.D).ok λid=>(S.heap id).isSome=true:=by
   intro v;unfold ZY;split<;>trivial
  have h2:∀l:List Value,AV.oks (λid=>(S.heap id).isSome=G) (l.map (ZY (D:=C.D))):=by
   intro l
   induction l with
   |nil=>trivial
   |cons v l a=>exact⟨h1 v,a⟩
  show(zbD v:AV C.D).ok _;unfold zbD;split
  ·exact h2 _
  ·exact h1 _
 |global _=>trivial
 |func f=>trivial
theorem AV.oks_cells{D:Nat->Type}{p:Nat->Prop}:∀{A:AV D},A.ok p->AV.oks p (zt A):=by
 intro A h;cases A
 case agg cs=>exact h
 all_goals exact⟨h,trivial⟩
theorem zqL(h:AbsL κ S ν vs ids L b Z PV)(u:O d n=G)(hs:YU (S.op x)=G):OpA κ P n w0 σ0 ⟨E d,.box t x,ty,ps,af,g⟩ (zbJ S d (zt (S.op x))) L b Z PV:=by
 intro out f;let⟨h0,f⟩:=zb f;have h0:=Ze h0;let⟨m,_⟩:=ZE (h.op x) hs h.one;refine(OpA.of (zqB u rfl λc r q=>⟨_,(W.inj q).symm,?_⟩):OpA κ P n w0 σ0 _ (E (.go _)) L b Z PV) out f;refine h.new h0 (yQ κ d 0) (e :=.cell _) (v :=.slice F 0 0) (a:=⟨c,λ_ =>.slice F 0 0⟩) (us:=(opv L b x).cells.toList) (A :=.pc (nid d 0) 0) (λν' h1 h2=>⟨?_,by show nid d 0=nid d 0;rfl⟩) rfl rfl (λcs l=>?_) (by simp[Ent.at,Addr.add])
 ·show V (E c) = .pointer (E ((ν'.adr _).add 0));rw[h2];simp[Addr.add]
 ·cases l;exact⟨m,AV.oks_cells (h.oks_op x)⟩
theorem YV{p:Nat->Prop}:∀l:List Value,AV.oks p (l.map (ZY (D:=C.D)))
 |[]=>trivial
 |v::l=>⟨by unfold ZY;split<;>trivial,YV l⟩
def zqM(S:St C)(d k T:Nat):U3 (Out C):=
 chk (isNone (S.heap (nid d 0))) (E (.go {env:=upd S.env d (.pc (nid d 0) 0),heap:=upd S.heap (nid d 0) (E (.obj k T ⟨#[]⟩ ⟨[],N⟩))}))
def Xg(P:Program)(S:St C)(d:Nat)(t:TypeId):U3 (Out C):=match P.info? t with
 |some ti=>(match ti.zero with
  |some a=>(match C.oal t a.cells.toList with
   |some (k,T)=>zqM S d k T
   |none=>zbJ S d (a.cells.toList.map ZY))
  |none=>F)
 |none=>F
theorem zoc(h:AbsL κ S ν vs ids L b Z PV)(R:O d n=G):OpA κ P n w0 σ0 ⟨E d,.alloc t,ty,ps,af,g⟩ (Xg P S d t) L b Z PV:=by
 intro out f;unfold Xg at f;split at f
 ·rename_i ti hi;split at f
  ·rename_i q M;split at f
   ·rename_i k T ho;let⟨h0,f⟩:=zb f;cases f;have h0:=Ze h0;intro a w B D K Q U hP;have m:(execOp a.eval ⟨E d,.alloc t,ty,ps,af,g⟩).run P w = .ok (.value (.pointer (E ⟨w.heap.size,0,F⟩))) (w.alloc (.cells q.cells t (0,0))):=by
     rw[D.eval];simp[execOp,Instr.alloc,zeroValue,typeInfo,hi,M,newVar,newRow,newObj,Sem.run]
    unfold qc;rw[m,qA]
    have u:Inv w0 σ0 Z (C.opv k T (.pointer (E ⟨w.heap.size,0,F⟩)) ⟨w.heap.size,0,F⟩ ⟨#[]⟩ ⟨[],N⟩::PV) (w.alloc (.cells q.cells t (0,0))):=
     B.cons (h1:=Za w.heap.size t q.cells) (C.oal_ok t _ k T ho _ _ _ _ (.refl _)) (x8 (Ya _ _)) (vA _ _ _ _) λb i hb=>by rw[(Yy hb).1];grind
    refine U _ rfl _ Z _ _ _ u (D.put (by simpa[Da] using R) _) ?_;refine h.new h0 (yQ κ d 0) (e :=.obj k T ⟨#[]⟩ ⟨[],N⟩) (v :=.pointer (E ⟨w.heap.size,0,F⟩)) (a:=⟨⟨w.heap.size,0,F⟩,λ_ =>.slice F 0 0⟩) (us:=[]) (A :=.pc (nid d 0) 0) (λν' h1 h2=>⟨?_,by show nid d 0=nid d 0;rfl⟩) rfl rfl (λcs l=>by cases l) rfl;show V (E ⟨w.heap.size,0,F⟩) = .pointer (E ((ν'.adr _).add 0));rw[h2];simp[Addr.add]
   let⟨h0,f⟩:=zb f;have h0:=Ze h0;refine(OpA.of (zkm R hi M rfl λc r hr=>⟨_,(W.inj hr).symm,?_⟩):OpA κ P n w0 σ0 _ (E (.go _)) L b Z PV) out f;refine h.new h0 (yQ κ d 0) (e :=.cell _) (v :=.slice F 0 0) (a:=⟨c,λ_ =>.slice F 0 0⟩) (us:=q.cells.toList) (A :=.pc (nid d 0) 0) (λν' h1 h2=>⟨?_,by show nid d 0=nid d 0;rfl⟩) rfl rfl (λcs l=>?_) (by simp[Ent.at,Addr.add])
   ·show V (E c) = .pointer (E ((ν'.adr _).add 0));rw[h2];simp[Addr.add]
   ·cases l;exact⟨xM _,YV _⟩
  ·cases f
 ·cases f
theorem zbK{id k:Nat}{e:Ent C}(c:Z0 (E e)=G->Z0 (S.heap id)=G)(h:Z0 (upd S.heap id (E e) k)=G):Z0 (S.heap k)=true:=by
 by_cases a:k=id
 ·subst a;rw[zp] at h;exact c h
 ·rw[zq a] at h;exact h
theorem AbsL.setCell (h:AbsL κ S ν vs ids L b Z PV) {id m:Nat}{cs cs':List (AV C.D)}{us:List Value}(Q:S.heap id=E (.cell cs)) (u:ids[m]?=E id) (hr:VRs C Z ν us cs') (hl:AV.oks (λid=>(S.heap id).isSome=G) cs') :
    AbsL κ {S with heap:=upd S.heap id (E (.cell cs'))} ν (upd vs id us) ids L b Z (PV.set m (.cell (ν.adr id).a us)):=by
 have B:∀j,(S.heap j).isSome=(upd S.heap id (E (.cell cs')) j).isSome:=λj=>by
  by_cases e:j=id
  ·subst e;rw[zp,Q];rfl
  ·rw[zq e]
 have r:=(UC.1 u).1;have hid:=(UC.1 u).2;refine⟨⟨h.nd,λj=>?_,?_,λj c f=>?_,h.env,h.one⟩,λt=>?_,λj c f=>?_,λk M hs=>have q:=h.keep k M jE;⟨q.1,q.2.1,λR=>q.2.2 (zbK (λh=>by cases h) R)⟩⟩
 ·show _↔(upd S.heap id (E (.cell cs')) j).isSome=G;rw[<- B];exact h.dom j
 · apply UH;intro k;rw[UI,UA,h.pv,D1];by_cases e:m=k
   ·subst e;rw[jv rfl,jv r,u,UB];show _=E (zK C ν (upd vs id us) id (upd S.heap id (E (.cell cs')) id));rw[zp];simp[zK,zp]
   · rw[jx e,UA];cases M:ids[k]? with
     |none=>rfl
     |some j=>
      have l:j≠id:=λe'=>by
       have hp:=qx.1 (UD.1 h.nd);grind
      simp only[UB];show E (zK C ν vs j (S.heap j))=E (zK C ν (upd vs id us) j (upd S.heap id (E (.cell cs')) j));rw[zq l];cases S.heap j with
      |none=>rfl
      |some U=>cases U<;>simp[zK,zq l]
 · have f:upd S.heap id (E (.cell cs')) j=_:=f;show VRs C Z ν (upd vs id us j) c;by_cases e:j=id
   ·subst e;rw[zp] at f |-;grind
   ·rw[zq e] at f |-;exact h.cell j c f
 ·exact AV.ok_mono (λj f=>jE) (h.live t)
 · have f:upd S.heap id (E (.cell cs')) j=_:=f;refine AV.oks_mono (p:=λid=>(S.heap id).isSome=G) (λj f=>jE) ?_;by_cases e:j=id
   ·subst e;rw[zp] at f;grind
   ·rw[zq e] at f;exact h.livec j c f
theorem AbsL.setRow (h:AbsL κ S ν vs ids L b Z PV) {id m T:Nat}{s s':Sl (C.D T)}(M:S.heap id=E (.row T s)) (r:ids[m]?=E id) :
    AbsL κ {S with heap:=upd S.heap id (E (.row T s'))} ν vs ids L b Z (PV.set m (.row (zB C T).o T (ν.hdr id) s')):=by
 have u:∀j,(S.heap j).isSome=(upd S.heap id (E (.row T s')) j).isSome:=λj=>by
  by_cases e:j=id
  ·subst e;rw[zp,M];rfl
  ·rw[zq e]
 have l:=(UC.1 r).1;have hid:=(UC.1 r).2;refine⟨⟨h.nd,λj=>?_,?_,λj c a=>?_,h.env,h.one⟩,λt=>?_,λj c a=>?_,λk B hs=>have q:=h.keep k B jE;⟨q.1,q.2.1,λQ=>q.2.2 (zbK (λh=>by cases h) Q)⟩⟩
 ·show _↔(upd S.heap id (E (.row T s')) j).isSome=G;rw[<- u];exact h.dom j
 · apply UH;intro k;rw[UI,UA,h.pv,D1];by_cases e:m=k
   ·subst e;rw[jv rfl,jv l,r,UB];show _=E (zK C ν vs id (upd S.heap id (E (.row T s')) id));rw[zp];rfl
   · rw[jx e,UA];cases B:ids[k]? with
     |none=>rfl
     |some j=>
      have f:j≠id:=λe'=>by
       have hp:=qx.1 (UD.1 h.nd);grind
      simp only[UB];show E (zK C ν vs j (S.heap j))=E (zK C ν vs j (upd S.heap id (E (.row T s')) j));rw[zq f]
 · have a:upd S.heap id (E (.row T s')) j=_:=a;by_cases e:j=id
   ·subst e;rw[zp] at a;cases a
   ·rw[zq e] at a;exact h.cell j c a
 ·exact AV.ok_mono (λj a=>jE) (h.live t)
 · have a:upd S.heap id (E (.row T s')) j=_:=a;refine AV.oks_mono (p:=λid=>(S.heap id).isSome=G) (λj a=>jE) ?_;by_cases e:j=id
   ·subst e;rw[zp] at a;cases a
   ·rw[zq e] at a;exact h.livec j c a
end
variable [Dfr]
section
variable {ρ:Type}{n:Nat}{w0:Start}{σ0 Z:FS}{p:U3 ρ}{L:List (Nat×Value)}{b:Nat->Value}{PV:List Priv}{P:Program}
variable {H:U3 ρ->List (Nat×Value)->FS->List Priv->Prop}{d:Nat}{v:Value}{t t' ty:TypeId}{ps:String}{af:Array Edge}{g:U3 (Nat×Bool)}{x y z:Operand}{k:IntKind}{i j:Int}
theorem zbd {α:Type}{T:Ty α}{e:TypeId}{s:Sl α}{ti:TypeInfo}{q q':α}{us:List Value}{off:Nat}(m:Nat) (hm:PV[m]?=E (.row T.o e v s)) (hi':P.info? t=E ti) (R:opv L b x = .pointer (E (zi v (i.toNat * T.size+off)))) (hy:(opv L b y).cells.toList=us)
    (hs:ti.size=us.length) (h0:0 < us.length) (hone:∀u∈us,u.oneCell'=G) (hq:za s i=E q) (hoff:off+us.length<=T.size) (hr:∀cs,T.rel Z cs q->T.rel Z (cs.take off++us++cs.drop (off+us.length)) q')
    (h:H p L Z (PV.set m (.row T.o e v (s.set i q')))):Xl P n w0 σ0 ⟨F,.store t x y,ty,ps,af,g⟩ p L b Z PV H:=by
 intro r hp a w hi hf K Q hK;have key:∃w',(storeCells (zi v (i.toNat * T.size+off)) us).run P w = .ok () w'/\Inv w0 σ0 Z (PV.set m (.row T.o e v (s.set i q'))) w':=by
  have hne:us≠[]:=by intro e;subst e;simp at h0
  have main:∀hA,zn T.o e v s Z hA->hA.sub w->∃w' B,(storeCells (zi v (i.toNat * T.size+off)) us).run P w = .ok () w'/\zn T.o e v (s.set i q') Z B/\B.sub w'/\Ext w hA w'/\∀b i,(B b i).isSome->(hA b i).isSome\/w.heap.size<=b:=by
   intro hA k1 D;let⟨g1,g2,m1,m2,n1,n2,d3⟩:=(VB (v:=v) (e:=e) (i:=i) k1 hq).uncons;let⟨cs,c1,c2,p1,p2,p3,p4,p5⟩:=m2.one_of;have p5:T.rel Z cs q:=p5;have hcl:cs.length=T.size:=T.len p5;have hsz:T.o.size=T.size:=rfl;rw[hsz] at p4;have l12:c1.le hA:=p1.trans n2;have hsp:=p4.1;have hadd:(zi v (i.toNat * T.size)).add off=⟨(zi v (i.toNat * T.size)).block,(zi v (i.toNat * T.size)).off+off,F⟩:=Addr.add_eq _ hsp off;have c:∀j,j < us.length->∃y,c1 (zi v (i.toNat * T.size)).block ((zi v (i.toNat * T.size)).off+off+j+1)=E (.cell y):=λj hj=>
    ⟨_,by rw[(Zc:(zi v (i.toNat * T.size)).off+off+j=(zi v (i.toNat * T.size)).off+(off+j))];exact p4.2 (off+j) _ (UJ Zc)⟩
   have hlt2:(zi v (i.toNat * T.size)).block < w.heap.size:=by
    let⟨y,hy⟩:=c 0 Zc;exact Bit.at_lt (D _ _ _ (l12 _ _ _ hy))
   let⟨w',j1,j2,j3⟩:=VA (P:=P) (D.mono l12) hlt2 c hone hne;have hdom:∀b M,((c1.put (zi v (i.toNat * T.size)).block ((zi v (i.toNat * T.size)).off+off) us) b M).isSome->(c1 b M).isSome:=λb M R=>zc.put_dom (λj hj=>by let⟨y,hy⟩:=c j hj;simp[hy]) R
   have dcg:c1.disj g1:=(d3.mono (.refl _) p1).symm;have hd':∀{f:zc},c1.disj f->(c1.put (zi v (i.toNat * T.size)).block ((zi v (i.toNat * T.size)).off+off) us).disj f:=λ{f} df b M=>by
    cases R:c1.put (zi v (i.toNat * T.size)).block ((zi v (i.toNat * T.size)).off+off) us b M with
    |none=>exact .inl rfl
    |some y=>
     have:=hdom b M (by rw[R];rfl);rcases df b M with z | z
     ·rw[z] at this;cases this
     ·exact .inr z
   have U:Z2 (zi v (i.toNat * T.size)) (cs.take off++us++cs.drop (off+us.length)) (c1.put (zi v (i.toNat * T.size)).block ((zi v (i.toNat * T.size)).off+off) us):=by
    refine⟨hsp,λj u hj=>?_⟩;rw[xw Zc rfl] at hj;split at hj
    ·rename_i hin;rw[(Zc:(zi v (i.toNat * T.size)).off+j+1=(zi v (i.toNat * T.size)).off+off+(j - off)+1)];exact zc.put_in hj
    ·rw[zc.put_out Zc];exact p4.2 j u hj
   have dg:g1.disj (c1.put (zi v (i.toNat * T.size)).block ((zi v (i.toNat * T.size)).off+off) us):=(hd' dcg).symm;refine⟨w',g1.or (c1.put (zi v (i.toNat * T.size)).block ((zi v (i.toNat * T.size)).off+off) us),?_,?_,?_,j3.mono l12,λb M R =>.inl ?_⟩
   ·rw[<- Yx,hadd];exact j1
   ·exact m1 Z _ q' _ (.refl _) dg ⟨_,_,zc.none,.refl _,zc.none_le _,zc.disj_none _,U,hr cs p5⟩ (zc.le_or _ _) (zc.le_or_right dg)
   ·exact zc.or_sub (j3.frag dcg (D.mono n1)) j2
   · unfold zc.or at R;cases hx1:g1 b M with
     |some y=>exact n1.isSome (by simp[hx1])
     |none=>rw[hx1] at R;exact l12.isSome (hdom b M (by simpa using R))
  let⟨hh,hsep,hg⟩:=hi.own;let⟨h1',h2',e1,e2,e3,e4,e5,_⟩:=hsep.pick hm;let⟨w',_,hrun,_⟩:=main h1' e1 (hg.sub.mono e2);refine⟨w',hrun,hi.change hm λg hg' hgs=>?_⟩;let⟨w'',B,l,q1,q2,q3,q4⟩:=main g hg' hgs;rw[hrun] at l;cases l;exact⟨B,q1,q2,q3,q4⟩
 let⟨w',hst,hi2⟩:=key;have hsz:(opv L b y).cells.size=us.length:=by rw[<- hy];simp
 have:(execOp a.eval ⟨F,.store t x y,ty,ps,af,g⟩).run P w = .ok .skip w':=by
  rw[hf.eval];simp only[execOp,Instr.storeAt,qW,R,storeVar,sizeOf,typeInfo,UW,UU,UY,UX,hi',hsz,hs,Dj,not_true,jp,hy,hst]
 unfold qc;rw[this,Oper.upon_skip];exact hK p L Z _ _ _ hp hi2 hf h
end
section
variable {κ:Kp}{C:Cod}{S:St C}{ν:Val}{vs:Nat->List Value}{ids:List Nat}{L:List (Nat×Value)}{b:Nat->Value}{Z:FS}{PV:List Priv}{P:Program}
variable {t t' ty:TypeId}{x y z:Operand}{d:Nat}{ps:String}{af:Array Edge}{g:U3 (Nat×Bool)}{A:AV C.D}{n:Nat}{w0:Start}{σ0:FS}{o:Oper}{X:U3 (Out C)}
mutual
def AV.rows{D:Nat->Type}:AV D->List Nat
 | .row id=>[id]
 | .agg cs=>AV.rowss cs
 | .tup cs=>AV.rowss cs
 | .clo _ cs=>AV.rowss cs
 | .ifc _ A=>AV.rows A
 |_=>[]
def AV.rowss{D:Nat->Type}:List (AV D)->List Nat
 |[]=>[]
 |A::As=>AV.rows A++AV.rowss As
end
theorem zf9{τ:FS}{ν:Val}{u:Value}{A B:AV C.D}(h:VR C τ ν u A)(l:leA A B):VR C τ ν u B:=by
 rcases l with rfl | ⟨T,s,c,rfl,rfl⟩ | ⟨T,c,rfl,rfl⟩
 ·exact h
 ·exact(Rv.of_vrel (h.sl_vrel)).vr
 ·rw[show u = .slice F 0 0 from h];have:VR C τ ν (.slice F 0 0) (.sl T ⟨[],N⟩ G):=zkx;let⟨a,n,q,f,m,e⟩:=Rv.slAt (show Rv C τ _ (.sl T ⟨[],N⟩ G) from this);rw[f];exact(Rv.of_slAt m λ_=>e rfl).vr
theorem zbL{τ:FS}{ν:Val}:∀{us:List Value}{cs ds:List (AV C.D)},VRs C τ ν us cs->zfj cs ds->VRs C τ ν us ds
 |[],[],[],_,_=>trivial
 |u::us,A::cs,B::ds,⟨h,k⟩,⟨l,m⟩=>⟨zf9 h l,zbL k m⟩
 |[],[],_::_,_,l=>l.elim
 |[],_::_,_,h,_=>h.elim
 |_::_,[],_,h,_=>h.elim
 |_::_,_::_,[],_,l=>l.elim
theorem WP{τ:FS}{ν:Val}{T:Nat}{us:List Value}{cs:List (AV C.D)}{q:C.D T}(h:VRs C τ ν us cs)(c:C.imp T cs=E q):(zB C T).rel τ us q:=by
 have h2:=zbL h (C.imp_ok T cs q c);refine⟨by rw[h2.len,C.len],λj A a=>?_⟩;let⟨u,e,r⟩:=h2.get j A a;exact⟨u,e,r.rv (C.base T q A (UT a))⟩
theorem zkB{D:Nat->Type}:∀{cs ds:List (AV D)},zfj cs ds->cs.length=ds.length
 |[],[],_=>rfl
 |_::cs,_::ds,⟨_,h⟩=>by simp[zkB h]
 |[],_::_,h=>h.elim
 |_::_,[],h=>h.elim
end
variable [Dfr]
section
variable {ρ:Type}{n:Nat}{w0:Start}{σ0 Z:FS}{p:U3 ρ}{L:List (Nat×Value)}{b:Nat->Value}{PV PV':List Priv}{P:Program}
variable {H:U3 ρ->List (Nat×Value)->FS->List Priv->Prop}{d:Nat}{v:Value}{t ty:TypeId}{ps:String}{af:Array Edge}{g:U3 (Nat×Bool)}{x:Operand}
end
section
variable {κ:Kp}{C:Cod}{S:St C}{ν:Val}{vs:Nat->List Value}{ids:List Nat}{L:List (Nat×Value)}{b:Nat->Value}{Z:FS}{PV:List Priv}{P:Program}
variable {t t' ty:TypeId}{x y z:Operand}{d:Nat}{ps:String}{af:Array Edge}{g:U3 (Nat×Bool)}{A:AV C.D}{n:Nat}{w0:Start}{σ0:FS}{o:Oper}{X:U3 (Out C)}
def yx(P:Program)(S:St C)(t:TypeId)(x y:Operand):U3 (Out C):=
 match P.info? t,S.op x with
 |some ti,.pc id off=>(match S.heap id with
  |some (.cell cs)=>chk (YU (S.op y) && (I ti.size (zt (S.op y)).length && (qB (off+(zt (S.op y)).length) cs.length && O 0 (zt (S.op y)).length)))
      (E (.go {S with heap:=upd S.heap id (E (.cell (cs.take off++zt (S.op y)++cs.drop (off+(zt (S.op y)).length))))}))
  |_=>F)
 |some ti,.pr _ _ _ _=>go ti (S.frz (AV.rows (S.op y)))
 |_,_=>F
where
 go (ti:TypeInfo) (S:St C):U3 (Out C):=match S.op x with
  | .pr id T i off=>(match S.heap id with
   |some (.row T' s)=>chk (I T T' && (YU (S.op y) && (I ti.size (zt (S.op y)).length && (qB (off+(zt (S.op y)).length) (C.size T') && O 0 (zt (S.op y)).length))))
       ((za s i).bind λq=>(C.imp T' ((C.emb T' q).take off++zt (S.op y)++(C.emb T' q).drop (off+(zt (S.op y)).length))).bind λq'=>
         E (.go {S with heap:=upd S.heap id (E (.row T' (s.set i q')))}))
   |_=>F)
  |_=>F
theorem zqN{l:List Value}(h:∀u∈l,u.oneCell'=G):zc5 l:=by
 induction l with
 |nil=>trivial
 |cons a l e=>exact⟨h a je,e λu c=>h u (D2 _ c)⟩
theorem AV.oks_append{D:Nat->Type}{p:Nat->Prop}:∀{l m:List (AV D)},AV.oks p l->AV.oks p m->AV.oks p (l++m)
 |[],_,_,h=>h
 |_::_,_,⟨a,k⟩,h=>⟨a,AV.oks_append k h⟩
theorem AV.oks_iff{D:Nat->Type}{p:Nat->Prop}:∀{l:List (AV D)},AV.oks p l↔∀A∈l,A.ok p
 |[]=>by simp[AV.oks]
 |a::l=>by simp[AV.oks,AV.oks_iff (l:=l)]
theorem AV.oks_take{D:Nat->Type}{p:Nat->Prop}{l:List (AV D)}(h:AV.oks p l)(m:Nat):AV.oks p (l.take m):=AV.oks_iff.2 λA hA=>AV.oks_iff.1 h A (List.mem_of_mem_take hA)
theorem AV.oks_drop{D:Nat->Type}{p:Nat->Prop}{l:List (AV D)}(h:AV.oks p l)(m:Nat):AV.oks p (l.drop m):=AV.oks_iff.2 λA hA=>AV.oks_iff.1 h A (List.mem_of_mem_drop hA)
theorem zod(h:AbsL κ S ν vs ids L b Z PV):OpA κ P n w0 σ0 ⟨F,.store t x y,ty,ps,af,g⟩ (yx P S t x y) L b Z PV:=by
 intro out a;unfold yx at a;split at a
 ·rename_i ti id off hi R;have D:=h.op x;rw[R] at D;split at a
  ·rename_i cs l;let⟨M,a⟩:=zb a;simp only[gf] at M;let⟨c1,c2,c3,c4⟩:=M;let⟨Q,B⟩:=ZE (h.op y) c1 h.one;let⟨m,hm,hid⟩:=h.at l;have u:=h.cell id cs l;have f:=Q.len;rw[<- f] at c2 c3 c4;rw[<- u.len] at c3;refine(OpA.of (zi2 m hi (show opv L b x = .pointer (E _) from D) rfl (ge c2) (zqN B) hm c3 rfl rfl c4 λr U=>⟨_,(W.inj U).symm,?_⟩):OpA κ P n w0 σ0 _ (E (.go _)) L b Z PV) out a;have c:=((u.take off).append Q).append (u.drop (off+(opv L b y).cells.toList.length));have e:cs.drop (off+(opv L b y).cells.toList.length)=cs.drop (off+(zt (S.op y)).length):=by rw[f]
   rw[e] at c;have:=h.setCell (cs':=cs.take off++zt (S.op y)++cs.drop (off+(zt (S.op y)).length)) l hid c (AV.oks_append (AV.oks_append (AV.oks_take (h.livec id cs l) _) (AV.oks_cells (h.oks_op y))) (AV.oks_drop (h.livec id cs l) _));exact⟨ν,_,ids,this⟩
  ·cases a
 ·rename_i ti i1 i2 i3 i4 hi R;refine OpA.frz (AV.rows (S.op y)) ⟨ν,vs,ids,h⟩ (λZ' PV' h'=>?_) out a;clear a R h;generalize S.frz (AV.rows (S.op y))=S at h' |-
  let⟨ν,vs,ids,h⟩:=h';intro out a;unfold yx.go at a;have D:=h.op x;split at a
  ·rename_i id T i off R;rw[R] at D;split at a
   ·rename_i T' s hs;let⟨M,a⟩:=zb a;simp only[gf] at M;let⟨c0,c1,c2,c3,c4⟩:=M;obtain rfl:=ge c0;let⟨q,hq,a⟩:=gd a;let⟨q',hq',a⟩:=gd a;let⟨Q,B⟩:=ZE (h.op y) c1 h.one;let⟨m,hm,hid⟩:=h.at hs;have f:=Q.len;rw[<- f] at c2 c3 c4;refine(OpA.of (zbd (T:=zB C T) (q:=q) (q':=q') m hm hi (show opv L b x = .pointer (E _) from D) rfl (ge c2) (by simpa[Da] using c4) B hq (Dg c3) (λcs l=>?_) λr U=>⟨_,(W.inj U).symm,?_⟩):OpA κ P n w0 σ0 _ (E (.go _)) L b Z' PV') out a
    ·have u:=zbF (ν:=ν) l;have c:=((u.take off).append Q).append (u.drop (off+(opv L b y).cells.toList.length));have e:(C.emb T q).drop (off+(opv L b y).cells.toList.length)=(C.emb T q).drop (off+(zt (S.op y)).length):=by rw[f]
     rw[e] at c;exact WP c hq'
    ·exact⟨ν,vs,ids,h.setRow hs hid⟩
   ·cases a
  ·cases a
 ·cases a
theorem AbsL.newRow (h:AbsL κ S ν vs ids L b Z PV) {id T:Nat}(h0:S.heap id=F) (h64:κ.m<=id) {s:Sl (C.D T)}{v:Value}(c:v.oneCell'=G) :
    zC κ {env:=upd S.env d (.row id),heap:=upd S.heap id (E (.row T s))} ((d,v)::L) b Z (.row (zB C T).o T v s::PV):=
 h.new h0 h64 (e :=.row T s) (v:=v) (a:=default) (us:=[]) (A :=.row id) (λν' h1 h2=>⟨by show v=ν'.hdr id;rw[h1];rfl,by show id=id;rfl⟩) c rfl (λcs f=>by cases f) rfl
theorem wr{T:Nat}{s:Sl (C.D T)}{v:Value}{PV:List Priv}{w:World}(hi:Inv w0 σ0 Z (.row (zB C T).o T v s::PV) w):v.oneCell'=true:=by
 let⟨e,a,_⟩:=hi.held.get (m:=0) rfl;obtain⟨q,c,rfl,_⟩:=zn.form a;rfl
theorem OpA.of2(h:Xl P n w0 σ0 o X L b Z PV λp' l c PV'=>(∃w,Inv w0 σ0 c PV' w)->∀r,p'=E r->∃S',r = .go S'/\zC κ S' l b c PV'):OpA κ P n w0 σ0 o X L b Z PV:=by
 intro out m a w hi q K Q D M;refine h out m a w hi q K Q ?_;intro p' l c PV' a' w' hp f B u;let⟨S',e,hA⟩:=u ⟨w',f⟩ out hp;grind
def zde:Operand->Operand->Bool
 | .tmp a,.tmp b=>I a b
 | .const (.int .i64 a),.const (.int .i64 b)=>decide (a=b)
 |_,_=>N
theorem ziw:∀{x y:Operand},zde x y=G->x=y:=by
 intro x y h;unfold zde at h;split at h
 ·rw[ge h]
 all_goals grind
def Wa(P:Program)(S:St C)(d:Nat)(t:TypeId)(x y:Operand):U3 (Out C):=
 match P.underlying t with
 |some (.slice e)=>(match P.info? e with
  |some ti=>(match ti.zero,S.op x with
   |some a,.int _ i=>chk (zde x y && (I ti.size (C.size e) && (O 0 (C.size e) && isNone (S.heap (nid d 0)))))
       ((C.imp e (a.cells.toList.map ZY)).bind λq=>(Z3 ti.bytes i q).bind λs=>E (.go {env:=upd S.env d (.row (nid d 0)),heap:=upd S.heap (nid d 0) (E (.row e s))}))
   |_,_=>F)
  |none=>F)
 |_=>F
theorem zqO(h:AbsL κ S ν vs ids L b Z PV)(U:O d n=G):OpA κ P n w0 σ0 ⟨E d,.makeSlice t x y,ty,ps,af,g⟩ (Wa P S d t x y) L b Z PV:=by
 intro out a;unfold Wa at a;split at a
 ·rename_i e M;split at a
  ·rename_i ti hi;split at a
   ·rename_i zv k i Q B;have c:=h.op x;rw[B] at c;let⟨u,f⟩:=zb a;simp only[gf] at u;let⟨c0,c1,c2,c3⟩:=u;have h0:=Ze c3;obtain rfl:=ziw c0;let⟨q,R,l⟩:=gd f;refine(OpA.of2 (zm5 (T:=(zB C e).o) (q:=q) U M hi Q (ge c1) c2 c.int_inv c.int_inv (λτ=>WP (τ:=τ) (ν:=ν) (xM _) R) λs v hs m r D=>⟨_,(W.inj D).symm,?_⟩):OpA κ P n w0 σ0 _ ((Z3 ti.bytes i q).bind λs=>E (.go _)) L b Z PV) out l;let⟨w,m⟩:=m;exact h.newRow h0 (yQ κ d 0) (wr m)
   ·cases a
  ·cases a
 ·cases a
end
variable [Dfr]
section
variable {κ:Kp}{C:Cod}{S:St C}{ν:Val}{vs:Nat->List Value}{ids:List Nat}{L:List (Nat×Value)}{b:Nat->Value}{Z:FS}{PV:List Priv}{P:Program}
variable {t t' ty:TypeId}{x y z:Operand}{d:Nat}{ps:String}{af:Array Edge}{g:U3 (Nat×Bool)}{A:AV C.D}{n:Nat}{w0:Start}{σ0:FS}{o:Oper}{X:U3 (Out C)}
def YA(S:St C)(e:Nat):List Operand->U3 (List (C.D e))
 |[]=>E []
 |x::r=>chk (YU (S.op x)) ((C.imp e (zt (S.op x))).bind λq=>(YA S e r).bind λqs=>E (q::qs))
theorem zdf(h:AbsL κ S ν vs ids L b Z PV){e:Nat}:∀{l:List Operand}{xs:List (C.D e)},YA S e l=E xs->(zB C e).rels Z (Yh (l.map (opv L b))) xs/\l.length=xs.length/\∀v∈l.map (opv L b),v.cells.size=C.size e
 |[],xs,a=>by simp only[YA] at a;cases a;exact⟨rfl,rfl,je⟩
 |x::r,xs,a=>by
  simp only[YA] at a;let⟨hs,a⟩:=zb a;let⟨q,B,a⟩:=gd a;obtain⟨qs,c,a⟩:=gd a;cases a;let⟨h1,h2,M⟩:=zdf h c;have u:=(ZE (h.op x) hs h.one).1;have f:=WP u B;refine⟨⟨(opv L b x).cells.toList,_,by simp[Yh],f,h1⟩,by simp[h2],λv m=>?_⟩;rcases Db.1 m with rfl | m
  ·have:=f.1;grind
  grind
def zec:List (Nat×Operand)->Nat->Bool
 |[],_=>G
 |(i,_)::r,k=>I i k && zec r (k+1)
theorem zbM:∀{l:List (Nat×Operand)}{k:Nat},zec l k=G->(l.map λq=>(q.1,opv L b q.2))=zbB k ((l.map (·.2)).map (opv L b))
 |[],_,_=>rfl
 |(i,x)::r,k,h=>by
  simp only[zec,gf] at h;obtain rfl:=ge h.1;simp[zbB,zbM h.2]
def Y8(P:Program)(S0:St C)(d:Nat)(t:TypeId)(m:Nat)(parts:List (Nat×Operand)):U3 (Out C):=
 go (S0.frz (AV.rowss (parts.map λq=>S0.op q.2)))
where
 go (S:St C):U3 (Out C):=match P.underlying t with
  |some (.slice e)=>(match P.info? e with
   |some ti=>(match ti.zero with
    |some zv=>chk (I ti.size (C.size e) && (O 0 (C.size e) && (qB (m * C.size e) 16777216 && (I parts.length m && (zec parts 0 && isNone (S.heap (nid d 0)))))))
        ((YA S e (parts.map (·.2))).bind λxs=>E (.go {env:=upd S.env d (.row (nid d 0)),heap:=upd S.heap (nid d 0) (E (.row e ⟨xs,G⟩))}))
    |none=>F)
   |none=>F)
  |_=>F
theorem zmH(h:AbsL κ S ν vs ids L b Z PV)(hn:O d n=G){m:Nat}{parts:Array (Nat×Operand)}:OpA κ P n w0 σ0 ⟨E d,.buildSlice t m parts,ty,ps,af,g⟩ (Y8 P S d t m parts.toList) L b Z PV:=by
 unfold Y8;refine OpA.frz (AV.rowss (parts.toList.map λq=>S.op q.2)) ⟨ν,vs,ids,h⟩ λZ' PV' h'=>?_
 clear h;generalize S.frz _=S at h' |-
 let⟨ν,vs,ids,h⟩:=h';intro out hX;unfold Y8.go at hX;split at hX
 ·rename_i e hu;split at hX
  ·rename_i ti hi;split at hX
   ·rename_i zv hz;let⟨hc,hX2⟩:=zb hX;simp only[gf] at hc;let⟨c1,c2,c3,c4,c5,c6⟩:=hc;have h0:=Ze c6;let⟨xs,hxs,hX3⟩:=gd hX2;let⟨r1,r2,r3⟩:=zdf h hxs;have hlen:((parts.toList.map (·.2)).map (opv L b)).length=m:=by
     have:=ge c4;grind
    refine(OpA.of2 (vM (T:=(zB C e).o) (vs:=(parts.toList.map (·.2)).map (opv L b)) (xs:=xs) [] PV' hn hu hi hz (ge c1) c3 c2 (zbM c5) hlen (λhh _=>⟨zc.none,zc.none_le _,Ty.rels_o.2 r1,by grind,r3⟩) λv hw r hr=>⟨_,(W.inj hr).symm,?_⟩):OpA κ P n w0 σ0 _ (E (.go _)) L b Z' PV') out hX3;let⟨w,hw⟩:=hw;exact h.newRow h0 (yQ κ d 0) (wr hw)
   ·cases hX
  ·cases hX
 ·cases hX
theorem AbsL.front (h:AbsL κ S ν vs ids L b Z PV) {id m:Nat}{pv:Priv}(c:ids[m]?=E id) (hp:PV[m]?=E pv) :
    AbsL κ S ν vs (id::ids.eraseIdx m) L b Z (pv::PV.eraseIdx m)/\∀w,Inv w0 σ0 Z PV w->Inv w0 σ0 Z (pv::PV.eraseIdx m) w:=by
 have a:∀j,j∈id::ids.eraseIdx m↔j∈ids:=by
  intro j;let⟨l,hid⟩:=UC.1 c;rw[Db,qI];constructor
  ·grind
  ·intro f;obtain⟨i,hi,rfl⟩:=qS f;grind
 refine⟨⟨⟨?_,λj=>?_,?_,h.cell,h.env,h.one⟩,h.live,h.livec,h.keep⟩,λw hi=>hi.sub_own λQ k=>?_⟩
 ·have hp:=qx.1 (UD.1 h.nd);let⟨l,hid⟩:=UC.1 c;refine UE.2 ⟨λf=>?_,List.Nodup.sublist (qU _ _) h.nd⟩;let⟨i,hi,B,e⟩:=qI.1 f;grind
 ·rw[a];exact h.dom j
 · have:pv=zK C ν vs id (S.heap id):=by
     rw[h.pv,UA,c,UB] at hp;grind
   rw[UF,<- VD,<- h.pv,this]
 ·let⟨h1,h2,D,M,r,u,q,_⟩:=k.pick hp;exact .cons D q M r u
theorem OpA.pv{PV':List Priv}(hi:∀w,Inv w0 σ0 Z PV w->Inv w0 σ0 Z PV' w)(h:OpA κ P n w0 σ0 o X L b Z PV'):OpA κ P n w0 σ0 o X L b Z PV:=
 λout e a w c=>h out e a w (hi w c)
theorem AbsL.renew {id:Nat}{pv:Priv}(h:AbsL κ S ν vs (id::ids) L b Z (pv::PV)) {id' T:Nat}(h0:S.heap id'=F) (h64:κ.m<=id') {s:Sl (C.D T)}{v:Value}(a:v.oneCell'=G) :
    zC κ {env:=upd (S.sub id .und).env d (.row id'),heap:=upd (S.sub id .und).heap id' (E (.row T s))} ((d,v)::L) b Z (.row (zB C T).o T v s::PV):=by
 have h1:=h.sub (id:=id) (m:=0) (R :=.und) rfl (FS.le.refl Z) trivial trivial rfl;refine h1.newRow ?_ h64 a;show(bif I id' id then F else(S.heap id').map _)=F;grind
def wu{T T':Nat}(s:Sl (C.D T')):U3 (List (C.D T)):=if h:T'=T then E (h ▸ s.xs) else F
def zbN(S:St C)(T:Nat):AV C.D->U3 (List (C.D T))
 | .sl _ s _=>wu s
 | .row id=>match S.heap id with
  |some (.row _ s)=>wu s
  |_=>F
 | .nils=>E []
 |_=>F
theorem zm7 (h:AbsL κ S ν vs ids L b Z PV) {T:Nat}{ts:List (C.D T)}(hs:zbN S T (S.op y)=E ts) (w:World) (q:Y7 Z PV w) :
    ∃gA a,gA.le zc.none/\(zB C T).o.rels Z gA a ts/\vC w (opv L b y) ts.length a:=by
 have f:=h.op y;unfold zbN at hs;split at hs
 · rename_i T' s c e;rw[e] at f;unfold wu at hs;split at hs
   ·rename_i l;subst l;cases hs;let⟨gA,a,h1,h2,B⟩:=zi3 (A:=[]) f.sl_vrel w zc.none q Sep.nil (λ_ _ _ e=>by cases e);grind
   ·cases hs
 · rename_i id e;rw[e] at f;split at hs
   · rename_i T' s u;unfold wu at hs;split at hs
     ·rename_i l;subst l;cases hs;let⟨m,r,_⟩:=h.at u;rw[show opv L b y=ν.hdr id from f];let⟨gA,a,h1,h2,B⟩:=zn1 (A:=[]) m r w zc.none q Sep.nil (λ_ _ _ e=>by cases e);grind
     ·cases hs
   ·cases hs
 ·rename_i e;rw[e] at f;cases hs;rw[show opv L b y = .slice F 0 0 from f];exact⟨zc.none,[],zc.none_le _,OTy.rels_nil,.inl ⟨rfl,rfl,rfl⟩⟩
 ·cases hs
def Yc(P:Program)(S:St C)(d:Nat)(t:TypeId)(x y:Operand):U3 (Out C):=
 match P.underlying t with
 |some (.slice e)=>(match P.info? e with
  |some ti=>(match ti.zero with
   |some a=>chk (I ti.size (C.size e) && (O 0 (C.size e) && (I a.cells.size (C.size e) && isNone (S.heap (nid d 0)))))
       (match S.op x with
       | .row id=>(match S.heap id with
        |some (.row T s)=>chk (I T e) ((zbN S T (S.op y)).bind λts=>(zo ti.bytes s ts).bind λs'=>
            E (.go {env:=upd (S.sub id .und).env d (.row (nid d 0)),heap:=upd (S.sub id .und).heap (nid d 0) (E (.row T s'))}))
        |_=>F)
       | .nils=>(zbN S e (S.op y)).bind λts=>(zo ti.bytes ⟨[],N⟩ ts).bind λs'=>
             E (.go {env:=upd S.env d (.row (nid d 0)),heap:=upd S.heap (nid d 0) (E (.row e s'))})
       |_=>F)
   |none=>F)
  |none=>F)
 |_=>F
theorem ze0(h:AbsL κ S ν vs ids L b Z PV)(hn:O d n=G):OpA κ P n w0 σ0 ⟨E d,.call {callee :=.builtin .append,args:= #[x,y],argTypes:= #[t,t]},ty,ps,af,g⟩ (Yc P S d t x y) L b Z PV:=by
 intro out B;unfold Yc at B;split at B
 ·rename_i e hu;split at B
  ·rename_i ti hi;split at B
   ·rename_i zv hz;let⟨hc,a⟩:=zb B;simp only[gf] at hc;let⟨c1,c2,c3,c4⟩:=hc;have h0:=Ze c4;have Q:=h.op x;split at a
    ·rename_i id ex;rw[ex] at Q;split at a
     ·rename_i T s hs;let⟨hT,hX3⟩:=zb a;obtain rfl:=ge hT;let⟨ts,D,M⟩:=gd hX3;let⟨m,hm,hid⟩:=h.at hs;let⟨hf,q⟩:=h.front (w0:=w0) (σ0:=σ0) hid hm;refine OpA.pv q ?_ out M;refine OpA.of2 (zad (T:=(zB C T).o) (s:=s) (ts:=ts) (v:=ν.hdr id) (u:=opv L b y) [] (PV.eraseIdx m) hn hu hi hz (ge c3) (ge c1) c2 Q rfl (λw gg c _ _=>?_) λs' v' hs' c r R=>⟨_,(W.inj R).symm,?_⟩)
      ·let⟨gA,f,U,k2,k3⟩:=zm7 hf D w c;exact⟨gA,f,U.trans (zc.none_le _),k2,k3⟩
      ·let⟨w,c⟩:=c;exact hf.renew h0 (yQ κ d 0) (wr c)
     ·cases a
    ·rename_i ex;rw[ex] at Q;let⟨ts,D,M⟩:=gd a;have q:∀w,Inv w0 σ0 Z PV w->Inv w0 σ0 Z (.row (zB C e).o e (.slice F 0 0) ⟨[],N⟩::PV) w:=λw hi=>hi.sub_own λgg k =>.cons (h1:=zc.none) (.inl ⟨rfl,rfl⟩) k (zc.none_le _) (.refl _) (zc.none_disj _)
     refine OpA.pv q ?_ out M;refine OpA.of2 (zad (T:=(zB C e).o) (s:=⟨[],N⟩) (ts:=ts) (v :=.slice F 0 0) (u:=opv L b y) [] PV hn hu hi hz (ge c3) (ge c1) c2 Q rfl (λw gg c _ _=>?_) λs' v' hs' c r R=>⟨_,(W.inj R).symm,?_⟩)
     ·let⟨gA,f,U,k2,k3⟩:=zm7 h D w ⟨c.1,by
       let⟨hh,k,l⟩:=c.2;let⟨_,h2,_,q2,_,q4,_⟩:=Sep.uncons k
       exact⟨h2,q2,l.mono q4⟩⟩
      exact⟨gA,f,U.trans (zc.none_le _),k2,k3⟩
     ·let⟨w,c⟩:=c;exact h.newRow h0 (yQ κ d 0) (wr c)
    ·cases a
   ·cases B
  ·cases B
 ·cases B
end
variable [Dfr]
section
variable {κ:Kp}{C:Cod}{S:St C}{ν:Val}{vs:Nat->List Value}{ids:List Nat}{L:List (Nat×Value)}{b:Nat->Value}{Z:FS}{PV:List Priv}{P:Program}
variable {t t' ty:TypeId}{x y z:Operand}{d:Nat}{ps:String}{af:Array Edge}{g:U3 (Nat×Bool)}{A:AV C.D}{n:Nat}{w0:Start}{σ0:FS}{o:Oper}{X:U3 (Out C)}
theorem zm8{p:Nat->Prop}{agg:Bool}{cs:List (AV C.D)}(h:AV.oks p cs):(zbC agg cs).ok p:=by
 unfold zbC;cases agg with
 |true=>exact h
 |false=>
  match cs,h with
  |[],_=>trivial
  |[c],h=>exact h.1
  |_::_::_,_=>trivial
theorem WQ{p:Nat->Prop}{cs:List (AV C.D)}{off:Nat}(hp:Yz P t cs off=E A)(h:AV.oks p cs):A.ok p:=by
 obtain⟨a,ti,_,_,_,_,rfl⟩:=zaf hp;exact zm8 (AV.oks_take (AV.oks_drop h _) _)
theorem Vm{p:Nat->Prop}:∀{A:AV C.D},A.base=G->A.ok p
 | .int _ _,_=>trivial
 | .bool _,_=>trivial
 | .str _,_=>trivial
 | .sl _ _ _,_=>trivial
 | .pz _ _ _,_=>trivial
 | .pnil,_=>trivial
 | .nilf,_=>trivial
 | .nili,_=>trivial
 | .clo f [],_=>trivial
 | .ifc t A,h=>Vm (A:=A) h
theorem zbe{p:Nat->Prop}{T:Nat}{q:C.D T}:AV.oks p (C.emb T q):=AV.oks_iff.2 λA hA=>Vm (C.base T q A hA)
theorem zht{p:Nat->Prop}(h:A.ok p):(zc8 P ty A).ok p:=h
theorem zsz{p:Nat->Prop}{q:Bool}{A B R:AV C.D}(h:zf7 q A B=E R)(hA:A.ok p):R.ok p:=by
 unfold zf7 at h;split at h
 ·let⟨_,h2⟩:=zb h;cases h2;trivial
 ·cases h;trivial
 ·cases h;trivial
 ·split at h
  ·cases h;trivial
  ·cases h
 ·grind
 ·grind
 ·let⟨_,h2⟩:=zb h;grind
 ·let⟨_,h2⟩:=zb h;grind
 ·cases h
theorem zwo{p:Nat->Prop}{q:Bool}{A B R:AV C.D}(h:zf8 q A B=E R)(hA:A.ok p)(a:B.ok p):R.ok p:=by
 unfold zf8 at h;split at h
 ·rename_i e;cases h;exact zsz e hA
 grind
theorem zfm{p:Nat->Prop}{a:List (Nat×Nat)}:∀{ps:List (Nat×AV C.D)}{cs r:List (AV C.D)},vY a cs ps=E r->AV.oks p cs->(∀q∈ps,q.2.ok p)->AV.oks p r
 |[],cs,r,h,k,_=>by simp only[vY] at h;grind
 |(i,c)::ps,cs,r,h,k,l=>by
  simp only[vY] at h;split at h
  ·cases h
  ·let⟨_,h⟩:=zb h;exact zfm h (AV.oks_append (AV.oks_append (AV.oks_take k _) (AV.oks_cells (l (i,c) je))) (AV.oks_drop k _)) λq e=>l q (D2 _ e)
theorem YB{α:Type}{id T:Nat}{i:Int}{K:(U:Nat)->Sl (C.D U)->U3 α}{a:α}(h:zM S id T i K=E a):∃U u,K U u=E a:=by
 unfold zM at h;split at h
 ·let⟨_,h⟩:=zb h;let⟨q,c,h⟩:=gd h;grind
 ·cases h
theorem zsA{p:Nat->Prop}{T id:Nat}{q:C.D T}{i:Int}(h:p id):AV.oks p (zfk C T q id i):=AV.oks_iff.2 λA hA=>by
 unfold zfk at hA;rcases D3 hA with h1 | h1
 ·exact Vm (C.base T q A h1)
 ·rw[h1];exact h
theorem zah(h:AbsL κ S ν vs ids L b Z PV){op:Op}(a:yG P S ty op=E A):A.ok λid=>(S.heap id).isSome=true:=by
 unfold yG at a;split at a
 ·cases a;exact zht (h.oks_op _)
 ·cases a;exact zht (h.oks_op _)
 ·split at a
  ·rename_i q _;exact zwo a (h.oks_op _) (h.oks_op _)
  ·cases a
 ·rename_i x;have f:=h.oks_op x;grind
 ·rename_i bo t x y _;have key:∀{A},wA P t bo (S.op x) (S.op y)=E A->A.ok λid=>(S.heap id).isSome=true:=by
   intro A c;have M:∀{r:Bool} {A:AV C.D},wA.evPtr P t bo r=E A->A.ok λid=>(S.heap id).isSome=true:=by
    intro r A c;unfold wA.evPtr at c;split at c<;>cases c<;>trivial
   unfold wA at c;split at c
   ·let⟨_,c⟩:=zb c;unfold zd7 at c;split at c<;>first | (cases c;done) | (cases c;trivial) | (let⟨_,_,c⟩:=gd c;cases c;trivial)
   ·split at c<;>first | (cases c;done) | (cases c;trivial) | (let⟨_,hh2⟩:=zb c;cases hh2;trivial)
   ·split at c<;>cases c<;>trivial
   ·split at c<;>cases c<;>trivial
   ·split at c<;>cases c<;>trivial
   ·exact M c
   ·exact M c
   ·exact M c
   ·exact M c
   ·exact M c
   ·split at c
    ·let⟨_,c⟩:=zb c;let⟨_,_,c⟩:=gd c;cases c;trivial
    ·let⟨_,c⟩:=zb c;let⟨_,_,c⟩:=gd c;cases c;trivial
    ·cases c
   ·cases c
  unfold Xa at a;cases hy:Yg y with
  |true=>
   rw[hy,Dy] at a;split at a<;>first | (cases a;done) | (cases a;trivial)
  |false=>
  rw[hy,U8] at a;unfold wq at a;split at a
  ·split at a
   ·split at a<;>cases a<;>trivial
   ·split at a<;>cases a<;>trivial
   ·cases a
  ·split at a
   ·let⟨U,u,a⟩:=YB a;split at a<;>cases a<;>trivial
   ·cases a
  grind
 ·rename_i t x;split at a
  ·cases a
  ·cases a;exact h.oks_op x
  ·cases a
 ·rename_i x _ t ok;unfold zbI at a;split at a
  ·cases a
  ·split at a
   ·rename_i t' B e;let⟨_,a⟩:=zb a;cases a;have:=h.oks_op x;rw[e] at this;exact⟨this,trivial,trivial⟩
   ·rename_i t' B e;let⟨_,a⟩:=zb a;cases a;have:=h.oks_op x;rw[e] at this;exact this
   ·split at a
    ·rename_i zv _;cases a;refine⟨?_,trivial,trivial⟩;unfold zbD;split
     ·exact YV _
     ·exact(YV [_]).1
    ·cases a
   ·cases a
  ·cases a
 ·split at a<;>cases a;trivial
 ·split at a<;>cases a;trivial
 ·split at a<;>cases a;trivial
 ·unfold zbc at a;have ops:∀l:List Operand,AV.oks (λid=>(S.heap id).isSome=G) (l.map S.op):=λl=>AV.oks_iff.2 λA hA=>by
   obtain⟨x,_,rfl⟩:=D4.1 hA;exact h.oks_op x
  split at a
  ·let⟨_,a⟩:=zb a;cases a;exact ops _
  ·split at a
   ·cases a;exact⟨ops _,trivial⟩
   ·cases a
 ·rename_i x i;have f:=h.oks_op x;split at a
  ·rename_i us e;rw[e] at f;let⟨B,hB,a⟩:=gd a;cases a;exact zht (AV.oks_iff.1 (show AV.oks _ us from f) B (UT hB))
  ·cases a
 ·unfold WO at a;split at a
  ·split at a
   ·let⟨cs,R,a⟩:=gd a;cases a;exact zfm R (YV _) λq hq=>by
     obtain⟨z,_,rfl⟩:=D4.1 hq;exact h.oks_op z.2
   ·cases a
  ·split at a
   ·let⟨cs,R,a⟩:=gd a;cases a;exact zfm R (YV _) λq hq=>by
     obtain⟨z,_,rfl⟩:=D4.1 hq;exact h.oks_op z.2
   ·cases a
  ·cases a
 ·rename_i t x m;have f:=h.oks_op x;unfold zea at a;split at a
  ·rename_i fs cs _ e;rw[e] at f;split at a
   ·exact WQ a f
   ·cases a
  ·cases a
 ·rename_i t x m;have f:=h.oks_op x;unfold zd8 at a;split at a
  ·split at a
   ·split at a
    ·let⟨_,a⟩:=zb a;split at a<;>first | (cases a;done) | (rename_i e;rw[e] at f;cases a;exact f)
    ·cases a
   ·cases a
  ·cases a
 ·rename_i t x y;have f:=h.oks_op x;unfold XS at a;split at a
  ·split at a
   ·split at a
    ·let⟨_,a⟩:=zb a;let⟨_,_,a⟩:=gd a;cases a;trivial
    ·rename_i e _;rw[e] at f;split at a
     ·let⟨_,a⟩:=zb a;let⟨_,_,a⟩:=gd a;cases a;exact f
     ·let⟨_,a⟩:=zb a;let⟨_,_,a⟩:=gd a;cases a;exact f
     ·cases a
    ·rename_i e _;rw[e] at f;let⟨U,u,a⟩:=YB a;let⟨_,a⟩:=zb a;let⟨_,_,a⟩:=gd a;cases a;exact f
    ·rename_i e _;rw[e] at f;let⟨U,u,a⟩:=YB a;let⟨_,a⟩:=zb a;let⟨_,_,a⟩:=gd a;let⟨_,_,a⟩:=gd a;cases a;exact f
    ·cases a
   ·cases a
  ·split at a
   ·split at a
    ·rename_i e _;rw[e] at f;let⟨_,a⟩:=zb a;obtain⟨_,_,_,rfl⟩:=zhs a;exact f
    ·cases a
   ·cases a
  ·cases a
 ·rename_i t x;unfold x9 at a;split at a
  ·split at a
   ·rename_i cs hcs;exact WQ a (h.livec _ cs hcs)
   ·cases a
  ·exact WQ a zbe
  ·split at a
   ·let⟨_,a⟩:=zb a;let⟨_,_,a⟩:=gd a;exact WQ a zbe
   ·rename_i hs;let⟨_,a⟩:=zb a;let⟨_,_,a⟩:=gd a;exact WQ a (zsA (by rw[hs];rfl))
   ·cases a
  ·let⟨U,u,a⟩:=YB a;let⟨_,a⟩:=zb a;let⟨_,_,a⟩:=gd a;exact WQ a zbe
  ·cases a
 ·unfold zba at a;split at a
  ·let⟨_,_,a⟩:=gd a;cases a;trivial
  ·split at a
   ·let⟨_,Q⟩:=zb a;rcases zsv (p:=λid=>(S.heap id).isSome=G) Q with⟨s,rfl⟩ | ⟨k,m,rfl⟩<;>trivial
   ·cases a
  ·cases a
 ·unfold Yt at a;split at a
  ·split at a
   ·let⟨_,_,a⟩:=gd a;cases a;trivial
   ·cases a
  ·split at a
   ·let⟨_,a⟩:=zb a;let⟨_,_,a⟩:=gd a;cases a;trivial
   ·cases a
  ·rename_i e;split at a
   ·let⟨U,u,a⟩:=YB a;split at a
    ·let⟨_,a⟩:=zb a;let⟨_,_,a⟩:=gd a;cases a;have hk:∀x A,S.op x=A->A.ok λid=>(S.heap id).isSome=true:=λx A hA=>hA ▸ h.oks_op x
     exact(show AV.ok _ (AV.nx _ _ _ NX.whole) from hk _ _ e)
    ·cases a
   ·cases a
  ·cases a
 ·split at a
  ·unfold w9 at a;split at a
   ·cases a;trivial
   ·cases a;trivial
   ·cases a;trivial
   ·split at a<;>cases a<;>trivial
   ·let⟨U,u,a⟩:=YB a;cases a;trivial
   ·let⟨U,u,a⟩:=YB a;let⟨_,a⟩:=zb a;let⟨_,_,a⟩:=gd a;cases a;trivial
   ·cases a
  ·cases a
 ·split at a
  ·split at a
   ·let⟨_,a⟩:=zb a;cases a;trivial
   ·cases a
  ·cases a
 ·split at a
  ·split at a
   ·let⟨_,a⟩:=zb a;cases a;trivial
   ·cases a
  ·cases a
 ·cases a
def Yd(P:Program)(S:St C)(d:Nat)(t:TypeId)(x:Operand)(hi:U3 Operand):U3 (Out C):=
 match P.underlying t with
 |some (.slice e)=>(match P.info? e with
  |some ti=>(match S.op x with
   | .row id=>(match S.heap id with
    |some (.row T s)=>chk (I ti.size (C.size T) && isNone (S.heap (nid d 0))) (match Zm S s.len hi with
     |some j=>(z7 s 0 j).bind λs'=>E (.go {env:=upd (S.sub id .und).env d (.row (nid d 0)),heap:=upd (S.sub id .und).heap (nid d 0) (E (.row T s'))})
     |none=>F)
    |_=>F)
   |_=>F)
  |none=>F)
 |_=>F
theorem zmI(h:AbsL κ S ν vs ids L b Z PV)(Q:O d n=G){hi:U3 Operand}:OpA κ P n w0 σ0 ⟨E d,.slice t x F hi F,ty,ps,af,g⟩ (Yd P S d t x hi) L b Z PV:=by
 intro out a;unfold Yd at a;split at a
 ·rename_i e hu;split at a
  ·rename_i ti q;have B:=h.op x;split at a
   ·rename_i id D;rw[D] at B;split at a
    ·rename_i T s hs;let⟨l,c⟩:=zb a;simp only[gf] at l;have hz:ti.size=(zB C T).o.size:=ge l.1;have h0:=Ze l.2;let⟨m,hm,hid⟩:=h.at hs;split at c
     ·rename_i j M;let⟨R,f⟩:=h.front (w0:=w0) (σ0:=σ0) hid hm;refine OpA.pv f ?_ out c;refine OpA.of2 (zkq (T:=(zB C T).o) (s:=s) (e':=T) (v:=ν.hdr id) 0 Q hu q hz B rfl rfl (xP h.toAbs M) λs' v' hs' u r U=>⟨_,(W.inj U).symm,?_⟩);let⟨w,u⟩:=u;exact R.renew h0 (yQ κ d 0) (wr u)
     ·cases c
    ·cases a
   ·cases a
  ·cases a
 ·cases a
end
section
variable {P:Program}{w0:Start}{σ0 Z:FS}{PV:List Priv}{w:World}{n:Nat}{L:List (Nat×Value)}{b:Nat->Value}{ρ:Type}{p:U3 ρ}
variable {H:U3 ρ->List (Nat×Value)->FS->List Priv->Prop}{d:Nat}{v:Value}{mt kt et ty:TypeId}{ps:String}{af:Array Edge}{g:U3 (Nat×Bool)}{x y z:Operand}
variable [Dfr]
theorem zoe(B:O d n=G)(h:∀r,H p ((d,.map (E r))::L) Z (.mp (.map (E r)) []::PV)):Xl P n w0 σ0 ⟨E d,.makeMap mt F,ty,ps,af,g⟩ p L b Z PV H:=by
 intro r hp a w hi q K Q c;unfold qc;have u:(execOp a.eval ⟨E d,.makeMap mt F,ty,ps,af,g⟩).run P w = .ok (.value (.map (E w.heap.size))) (w.alloc (.map #[] 0)):=by
  simp[execOp,Instr.makeMap,qb]
 rw[u,qA];have h1:=hi.newObj (o :=.map #[] 0) rfl;refine c p _ Z (.mp (.map (E w.heap.size)) []::PV) _ _ hp (h1.sub_own λR kk=>?_) (q.put (by simpa[Da] using B) _) (h _);let⟨e,g2,D,M,f,m,l⟩:=kk.uncons;exact .cons (h1:=e) ⟨_,_,_,rfl,D,rfl⟩ M f m l
theorem Inv.alike{m:Nat}{q q':Priv}(e:PV[m]?=E q)(hi:Inv w0 σ0 Z PV w)(h:∀g:zc,q.holds Z g->g.sub w->q'.holds Z g):Inv w0 σ0 Z (PV.set m q') w:=
 hi.change e λg a hs=>⟨g,h g a hs,hs,Ext.refl _ _,λb i c =>.inl c⟩
variable {α:Type}[DecidableEq α]{K:MKey α}{k:α}{xs:List (α×Value)}
theorem zqP (m:Nat) {ti:TypeInfo}{D:Value}(hn:O d n=G) (hm:PV[m]?=E (.mp v (Yw K xs))) (U:opv L b x=v) (hy:opv L b y=K.enc k) (hu:P.underlying mt=E (.map kt et)) (u:P.underlying kt=E K.d) (R:P.info? et=E ti) (hz:ti.zero=E D)
    (h:H p ((d,(ym k xs).getD D)::L) Z PV):Xl P n w0 σ0 ⟨E d,.lookup mt x y N,ty,ps,af,g⟩ p L b Z PV H:=by
 intro r hp a w c hf K' Q hK;obtain⟨h1,⟨r0,es,f,rfl,e2,e3⟩,q⟩:=c.held.get hm;have hb:w.heap[r0]?=E (.map es f):=(q r0 0 _ e2).1;have l:(execOp a.eval ⟨E d,.lookup mt x y N,ty,ps,af,g⟩).run P w = .ok (.value ((ym k xs).getD D)) w:=by
  rw[hf.eval];have c1:=D5 (P:=P) hb;have c2:=λe=>qG (P:=P) (w:=w) u (K.key k) e 9999
  rcases vV K k es.toList xs 0 e3 with⟨M,B,_,_⟩ | ⟨v',j,e',M,B,f3,f4,_,_⟩
  ·have c3:=qk (P:=P) (w:=w) u B;simp[execOp,qZ,U,hy,UV hu,c1,c2,c3,M,qb,zeroValue,typeInfo,R,hz]
  ·have c3:=qk (P:=P) (w:=w) u B;simp[execOp,qZ,U,hy,UV hu,c1,c2,c3,M,qb]
 unfold qc;rw[l,qA];exact hK p _ Z PV _ _ hp c (hf.put (by simpa[Da] using hn) _) h
theorem zkC (m:Nat) (hm:PV[m]?=E (.mp v (Yw K xs))) (hx:opv L b x=v) (hy:opv L b y=K.enc k) (hu:P.underlying mt=E (.map kt et)) (hk:P.underlying kt=E K.d)
    (h:H p L Z (PV.set m (.mp v (Yw K (yA k (opv L b z) xs))))):Xl P n w0 σ0 ⟨F,.mapUpdate mt x y z,ty,ps,af,g⟩ p L b Z PV H:=by
 intro r hp a w hinv hf K' Q hK;obtain⟨h1,⟨r0,es,clock,rfl,e2,e3⟩,hsub⟩:=hinv.held.get hm;have hb:w.heap[r0]?=E (.map es clock):=(hsub r0 0 _ e2).1;have hml:m < PV.length:=(UC.1 hm).1;have hI:=hinv.alike hm (q' :=.obj r0 (.map es clock)) λg hg hs=>by
  let⟨r1,es1,c1,q1,q2,q3⟩:=hg;cases q1;have:=(hs r0 0 _ q2).1;rw[hb] at this;cases this;exact q2
 have c1:=D5 (P:=P) hb;have c2:=qG (P:=P) (w:=w) hk (K.key k) N 9999;obtain⟨es',clock',hrun,hes⟩:∃es' clock',(execOp a.eval ⟨F,.mapUpdate mt x y z,ty,ps,af,g⟩).run P w = .ok .skip {w with heap:=w.heap.setIfInBounds r0 (.map es' clock')}/\es'.toList.map (λe=>(e.key,e.val))=Yw K (yA k (opv L b z) xs):=by
  rw[hf.eval];rcases vV K k es.toList xs 0 e3 with⟨f1,f2,f3,_⟩ | ⟨v',j,e',f1,f2,f3,f4,f5,_⟩
  ·have c3:=qk (P:=P) (w:=w) hk f2;have c4:=qC (P:=P) (.map (es.push {key:=K.enc k,val:=opv L b z,born:=clock}) (clock+1)) hb;refine⟨es.push {key:=K.enc k,val:=opv L b z,born:=clock},clock+1,by simp[execOp,qY,hx,hy,UV hu,c1,c2,c3,c4,qb],?_⟩;rw[f3];simp[Yw] at e3 |-;exact e3
  · have c3:=qk (P:=P) (w:=w) hk f2;have hj:es[j]?=E e':=by simpa using f3
    have c5:(q0 (K.enc k) (K.enc k)).run P w = .ok (K.enc k) w:=by simp[q0,K.bits]
    have c4:=λo=>qC (P:=P) o hb
    refine⟨es.modify j λe=>{e with key:=K.enc k,val:=opv L b z},clock,by simp[execOp,qY,hx,hy,UV hu,c1,c2,c3,c4,c5,hj,f4,qb],?_⟩;rw[f5];have:(es.modify j λe=>{e with key:=K.enc k,val:=opv L b z}).toList=es.toList.set j {e' with val:=opv L b z}:=by
     rw[Array.toList_modify];apply UH;intro i;rw[List.getElem?_modify,UI];by_cases hij:j=i
     ·subst hij;grind
     ·simp[hij]
    rw[this]
 unfold qc;rw[hrun];have h2:=hI.setObj (o :=.map es clock) (o' :=.map es' clock') rfl rfl (m:=m) (by rw[qT hml]);rw[qD] at h2;have h3:=h2.alike (m:=m) (q :=.obj r0 (.map es' clock')) (q' :=.mp (.map (E r0)) (Yw K (yA k (opv L b z) xs))) (by grind) λg hg _=>⟨r0,es',clock',rfl,hg,hes⟩
 rw[qD] at h3;exact hK p _ Z _ a _ hp h3 hf h
theorem zqQ (m:Nat) {ts:Array TypeId}(ht:ts[0]?=E mt) (hm:PV[m]?=E (.mp v (Yw K xs))) (hx:opv L b x=v) (hy:opv L b y=K.enc k) (hu:P.underlying mt=E (.map kt et)) (hk:P.underlying kt=E K.d)
    (h:H p L Z (PV.set m (.mp v (Yw K (yB k xs))))):Xl P n w0 σ0 ⟨F,.call ⟨.builtin .delete, #[x,y],ts⟩,ty,ps,af,g⟩ p L b Z PV H:=by
 intro r hp a w hinv hf K' Q hK;obtain⟨h1,⟨r0,es,clock,rfl,e2,e3⟩,hsub⟩:=hinv.held.get hm;have hb:w.heap[r0]?=E (.map es clock):=(hsub r0 0 _ e2).1;have hml:m < PV.length:=(UC.1 hm).1;have hI:=hinv.alike hm (q' :=.obj r0 (.map es clock)) λg hg hs=>by
  let⟨r1,es1,c1,q1,q2,q3⟩:=hg;cases q1;have:=(hs r0 0 _ q2).1;rw[hb] at this;cases this;exact q2
 have c1:=D5 (P:=P) hb;have c2:=λe=>qG (P:=P) (w:=w) hk (K.key k) e 9999
 obtain⟨es',clock',hrun,hes⟩:∃es' clock',(execOp a.eval ⟨F,.call ⟨.builtin .delete, #[x,y],ts⟩,ty,ps,af,g⟩).run P w = .ok (.value (.tuple #[])) {w with heap:=w.heap.setIfInBounds r0 (.map es' clock')}/\es'.toList.map (λe=>(e.key,e.val))=Yw K (yB k xs):=by
  rw[hf.eval];rcases vV K k es.toList xs 0 e3 with⟨f1,f2,f3,f6⟩ | ⟨v',j,e',f1,f2,f3,f4,f5,f6⟩
  ·have c3:=qk (P:=P) (w:=w) hk f2;have c4:=qC (P:=P) (.map es clock) hb;refine⟨es,clock,by simp[execOp,resolve,invoke,builtin,Builtin.delete_,ht,hx,hy,UV hu,c1,c2,c3,c4,qb],?_⟩;grind
  ·have c3:=qk (P:=P) (w:=w) hk f2;have c4:=qC (P:=P) (.map (es.eraseIdxIfInBounds j) clock) hb;refine⟨es.eraseIdxIfInBounds j,clock,by simp[execOp,resolve,invoke,builtin,Builtin.delete_,ht,hx,hy,UV hu,c1,c2,c3,c4,qb],?_⟩;rw[f6];congr 1;let⟨hl,_⟩:=UC.1 f3;simp[Array.eraseIdxIfInBounds,show j < es.size by simpa using hl]
 unfold qc;rw[hrun];have h2:=hI.setObj (o :=.map es clock) (o' :=.map es' clock') rfl rfl (m:=m) (by rw[qT hml]);rw[qD] at h2;have h3:=h2.alike (m:=m) (q :=.obj r0 (.map es' clock')) (q' :=.mp (.map (E r0)) (Yw K (yB k xs))) (by grind) λg hg _=>⟨r0,es',clock',rfl,hg,hes⟩
 rw[qD] at h3;exact hK p _ Z _ a _ hp h3 hf h
end
variable [Dfr]
section
variable {κ:Kp}{C:Cod}{S:St C}{ν:Val}{vs:Nat->List Value}{ids:List Nat}{L:List (Nat×Value)}{b:Nat->Value}{Z:FS}{PV:List Priv}{P:Program}
variable {t t' ty:TypeId}{x y z:Operand}{d:Nat}{ps:String}{af:Array Edge}{g:U3 (Nat×Bool)}{A:AV C.D}{n:Nat}{w0:Start}{σ0:FS}{o:Oper}{X:U3 (Out C)}
theorem AbsL.setObj (h:AbsL κ S ν vs ids L b Z PV) {id m q T:Nat}{b0:ByteArray}{s s':Sl (C.D T)}(U:S.heap id=E (.obj q T b0 s)) (B:ids[m]?=E id) :
    AbsL κ {S with heap:=upd S.heap id (E (.obj q T b0 s'))} ν vs ids L b Z (PV.set m (C.opv q T (ν.hdr id) (ν.adr id).a b0 s')):=by
 have M:∀j,(S.heap j).isSome=(upd S.heap id (E (.obj q T b0 s')) j).isSome:=λj=>by
  by_cases e:j=id
  ·subst e;rw[zp,U];rfl
  ·rw[zq e]
 have u:=(UC.1 B).1;have hid:=(UC.1 B).2;refine⟨⟨h.nd,λj=>?_,?_,λj c f=>?_,h.env,h.one⟩,λt=>?_,λj c f=>?_,λk l hs=>have q:=h.keep k l jE;⟨q.1,q.2.1,λhf=>q.2.2 (zbK (λh=>by cases h) hf)⟩⟩
 ·show _↔(upd S.heap id (E (.obj q T b0 s')) j).isSome=G;rw[<- M];exact h.dom j
 · apply UH;intro k;rw[UI,UA,h.pv,D1];by_cases e:m=k
   ·subst e;rw[jv rfl,jv u,B,UB];show _=E (zK C ν vs id (upd S.heap id (E (.obj q T b0 s')) id));rw[zp];rfl
   · rw[jx e,UA];cases l:ids[k]? with
     |none=>rfl
     |some j=>
      have r:j≠id:=λe'=>by
       have hp:=qx.1 (UD.1 h.nd);let⟨Q,R⟩:=UC.1 l;rcases Nat.lt_or_gt_of_ne e with q | q
       all_goals grind
      simp only[UB];show E (zK C ν vs j (S.heap j))=E (zK C ν vs j (upd S.heap id (E (.obj q T b0 s')) j));rw[zq r]
 · have f:upd S.heap id (E (.obj q T b0 s')) j=_:=f;by_cases e:j=id
   ·subst e;rw[zp] at f;cases f
   ·rw[zq e] at f;exact h.cell j c f
 ·exact AV.ok_mono (λj f=>jE) (h.live t)
 · have f:upd S.heap id (E (.obj q T b0 s')) j=_:=f;refine AV.oks_mono (p:=λid=>(S.heap id).isSome=G) (λj f=>jE) ?_;by_cases e:j=id
   ·subst e;rw[zp] at f;cases f
   ·rw[zq e] at f;exact h.livec j c f
end
section
variable {κ:Kp}{C:Cod}{S:St C}{ν:Val}{vs:Nat->List Value}{ids:List Nat}{L:List (Nat×Value)}{b:Nat->Value}{Z:FS}{PV:List Priv}{P:Program}
variable {x y z:Operand}{d:Nat}{ps:String}{af:Array Edge}{g:U3 (Nat×Bool)}{n:Nat}{w0:Start}{σ0:FS}{mt kt et ty:TypeId}
variable {T id:Nat}{b0:ByteArray}{s:Sl (C.D T)}
def VK.a{D:Nat->Type}:(v:VK)->v.ty->AV D
 | .i =>.int .i64
 | .b =>.bool
def VK.dec{D:Nat->Type}:(v:VK)->AV D->U3 v.ty
 | .i=>λA=>match A with
  | .int .i64 x=>E x
  |_=>F
 | .b=>λA=>match A with
  | .bool x=>E x
  |_=>F
def KK.dec{D:Nat->Type}:(k:KK)->AV D->U3 k.ty
 | .s=>λA=>match A with
  | .str x=>E x
  |_=>F
 | .i=>λA=>match A with
  | .int .i64 x=>E x
  |_=>F
theorem VK.dec_ok{Z:FS}{u:Value}{A:AV C.D}(h:VR C Z ν u A):∀{v:VK}{x:v.ty},v.dec A=E x->u=v.e x:=by
 intro v x e;cases v<;>(unfold VK.dec at e;simp only at e;split at e<;>cases e)
 ·exact h.int_inv
 ·exact h.bool_inv
theorem KK.dec_ok{Z:FS}{u:Value}{A:AV C.D}(h:VR C Z ν u A):∀{k:KK}{x:k.ty},k.dec A=E x->u=k.K.enc x:=by
 intro k x e;cases k<;>(unfold KK.dec at e;simp only at e;split at e<;>cases e)
 ·exact h.str_inv
 ·exact h.int_inv
variable [Dfr]
theorem zqR (M:MapR C.D C.opv T) {k:M.k.ty}(h:AbsL κ S ν vs ids L b Z PV) (hn:O d n=G) (u:S.op x = .row id) (hs:S.heap id=E (.obj M.q T b0 s)) (hy:opv L b y=M.k.K.enc k)
    (R:P.underlying mt=E (.map kt et)) (B:P.underlying kt=E M.k.K.d) {ti:TypeInfo} (hi:P.info? et=E ti) (U:ti.zero=E (M.v.e M.v.z)) :
    OpA κ P n w0 σ0 ⟨E d,.lookup mt x y N,ty,ps,af,g⟩ (E (.go (S.put d (M.v.a (ZB k M.v.z (M.l s)))))) L b Z PV:=by
 have c:=h.op x;rw[u] at c;have c:opv L b x=ν.hdr id:=c;let⟨m,f,hid⟩:=h.at hs;have f:PV[m]?=E (C.opv M.q T (ν.hdr id) (ν.adr id).a b0 s):=f;rw[M.opv] at f;refine OpA.of (zqP (K:=M.k.K) (k:=k) m hn f c hy R B hi U λr Q=>⟨_,(W.inj Q).symm,?_⟩);have e:(ym k (asV M.v.e (cast (congrArg List M.e) s.xs))).getD (M.v.e M.v.z)=M.v.e (ZB k M.v.z (M.l s)):=by
  rw[zkg];unfold ZB MapR.l;cases ym k (cast (congrArg List M.e) s.xs)<;>rfl
 rw[e];generalize ZB k M.v.z (M.l s)=r;have:∀(v:VK) (r:v.ty),zC κ (S.put d (v.a r)) ((d,v.e r)::L) b Z PV:=by
  intro v r;cases v with
  |i=>exact⟨ν,vs,ids,h.put (A :=.int .i64 r) Rv.int trivial⟩
  |b=>exact⟨ν,vs,ids,h.put (A :=.bool r) Rv.bool trivial⟩
 exact this _ _
theorem zqS (M:MapR C.D C.opv T) {k:M.k.ty}{v:M.v.ty}(h:AbsL κ S ν vs ids L b Z PV) (B:S.op x = .row id) (hs:S.heap id=E (.obj M.q T b0 s)) (hy:opv L b y=M.k.K.enc k) (u:opv L b z=M.v.e v)
    (U:P.underlying mt=E (.map kt et)) (Q:P.underlying kt=E M.k.K.d) :
    OpA κ P n w0 σ0 ⟨F,.mapUpdate mt x y z,ty,ps,af,g⟩ (E (.go {S with heap:=upd S.heap id (E (.obj M.q T b0 (M.s (yA k v (M.l s)))))})) L b Z PV:=by
 have c:=h.op x;rw[B] at c;have c:opv L b x=ν.hdr id:=c;let⟨m,f,hid⟩:=h.at hs;have f:PV[m]?=E (C.opv M.q T (ν.hdr id) (ν.adr id).a b0 s):=f;rw[M.opv] at f;refine OpA.of (zkC (K:=M.k.K) (k:=k) m f c hy U Q λr R=>⟨_,(W.inj R).symm,?_⟩);rw[u,zkh];have h2:=h.setObj (s':=M.s (yA k v (M.l s))) hs hid;rw[M.opv] at h2;have e:cast (congrArg List M.e) (M.s (yA k v (M.l s))).xs=yA k v (M.l s):=M.ls _;rw[e] at h2;exact⟨ν,vs,ids,h2⟩
theorem zqT (M:MapR C.D C.opv T) {k:M.k.ty}{ts:Array TypeId}(ht:ts[0]?=E mt) (h:AbsL κ S ν vs ids L b Z PV) (u:S.op x = .row id) (hs:S.heap id=E (.obj M.q T b0 s)) (U:opv L b y=M.k.K.enc k)
    (R:P.underlying mt=E (.map kt et)) (B:P.underlying kt=E M.k.K.d) :
    OpA κ P n w0 σ0 ⟨F,.call ⟨.builtin .delete, #[x,y],ts⟩,ty,ps,af,g⟩ (E (.go {S with heap:=upd S.heap id (E (.obj M.q T b0 (M.s (yB k (M.l s)))))})) L b Z PV:=by
 have c:=h.op x;rw[u] at c;have c:opv L b x=ν.hdr id:=c;let⟨m,f,hid⟩:=h.at hs;have f:PV[m]?=E (C.opv M.q T (ν.hdr id) (ν.adr id).a b0 s):=f;rw[M.opv] at f;refine OpA.of (zqQ (K:=M.k.K) (k:=k) m ht f c U R B λr Q=>⟨_,(W.inj Q).symm,?_⟩);rw[zki];have h2:=h.setObj (s':=M.s (yB k (M.l s))) hs hid;rw[M.opv] at h2;have e:cast (congrArg List M.e) (M.s (yB k (M.l s))).xs=yB k (M.l s):=M.ls _;rw[e] at h2;exact⟨ν,vs,ids,h2⟩
theorem zwp (M:MapR C.D C.opv T) (h:AbsL κ S ν vs ids L b Z PV) (l:O d n=G) (h0:S.heap (nid d 0)=F) :
    OpA κ P n w0 σ0 ⟨E d,.makeMap mt F,ty,ps,af,g⟩ (E (.go {env:=upd S.env d (.row (nid d 0)),heap:=upd S.heap (nid d 0) (E (.obj M.q T default (M.s [])))})) L b Z PV:=by
 refine OpA.of (zoe l λr0 r c=>⟨_,(W.inj c).symm,?_⟩);refine h.new (e :=.obj M.q T default (M.s [])) (v :=.map (E r0)) (a:=default) (us:=[]) (A :=.row (nid d 0)) h0 (yQ κ d 0) (λν' h1 h2=>⟨?_,rfl⟩) ?_ ?_ (λcs f=>by cases f) rfl
 ·show Value.map (E r0)=ν'.hdr (nid d 0);rw[h1];rfl
 ·rfl
 ·show _=C.opv M.q T (.map (E r0)) _ default (M.s []);rw[M.opv];have e:cast (congrArg List M.e) (M.s []).xs=[]:=M.ls [];rw[e];rfl
end
section
variable {κ:Kp}{C:Cod}{S:St C}{ν:Val}{vs:Nat->List Value}{ids:List Nat}{L:List (Nat×Value)}{b:Nat->Value}{Z:FS}{PV:List Priv}{P:Program}
variable {x y z:Operand}{d:Nat}{ps:String}{af:Array Edge}{g:U3 (Nat×Bool)}{n:Nat}{w0:Start}{σ0:FS}{t ty:TypeId}
def zsB:VK->U3 Value->Bool
 | .i,E (.int .i64 0)=>G
 | .b,E (.bool N)=>G
 |_,_=>N
theorem zwq{v:VK}{z:U3 Value}(h:zsB v z=G):z=E (v.e v.z):=by
 unfold zsB at h;split at h<;>first | rfl | cases h
def zsC:KK->TypeDesc->Bool
 | .s,.string=>G
 | .i,.int .i64=>G
 |_,_=>N
theorem zwr{k:KK}{d:TypeDesc}(h:zsC k d=G):d=k.K.d:=by
 unfold zsC at h;split at h<;>first | rfl | cases h
def zai{β:Type}(P:Program)(S:St C)(t:TypeId)(x y:Operand)(f:(et id q T:Nat)->(b:ByteArray)->(s:Sl (C.D T))->(M:MapR C.D C.opv T)->M.k.ty->U3 β):U3 β:=match P.underlying t with
 |some (.map kt et)=>(match P.underlying kt,S.op x with
  |some a,.row id=>(match S.heap id with
   |some (.obj q T b s)=>(match C.mp T with
    |some M=>(match M.k.dec (S.op y) with
     |some k=>chk (I q M.q && zsC M.k a) (f et id q T b s M k)
     |none=>F)
    |none=>F)
   |_=>F)
  |_,_=>F)
 |_=>F
theorem WR {β:Type}{t:TypeId}{f:(et id q T:Nat)->(b:ByteArray)->(s:Sl (C.D T))->(M:MapR C.D C.opv T)->M.k.ty->U3 β}{r:β}(h:zai P S t x y f=E r) :
    ∃(kt et id T:Nat) (b:ByteArray) (s:Sl (C.D T)) (M:MapR C.D C.opv T) (k:M.k.ty),P.underlying t=E (.map kt et)/\P.underlying kt=E M.k.K.d/\S.op x = .row id/\S.heap id=E (.obj M.q T b s)/\M.k.dec (S.op y)=E k/\f et id M.q T b s M k=E r:=by
 unfold zai at h;split at h
 · rename_i kt et h1;split at h
   · rename_i u id h2 B;split at h
     · rename_i q T b s l;split at h
       · rename_i M e;split at h
         ·rename_i k a;let⟨c,m⟩:=zb h;simp only[gf] at c;obtain rfl:=ge c.1;obtain rfl:=zwr c.2;grind
         ·cases h
       ·cases h
     ·cases h
   ·cases h
 ·cases h
def zga(P:Program)(S:St C)(d:Nat)(t:TypeId)(x y:Operand):U3 (Out C):=zai P S t x y λet _ _ _ _ s M k=>match P.info? et with
 |some ti=>chk (zsB M.v ti.zero) (E (.go (S.put d (M.v.a (ZB k M.v.z (M.l s))))))
 |none=>F
def zbO(P:Program)(S:St C)(t:TypeId)(x y z:Operand):U3 (Out C):=zai P S t x y λ_ id q T b s M k=>match M.v.dec (S.op z) with
 |some v=>E (.go {S with heap:=upd S.heap id (E (.obj q T b (M.s (yA k v (M.l s)))))})
 |none=>F
def wI(P:Program)(S:St C)(ts:Array TypeId)(x y:Operand):U3 (Out C):=match ts[0]? with
 |some t=>zai P S t x y λ_ id q T b s M k=>E (.go {S with heap:=upd S.heap id (E (.obj q T b (M.s (yB k (M.l s)))))})
 |none=>F
def Xz(S:St C)(d:Nat)(t:TypeId):U3 (Out C):=match C.mp t with
 |some M=>chk (isNone (S.heap (nid d 0))) (E (.go {env:=upd S.env d (.row (nid d 0)),heap:=upd S.heap (nid d 0) (E (.obj M.q t default (M.s [])))}))
 |none=>F
variable [Dfr]
theorem zkD(h:AbsL κ S ν vs ids L b Z PV)(e:O d n=G):OpA κ P n w0 σ0 ⟨E d,.makeMap t F,ty,ps,af,g⟩ (Xz S d t) L b Z PV:=by
 intro out a;unfold Xz at a;split at a
 ·rename_i M _;let⟨c0,c⟩:=zb a;exact zwp M h e (Ze c0) out c
 ·cases a
theorem zqU(h:AbsL κ S ν vs ids L b Z PV)(l:O d n=G):OpA κ P n w0 σ0 ⟨E d,.lookup t x y N,ty,ps,af,g⟩ (zga P S d t x y) L b Z PV:=by
 intro out a;let⟨kt,et,id,T,b0,s,M,k,h1,h2,m,f,e,a⟩:=WR a;split at a
 ·rename_i ti hi;let⟨c,a⟩:=zb a;exact zqR M h l m f (KK.dec_ok (h.op y) e) h1 h2 hi (zwq c) out a
 ·cases a
theorem zmJ(h:AbsL κ S ν vs ids L b Z PV):OpA κ P n w0 σ0 ⟨F,.mapUpdate t x y z,ty,ps,af,g⟩ (zbO P S t x y z) L b Z PV:=by
 intro out a;let⟨kt,et,id,T,b0,s,M,k,h1,h2,f,e,c,a⟩:=WR a;split at a
 ·rename_i v l;exact zqS M h f e (KK.dec_ok (h.op y) c) (VK.dec_ok (h.op z) l) h1 h2 out a
 ·cases a
theorem zmK(h:AbsL κ S ν vs ids L b Z PV){ts:Array TypeId}:OpA κ P n w0 σ0 ⟨F,.call ⟨.builtin .delete, #[x,y],ts⟩,ty,ps,af,g⟩ (wI P S ts x y) L b Z PV:=by
 intro out a;unfold wI at a;split at a
 ·rename_i t f;let⟨kt,et,id,T,b0,s,M,k,h1,h2,l,e,c,a⟩:=WR a;exact zqT M f h l e (KK.dec_ok (h.op y) c) h1 h2 out a
 ·cases a
end
variable [Dfr]
theorem Ext.of_below{w w':World}(h:qy w.heap.size w w'):Ext w zc.none w':=
 ⟨h.os,h.output,h.tape,h.size,λb =>.same λhb=>h.block b hb,λa c _=>h.frozen c⟩
theorem Inv.gain{w0:Start}{σ0 Z τ:FS}{PV:List Priv}{w w':World}(hi:Inv w0 σ0 Z PV w)(hb:qy w.heap.size w w')(r:Z.le τ)(m:∀b o v,τ b o=E v->Z b o=E v\/w.heap.size<=b/\w'.cell? ⟨b,o,F⟩=E v):Inv w0 σ0 τ PV w':=by
 have f:=Ext.of_below hb;let⟨h,hs,c⟩:=hi.own;have u:∀b,b < w.heap.size->w'.heap[b]?=w.heap[b]?:=hb.block
 refine⟨λb o v a=>?_,hi.le.trans r,λb o v a=>?_,⟨h,hs.mono r (.refl _),⟨?_,λb o e=>?_,c.mine⟩⟩,hi.ext.trans f λb i _ e=>by cases e⟩
 ·rcases m b o v a with q | q
  ·exact f.held (λb o e=>by cases e) hi.sub b o v q
  ·exact q.2
 ·rcases m b o v a with q | q
  ·exact hi.fresh b o v q
  ·have:=hi.ext.size;grind
 ·exact f.frag (zc.none_disj _) c.sub
 ·cases a:τ b o with
  |none=>rfl
  |some v=>
   rcases m b o v a with q | q
   ·rw[c.apart b o e] at q;cases q
   ·let⟨x,l⟩:=UN.1 e;have:=Bit.at_lt (c.sub b (o+1) x l);omega
theorem Inv.below{w0:Start}{σ0 Z:FS}{PV:List Priv}{w w':World}(hi:Inv w0 σ0 Z PV w)(hb:qy w.heap.size w w'):Inv w0 σ0 Z PV w':=
 hi.gain hb (λ_ _ _ h=>h) λb o v h =>.inl h
section
variable {κ:Kp}{C:Cod}{S:St C}{ν:Val}{vs:Nat->List Value}{ids:List Nat}{L:List (Nat×Value)}{b:Nat->Value}{Z τ:FS}{PV:List Priv}{P:Program}
variable {t t' ty:TypeId}{x y z:Operand}{d:Nat}{ps:String}{af:Array Edge}{g:U3 (Nat×Bool)}{A:AV C.D}{n:Nat}{w0:Start}{σ0:FS}{o:Oper}{X:U3 (Out C)}
omit [Dfr] in
theorem AbsL.le(h:AbsL κ S ν vs ids L b Z PV)(l:Z.le τ):AbsL κ S ν vs ids L b τ PV:=
 ⟨⟨h.nd,h.dom,h.pv,λid cs e=>(h.cell id cs e).mono l,λt=>(h.env t).mono l,h.one⟩,h.live,h.livec,h.keep⟩
theorem zfn(w:World)(e:TypeId)(s:ByteArray):qy w.heap.size w (Lib.bytesWorld w e s):=by
 refine⟨?_,?_,?_,by rw[Lib.bytesWorld_size];omega,λk a=>Lib.bytesWorld_at_old w e s k a⟩<;>
  (unfold Lib.bytesWorld World.freeze;split<;>rfl)
def yH(P:Program)(S:St C)(d:Nat)(ty t:TypeId)(x:Operand)(lo hi:U3 Operand):U3 (Out C):=match S.op x with
 | .row id=>(yG P (S.frz1 id) ty (.slice t x lo hi F)).bind λA=>E (.go ((S.frz1 id).put d A))
 |_=>F
theorem ze1(h:AbsL κ S ν vs ids L b Z PV)(q:O d n=G){lo hi:U3 Operand}:OpA κ P n w0 σ0 ⟨E d,.slice t x lo hi F,ty,ps,af,g⟩ (yH P S d ty t x lo hi) L b Z PV:=by
 intro out a;unfold yH at a;split at a
 ·rename_i id e;let⟨A,l,a⟩:=gd a;cases a;refine OpA.frz [id] ⟨ν,vs,ids,h⟩ (λr PV' c=>?_) (X:=E (.go ((S.frz1 id).put d A))) _ rfl;let⟨ν',m,f,c⟩:=c;exact zag c q l (zah c l)
 ·cases a
def zqV(S:St C)(d t:Nat)(cs:List (AV C.D)):U3 (Out C):=(C.imp t cs).bind λq=>E (.go (S.put d (.pz t q 0)))
theorem zqW(h:AbsL κ S ν vs ids L b Z PV)(hn:O d n=G)(hs:YU (S.op x)=G):OpA κ P n w0 σ0 ⟨E d,.box t x,ty,ps,af,g⟩ (zqV S d t (zt (S.op x))) L b Z PV:=by
 intro out D;let⟨q,hq,D⟩:=gd D;cases D;let⟨hc,_⟩:=ZE (h.op x) hs h.one;intro a w hi hf K Q hK hP;refine zqB (H:=λ_ L' R PV'=>∃c:Addr,L'=(d,.pointer (E (c.add 0)))::L/\R=Z/\PV' = .cell c (opv L b x).cells.toList::PV) hn rfl (λc=>⟨c,rfl,rfl,rfl⟩) (E ()) rfl a w hi hf K Q ?_;intro p' L' R PV' a' w' hp U hf' hH;obtain⟨c,rfl,rfl,rfl⟩:=hH;let⟨h1,l,hsub,f,B⟩:=U.freeze (m:=0) rfl;have l:Z2 c (opv L b x).cells.toList h1:=l;refine hK _ rfl _ _ _ a' w' B hf' ⟨ν,vs,ids,AbsL.put (h.le f) (A :=.pz t q 0) ?_ trivial⟩;have e:=WP (ν:=ν) (hc.mono f) hq;refine Rv.pz (λj=>((opv L b x).cells.toList[j]?).getD default) (λj A M=>?_) (λj A M=>?_)
 ·let⟨u,r,e2⟩:=e.2 j A M;rw[r,Addr.add_eq _ l.1];simpa[FS.cell] using Xx (Z:=R) _ _ _ (l.2 j u r)
 ·let⟨u,r,e2⟩:=e.2 j A M;grind
end
variable [Dfr]
section
variable {C:Cod}{S:St C}{P:Program}{ρ:Type}
def zhu(P:Program)(S:St C)(t:TypeId)(A:AV C.D)(K:AV C.D->U3 ρ):U3 ρ:=match A with
 | .pr id T i off=>match S.heap id with
  |some (.row T' s)=>chk (I T T') ((za s i).bind λx=>(Yz P t (C.emb T' x) off).bind K)
  |some (.orow T' s g)=>chk (I T T') ((za s i).bind λx=>(Yz P t (zfk C T' x id i) off).bind K)
  |_=>F
 | .nx id T i (.elem U k off)=>zM S id T i λa u=>chk (I U a) ((za u k).bind λy=>(Yz P t (C.emb a y) off).bind K)
 |A=>(x9 P S t A).bind K
theorem zx{α β:Type}{c:Bool}{x:U3 α}{k:α->U3 β}:(chk c x).bind k=chk c (x.bind k):=by cases c<;>rfl
theorem YC{α β:Type}{id T:Nat}{i:Int}{K:(U:Nat)->Sl (C.D U)->U3 α}{k:α->U3 β}:(zM S id T i K).bind k=zM S id T i λU u=>(K U u).bind k:=by
 unfold zM;split
 ·rw[zx,gh];grind
 ·rfl
theorem zof{t:TypeId}{A:AV C.D}{K:AV C.D->U3 ρ}:zhu P S t A K=(x9 P S t A).bind K:=by
 unfold zhu;split
 ·rename_i id T i off;simp only[x9];cases S.heap id with
  |none=>rfl
  |some e=>
   cases e with
   |cell cs=>rfl
   |row T' s=>simp only[zx,gh]
   |obj q T b s=>rfl
   |orow T' s g=>simp only[zx,gh]
 ·rename_i id T i U k off;simp only[x9,YC,zx,gh]
 ·rfl
def zfo(P:Program)(S:St C)(t:TypeId)(A B:AV C.D)(K:AV C.D->U3 ρ):U3 ρ:=match P.underlying t with
 |some (.slice e)=>(match P.info? e with
  |some ti=>(match A,B with
   | .sl T s _,.int _ i=>chk (I ti.size (C.size T)) ((za s i).bind λq=>K (.pz T q 0))
   | .row id,.int _ i=>(match S.heap id with
    |some (.row T s)=>chk (I ti.size (C.size T)) ((za s i).bind λ_=>K (.pr id T i 0))
    |some (.orow T s g)=>chk (I ti.size (C.size T)) ((za s i).bind λ_=>K (.pr id T i 0))
    |_=>F)
   | .nx id T i .whole,.int _ k=>zM S id T i λU u=>chk (I ti.size (C.size U)) ((za u k).bind λ_=>K (.nx id T i (.elem U k 0)))
   | .nx id T i (.part U lo hi),.int _ k=>zM S id T i λc u=>chk (I U c && I ti.size (C.size U)) ((z7 u lo hi).bind λa=>(za a k).bind λ_=>K (.nx id T i (.elem U (lo+k) 0)))
   |_,_=>F)
  |none=>F)
 |some (.array n e)=>(match P.info? e with
  |some ti=>(match A,B with
   | .pc id off,.int .i64 i=>chk (!I ti.size 0) (zda ti.size id off i n K)
   |_,_=>F)
  |none=>F)
 |_=>F
theorem zmL{t:TypeId}{A B:AV C.D}{K:AV C.D->U3 ρ}:zfo P S t A B K=(XS P S t A B).bind K:=by
 unfold zfo XS;cases P.underlying t with
 |none=>rfl
 |some c=>
  cases c with
  |slice e=>
   simp only;cases P.info? e with
   |none=>rfl
   |some ti=>
    simp only;cases A<;>first | rfl | skip
    ·cases B<;>first | rfl | (simp only[zx,gh,jj])
    ·rename_i id;cases B<;>first | rfl | skip
     simp only;cases S.heap id with
     |none=>rfl
     |some a=>
      cases a with
      |cell cs=>rfl
      |row T s=>simp only[zx,gh,jj]
      |obj q T b s=>rfl
      |orow T s g=>simp only[zx,gh,jj]
    ·rename_i id T i x;cases x<;>cases B<;>first | rfl | simp only[YC,zx,gh,jj]
  |array n e=>
   simp only;cases P.info? e with
   |none=>rfl
   |some ti=>
    simp only;cases A<;>first | rfl | skip
    cases B<;>first | rfl | skip
    rename_i kk i;cases kk<;>first | rfl | (simp only[zx,zir,jj])
  |_=>rfl
def zkE(n:Nat)(cs:List (AV C.D))(i:Int)(K:AV C.D->U3 ρ):U3 ρ:=chk (I n cs.length) (match zbG cs with
 |some l=>(vN l i).bind λs=>K (.str s)
 |none=>(match cs with
  | .int k _::_=>(zd9 k cs).bind λl=>(vN l i).bind λm=>K (.int k m)
  |_=>F))
theorem zqX{n:Nat}{cs:List (AV C.D)}{i:Int}{K:AV C.D->U3 ρ}:zkE n cs i K=(zf6 n cs i).bind K:=by
 unfold zkE zf6;rw[zx];congr 1;cases zbG cs with
 |some l=>grind
 |none=>
  grind
def zhv(P:Program)(t:TypeId)(A B:AV C.D)(K:AV C.D->U3 ρ):U3 ρ:=match P.underlying t,A,B with
 |some .string,.str s,.int _ i=>(Zg s i).bind λc=>K (.int .u8 c)
 |some (.array n e),.agg cs,.int _ i=>(match P.underlying e,P.info? e with
  |some a,E f=>chk (!Zh a && I f.size 1) (zkE n cs i K)
  |_,_=>F)
 |_,_,_=>F
theorem zog{t:TypeId}{A B:AV C.D}{K:AV C.D->U3 ρ}:zhv P t A B K=(zba P t A B).bind K:=by
 unfold zhv zba;cases P.underlying t with
 |none=>rfl
 |some a=>
  cases a<;>first | rfl | skip
  ·grind
  ·rename_i n e;cases A<;>first | rfl | skip
   cases B<;>first | rfl | skip
   simp only;cases P.underlying e with
   |none=>rfl
   |some a=>cases P.info? e with
    |none=>rfl
    |some c=>simp only[zx,zqX]
def zfp(P:Program)(S:St C)(t:TypeId)(A:AV C.D)(lo hi:U3 Operand)(K:AV C.D->U3 ρ):U3 ρ:=match P.underlying t,A with
 |some .string,.str s=>(match Zm S 0 lo,Zm S s.size hi with
  |some i,E j=>(ZI s i j).bind λu=>K (.str u)
  |_,_=>F)
 |some (.slice e),.sl T s _=>(match P.info? e,Zm S 0 lo,Zm S s.len hi with
  |some ti,E i,E j=>chk (I ti.size (C.size T)) ((z7 s i j).bind λu=>K (.sl T u N))
  |_,_,_=>F)
 |some (.slice e),.nx id T k .whole=>(match P.info? e,Zm S 0 lo with
  |some ti,E i=>zM S id T k λU u=>(match Zm S u.len hi with
   |some j=>chk (I ti.size (C.size U)) ((z7 u i j).bind λ_=>K (.nx id T k (.part U i j)))
   |none=>F)
  |_,_=>F)
 |_,_=>F
theorem zmM{t:TypeId}{A:AV C.D}{lo hi:U3 Operand}{K:AV C.D->U3 ρ}:zfp P S t A lo hi K=(Yt P S t A lo hi).bind K:=by
 unfold zfp Yt;cases P.underlying t with
 |none=>rfl
 |some a=>
  cases a<;>first | rfl | skip
  ·cases A<;>first | rfl | skip
   grind
  ·rename_i e;cases A<;>first | rfl | skip
   ·rename_i T s c;simp only;cases P.info? e with
    |none=>rfl
    |some ti=>cases Zm S 0 lo with
     |none=>rfl
     |some i=>cases Zm S s.len hi with
      |none=>rfl
      |some j=>simp only[zx,gh,jj]
   ·rename_i id T k x;cases x<;>first | rfl | skip
    simp only;cases P.info? e with
    |none=>rfl
    |some ti=>cases Zm S 0 lo with
     |none=>rfl
     |some i=>
      simp only[YC];congr 1;funext U u;cases Zm S u.len hi with
      |none=>rfl
      |some j=>simp only[zx,gh,jj]
def zkF(P:Program)(S:St C)(t:TypeId)(bo:BinOp)(x y:Operand)(K:AV C.D->U3 ρ):U3 ρ:=match bo,S.op x,S.op y with
 | .quo,.int k i,.int k' j=>chk (!Yg y && decide (k=k')) ((zkj k i j).bind λq=>K (.int k q))
 | .rem,.int k i,.int k' j=>chk (!Yg y && decide (k=k')) ((zkk k i j).bind λq=>K (.int k q))
 | .add,.str s,.str u=>chk (!Yg y && decide (s.size+u.size<=9223372036854775807)) (K (.str (s++u)))
 | .eql,.nx id T i .whole,.nils=>(match P.underlying t with
  |some (.slice _)=>chk (!Yg y) (zM S id T i λ_ s=>K (.bool !s.nn))
  |_=>F)
 | .neq,.nx id T i .whole,.nils=>(match P.underlying t with
  |some (.slice _)=>chk (!Yg y) (zM S id T i λ_ s=>K (.bool s.nn))
  |_=>F)
 |bo,_,_=>(Xa P S t bo x y).bind K
theorem Wb{α:Type}{id T:Nat}{i:Int}:zM S id T i (λ_ _=>(none:U3 α))=none:=by
 unfold zM;split
 ·rename_i T' s g hs;cases a:(I T T' && g.rd) with
  |false=>rfl
  |true=>
   show(za s i).bind _=F;cases za s i with
   |none=>rfl
   |some q=>grind
 ·rfl
theorem zqY{t:TypeId}{bo:BinOp}{x y:Operand}{K:AV C.D->U3 ρ}:zkF P S t bo x y K=(Xa P S t bo x y).bind K:=by
 unfold zkF;split
 ·rename_i k i h j c a;unfold Xa;cases e:Yg y with
  |true=>
   have:=wQ e;subst this;cases a
  |false=>
   simp only[U8,D6,qM,c,a,wq,wA,zd7];rw[zx,gh];rfl
 ·rename_i k i h j c a;unfold Xa;cases e:Yg y with
  |true=>
   have:=wQ e;subst this;cases a
  |false=>
   simp only[U8,D6,qM,c,a,wq,wA,zd7];rw[zx,gh];rfl
 ·rename_i s u c a;unfold Xa;cases e:Yg y with
  |true=>
   have:=wQ e;subst this;cases a
  |false=>
   simp only[U8,D6,qM,c,a,wq,wA];rw[zx];rfl
 ·rename_i id T i c a;unfold Xa;cases e:Yg y with
  |true=>
   have:=wQ e;subst this;cases a
  |false=>
   simp only[U8,D6,c,a,wq,YC];cases P.underlying t with
   |none=>exact(Wb (S:=S) (id:=id) (T:=T) (i:=i)).symm
   |some f=>cases f<;>first | exact(Wb (S:=S) (id:=id) (T:=T) (i:=i)).symm | rfl
 ·rename_i id T i c a;unfold Xa;cases e:Yg y with
  |true=>
   have:=wQ e;subst this;cases a
  |false=>
   simp only[U8,D6,c,a,wq,YC];cases P.underlying t with
   |none=>exact(Wb (S:=S) (id:=id) (T:=T) (i:=i)).symm
   |some f=>cases f<;>first | exact(Wb (S:=S) (id:=id) (T:=T) (i:=i)).symm | rfl
 ·rfl
def zkG(P:Program)(S:St C)(t:TypeId)(A:AV C.D)(K:AV C.D->U3 ρ):U3 ρ:=match P.underlying t,A with
 |some (.slice _),.nx id T i .whole=>zM S id T i λ_ u=>K (.int .i64 u.len)
 |some (.slice _),.nx id T k (.part U i j)=>zM S id T k λa u=>chk (I U a) ((z7 u i j).bind λ_=>K (.int .i64 (j - i)))
 |_,A=>(w9 P S t A).bind K
theorem zqZ{t:TypeId}{A:AV C.D}{K:AV C.D->U3 ρ}:zkG P S t A K=(w9 P S t A).bind K:=by
 unfold zkG;split
 ·rename_i a;unfold w9;rw[a];simp only[YC,jj]
 ·rename_i a;unfold w9;rw[a];simp only[YC,zx,gh,jj]
 ·rfl
def zed(P:Program)(S:St C)(ty:TypeId)(op:Op)(K:AV C.D->U3 ρ):U3 ρ:=match op with
 | .load t x=>zhu P S t (S.op x) K
 | .indexAddr t x y=>zfo P S t (S.op x) (S.op y) K
 | .index t x y=>zhv P t (S.op x) (S.op y) K
 | .slice t x lo hi F=>zfp P S t (S.op x) lo hi K
 | .binOp bo t x y _=>zkF P S t bo x y K
 | .call ⟨.builtin .len,args,ts⟩=>(match args.toList,ts.toList with
  |[x],[t]=>zkG P S t (S.op x) K
  |_,_=>F)
 |op=>(yG P S ty op).bind K
theorem zbP{ty:TypeId}{op:Op}{K:AV C.D->U3 ρ}:zed P S ty op K=(yG P S ty op).bind K:=by
 unfold zed;split
 ·exact zof
 ·exact zmL
 ·exact zog
 ·exact zmM
 ·exact zqY
 ·rename_i args ts;unfold yG;dsimp only;cases args.toList with
  |nil=>rfl
  |cons x l=>cases l with
   |nil=>cases ts.toList with
    |nil=>rfl
    |cons t r=>cases r with
     |nil=>exact zqZ
     |cons=>rfl
   |cons=>rfl
 ·rfl
end
end
end Go.Px
