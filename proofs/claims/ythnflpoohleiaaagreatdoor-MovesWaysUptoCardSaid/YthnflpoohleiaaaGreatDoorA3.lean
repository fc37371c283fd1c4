/- Part A3. -/
import Derived.Test.YthnflpoohleiaaaGreatDoorA2
import Derived.Below
import Derived.Lib.ConvBytes
import Derived.Laws.BytesString
set_option linter.unusedSectionVars false
set_option linter.unusedVariables false
set_option linter.unusedSimpArgs false
namespace Go.Px
open Bool renaming true->G,false->N,true_and->qM
open Go.Instr renaming typeAssert->qK,fill->qL,sureAddr->qW,sliceAt->qX,mapUpdate->qY,lookup->qZ,keyThatStays->q0,index->q5,build->zI
open Go.MapKept renaming run_findKey->qk,run_setObj_map->qC,run_checkKey->qG
open Go.Op renaming equalIn->qv,equal->qP
open Go.Oper renaming wp->qc,upon_value->qA
open Go.Result renaming andThen->qb,ok->qO
open Go.RowKit renaming Below->qy
open Go.Value renaming pointer->V,cells->qo,oneCell'->qN
open List renaming range->Y,pairwise_iff_getElem->qx,set_set->qD,map->qE,mem_iff_getElem?->qH,mem_eraseIdx_iff_getElem->qI,getElem?_range->qJ,take->qR,getElem_of_mem->qS,getElem?_set_self->qT,eraseIdx_sublist->qU,drop->qV
open Nat renaming beq->I,blt->O,ble->qB,mul_comm->qF,add_assoc->qQ
open _root_.Option renaming some->E,none->F,some->W
section
theorem Dy:(!N)=true:=@Bool.not_false
theorem Dx:∀{P:Program}{w:World}{r:Nat}{es:Array MapEntry}{a:Nat},w.heap[r]? =E (Obj.map es a)->Sem.run P (getObj r) w=qO (Obj.map es a) w:=@MapKept.run_getObj_map
theorem Dw:∀{α:Type _}{β:Type _}{b:β}{f:α->β}{l:List α},b∈qE f l↔∃a,a∈l/\f a=b:=@List.mem_map
theorem Dv:∀{α:Type _}{l:List α}{i:Nat}{a b:α},a∈l.set i b->a∈l\/a=b:=@List.mem_or_eq_of_mem_set
theorem Du:∀{α:Type _}(y:α){a:α}{l:List α},a∈l->a∈y::l:=@List.mem_cons_of_mem
theorem Dt:∀{α:Type _}{β:Type _}{«as»:List α}(f:α->β),(qE f «as»).length=«as».length:=@List.length_map
theorem Ds:∀{α:Type _}{l:List α}{α_1:Type _}{f g:α->α_1},(∀(a:α),a∈l->f a=g a)->qE f l=qE g l:=@List.map_congr_left
theorem Dr:∀{α:Type _}{a b:α},a∈[b]↔a=b:=@List.mem_singleton
theorem Dq:∀{α:Sort _}(a b:α),(bif G then a else b)=a:=@cond_true
theorem Dp:∀{α:Type _}{p:α->Bool}{l:List α},l.all p=G↔∀(x:α),x∈l->p x=true:=@List.all_eq_true
theorem Do:∀(b:Bool),((!b)=G)=(b=N):=@Bool.not_eq_true'
theorem Dn:∀{p:Prop}[a:Decidable p],decide p=G->p:=@of_decide_eq_true
theorem Dm:∀{α:Type _}{α_1:Type _}{f:Nat->α->α_1}{l:List α}{i:Nat},(List.mapIdx f l)[i]? =Option.map (f i) l[i]?:=@List.getElem?_mapIdx
variable [Dfr]
inductive NX where
 |whole
 |part (U:Nat) (lo hi:Int)
 |elem (U:Nat) (k:Int) (off:Nat)
inductive AV(D:Nat->Type) where
 |int (k:IntKind) (n:Int)
 |bool (b:Bool)
 |str (s:ByteArray)
 |agg (cs:List (AV D))
 |tup (vs:List (AV D))
 |sl (T:Nat) (s:Sl (D T)) (clip:Bool)
 |row (id:Nat)
 |pc (id off:Nat)
 |pr (id T:Nat) (i:Int) (off:Nat)
 |nx (id T:Nat) (i:Int) (x:NX)
 |pz (T:Nat) (x:D T) (off:Nat)
 |pnil
 |nils
 |clo (f:Nat) (caps:List (AV D))
 |nilf
 |ifc (t:Nat) (v:AV D)
 |nili
 |und
def AV.leaf{D:Nat->Type}:AV D->Bool
 | .agg _=>N
 | .tup _=>N
 | .und=>N
 |_=>G
def AV.base{D:Nat->Type}:AV D->Bool
 | .int _ _=>G
 | .bool _=>G
 | .str _=>G
 | .sl _ _ c=> !c
 | .pz _ _ _=>G
 | .pnil=>G
 | .clo _ cs=>cs.isEmpty
 | .nilf=>G
 | .ifc _ A=>A.base
 | .nili=>G
 |_=>N
def AV.num{D:Nat->Type}:AV D->Bool
 | .int _ _=>G
 | .bool _=>G
 | .str _=>G
 |_=>N
def leA{D:Nat->Type}(A B:AV D):Prop:=A=B\/(∃T s c,A = .sl T s c/\B = .sl T s N)\/∃T c,A = .nils/\B = .sl T ⟨[],N⟩ c
def zfk{D:Nat->Type}:List (AV D)->List (AV D)->Prop
 |[],[]=>True
 |a::as,b::bs=>leA a b/\zfk as bs
 |_,_=>False
structure Cod where
 D:Nat->Type
 size:Nat->Nat
 agg:Nat->Bool
 emb:(T:Nat)->D T->List (AV D)
 imp:(T:Nat)->List (AV D)->Uv (D T)
 len:∀T x,(emb T x).length=size T
 base:∀T x A,A∈emb T x->A.base=G
 sz:∀T,agg T=N->size T=1
 imp_ok:∀T cs x,imp T cs=E x->zfk cs (emb T x)
 gl:World->FS->Prop
 opv:Nat->(T:Nat)->Value->Addr->ByteArray->Sl (D T)->Priv
 oal:Nat->List Value->Uv (Nat×Nat)
 oal_ok:∀t zs k T,oal t zs=E (k,T)->∀(q:Nat) (hdr:Value) (Z:FS) (h:zc),(Zb q t zs.toArray).le h->(opv k T hdr ⟨q,0,F⟩ ⟨#[]⟩ ⟨[],N⟩).holds Z h
 mp:(T:Nat)->Uv (MapR D opv T)
 lfs:Nat->List (Uv Nat)
 lfs_ok:∀(T:Nat) (x:D T) (j:Nat) (A:AV D),(emb T x)[j]?=E A->A.num=G\/(∃U s,A = .sl U s N/\(lfs T)[j]?=E (E U))\/∃U x,A = .pz U x 0/\(lfs T)[j]?=E (E U)
 nst:Nat->Nat
 own:Nat->Bool
 bz:Nat->Bool
 glm:∀{Z τ:FS} {w w':World} {h:zc},Z.le τ->Ext w h w'->gl w Z->gl w' τ
section
variable {C:Cod}
inductive Rv(C:Cod)(Z:FS):Value->AV C.D->Prop where
 |int {k n}:Rv C Z (.int k n) (.int k n)
 |bool {b}:Rv C Z (.bool b) (.bool b)
 |str {s}:Rv C Z (.string s) (.str s)
 |sl {T} {s:Sl (C.D T)} {clip:Bool} {a:Uv Addr} {n c:Nat} (cell:Nat->Nat->Value):n=s.xs.length->a.isSome=s.nn->n<=c->c<=maxLen->(a=F->n=0/\c=0)->(clip=G->c=n)->
     (∀(i:Nat) x (j:Nat) A,s.xs[i]?=E x->(C.emb T x)[j]?=E A->∃ad:Addr,a=E ad/\Z.cell (ad.add (i * C.size T+j))=E (cell i j))->
     (∀(i:Nat) x (j:Nat) A,s.xs[i]?=E x->(C.emb T x)[j]?=E A->Rv C Z (cell i j) A)->Rv C Z (.slice a n c) (.sl T s clip)
 |pz {T} {x:C.D T} {off:Nat} {ad:Addr} (cell:Nat->Value):(∀(j:Nat) A,(C.emb T x)[j]?=E A->Z.cell (ad.add j)=E (cell j))->
     (∀(j:Nat) A,(C.emb T x)[j]?=E A->Rv C Z (cell j) A)->Rv C Z (.pointer (E (ad.add off))) (.pz T x off)
 |pnil:Rv C Z (.pointer F) .pnil
 |clo {f}:Rv C Z (.func (.func f) #[] #[]) (.clo f [])
 |nilf:Rv C Z .nilFunc .nilf
 |ifc {t u A}:Rv C Z u A->Rv C Z (.iface t u) (.ifc t A)
 |nili:Rv C Z .nilIface .nili
variable {Z τ:FS}
omit [Dfr] in
theorem Rv.mono(l:Z.le τ){v:Value}{A:AV C.D}(h:Rv C Z v A):Rv C τ v A:=by
 induction h with
 |int=>exact .int
 |bool=>exact .bool
 |str=>exact .str
 |sl cell h1 h2 k c m g n o a=>
  refine .sl cell h1 h2 k c m g (λi x j A hi b=>?_) a;let⟨d,e,f⟩:=n i x j A hi b;exact⟨d,e,l.cell f⟩
 |pz cell h1 h2 a=>exact .pz cell (λj A b=>l.cell (h1 j A b)) a
 |pnil=>exact .pnil
 |clo=>exact .clo
 |nilf=>exact .nilf
 |ifc _ a=>exact .ifc a
 |nili=>exact .nili
omit [Dfr] in
theorem Rv.one{v:Value}{A:AV C.D}(h:Rv C Z v A):v.oneCell'=true:=by cases h<;>rfl
omit [Dfr] in
theorem Rv.leaf{v:Value}{A:AV C.D}(h:Rv C Z v A):A.leaf=true:=by cases h<;>rfl
omit [Dfr] in
def zC(C:Cod)(T:Nat):Ty (C.D T) where
 size:=C.size T
 agg:=C.agg T
 rel Z cs x:=cs.length=C.size T/\∀(j:Nat) A,(C.emb T x)[j]?=E A->∃u,cs[j]?=E u/\Rv C Z u A
 len h:=h.1
 mono l h:=⟨h.1,λj A a=>let⟨u,h1,h2⟩:=h.2 j A a;⟨u,h1,h2.mono l⟩⟩
 one:=by
  intro Z cs x h u c;let⟨j,a⟩:=qH.1 c;have b:=(U5.1 a).1;have:j < (C.emb T x).length:=by rw[C.len,<- h.1];exact b
  let⟨w,h1,h2⟩:=h.2 j _ (UC this);rw[a] at h1;cases h1;exact h2.one
 sz:=C.sz T
theorem zig{T:Nat}{xs:List (C.D T)}{cs:List Value}:(zC C T).rels Z cs xs↔cs.length=xs.length * C.size T/\∀(i:Nat) x (j:Nat) A,xs[i]?=E x->(C.emb T x)[j]?=E A->∃u,cs[i * C.size T+j]?=E u/\Rv C Z u A:=by
 constructor
 ·intro r;refine⟨(zC C T).rels_len r,λi x j A hi c=>?_⟩;let⟨_,h⟩:=(zC C T).rels_get i r hi;let⟨u,h1,h2⟩:=h j A c;refine⟨u,?_,h2⟩;have a:j < C.size T:=jE
  rw[Da (show j < (zC C T).size from a),Db] at h1;exact h1
 ·rintro⟨d,h⟩;refine Ty.rels_of d λi x hi=>?_
  have b:=(U5.1 hi).1;refine⟨?_,λj A c=>?_⟩
  ·show(qR (C.size T) (qV (i * C.size T) cs)).length=C.size T;simp only[De,UK,d];have:(i+1) * C.size T<=xs.length * C.size T:=Dd _ b;grind
  ·let⟨u,h1,h2⟩:=h i x j A hi c;have a:j < C.size T:=by rw[<- C.len T x];grind
   refine⟨u,?_,h2⟩;show(qR (C.size T) (qV (i * C.size T) cs))[j]?=E u;grind
omit [Dfr] in
theorem Rv.slAt{T:Nat}{s:Sl (C.D T)}{b:Bool}{v:Value}(h:Rv C Z v (.sl T s b)):∃a n c,v = .slice a n c/\slAt (zC C T) Z a n c s/\(b=G->c=n):=by
 cases h with
 | @sl _ _ _ a n c cell h1 h2 y w m r o t=>
  refine⟨a,n,c,rfl,⟨h1,h2,y,w,m,?_⟩,r⟩
  let cells:List Value:=(Y (s.xs.length * C.size T)).map λk=>cell (k / C.size T) (k % C.size T)
  have key:∀(i:Nat) x (j:Nat) A,s.xs[i]?=E x->(C.emb T x)[j]?=E A->cells[i * C.size T+j]?=E (cell i j):=by
   intro i x j A hi d;have e:j < C.size T:=by rw[<- C.len T x];grind
   have f:=(U5.1 hi).1;have q:i * C.size T+j < s.xs.length * C.size T:=by
    have:(i+1) * C.size T<=s.xs.length * C.size T:=Dd _ f;grind
   have hd:(i * C.size T+j) / C.size T=i:=by rw[qF,Nat.mul_add_div Zd,Nat.div_eq_of_lt e];rfl
   have l:(i * C.size T+j) % C.size T=j:=by rw[qF,Nat.mul_add_mod,Nat.mod_eq_of_lt e]
   show((Y (s.xs.length * C.size T)).map λk=>cell (k / C.size T) (k % C.size T))[i * C.size T+j]?=E (cell i j);grind
  refine⟨cells,zig.2 ⟨by simp[cells],λi x j A hi d=>⟨_,key i x j A hi d,t i x j A hi d⟩⟩,λk u K=>?_⟩;have g:k < s.xs.length * C.size T:=jE
  have h0:0 < C.size T:=by
   grind
  have hi:k / C.size T < s.xs.length:=by rw[Nat.div_lt_iff_lt_mul h0];exact g
  have l:=Nat.mod_lt k h0;have p:k / C.size T * C.size T+k % C.size T=k:=by rw[qF];exact Nat.div_add_mod k _
  have d:k % C.size T < (C.emb T s.xs[k / C.size T]).length:=by rw[C.len];exact l
  have H:=key _ _ _ _ (UC hi) (UC d);let⟨z,B,L⟩:=o _ _ _ _ (UC hi) (UC d);grind
theorem Rv.of_slAt{T:Nat}{s:Sl (C.D T)}{b:Bool}{a:Uv Addr}{n c:Nat}(h:Px.slAt (zC C T) Z a n c s)(f:b=G->c=n):Rv C Z (.slice a n c) (.sl T s b):=by
 let⟨h1,h2,k,d,l,cells,g,p⟩:=h;let⟨m,o⟩:=zig.1 g;refine .sl (λi j=>(cells[i * C.size T+j]?).getD default) h1 h2 k d l f (λi x j A hi e=>?_) (λi x j A hi e=>?_)
 ·grind
 grind
omit [Dfr] in
theorem Rv.vrel{T:Nat}{s:Sl (C.D T)}{b:Bool}{v:Value}(h:Rv C Z v (.sl T s b)):(tSl (zC C T)).vrel Z v s:=by
 obtain⟨a,n,c,rfl,h,_⟩:=h.slAt;exact YF.2 ⟨a,n,c,rfl,h⟩
theorem Rv.of_vrel{T:Nat}{s:Sl (C.D T)}{v:Value}(h:(tSl (zC C T)).vrel Z v s):Rv C Z v (.sl T s N):=by
 obtain⟨a,n,c,rfl,k⟩:=YF.1 h;exact .of_slAt k je
structure Loc where
 a:Addr
 sub:Nat->Value
instance:Inhabited Loc:=⟨⟨default,λ_ =>.slice F 0 0⟩⟩
abbrev Loc.add(l:Loc)(o:Nat):Addr:=l.a.add o
structure Val where
 hdr:Nat->Value
 adr:Nat->Loc
def NX.val(C:Cod)(h:Value):NX->Value
 | .whole=>h
 | .part U lo hi=>vz h lo hi (C.size U)
 | .elem U k off =>.pointer (E (zi h (k.toNat * C.size U+off)))
def zaZ(f:Nat):List Value->Value
 |[.tuple a] =>.func (.func f) a #[]
 |vs =>.func (.func f) #[] vs.toArray
theorem zmW(f:Nat){vs:List Value}(h:∀v∈vs,v.oneCell'=G):zaZ f vs = .func (.func f) #[] vs.toArray:=by
 unfold zaZ;split
 ·rename_i a;have:=h (.tuple a) je;cases this
 ·rfl
theorem zso(f:Nat)(vs:List Value):(zaZ f vs).oneCell'=true:=by
 unfold zaZ;split<;>rfl
mutual
def VR(C:Cod)(Z:FS)(ν:Val):Value->AV C.D->Prop
 |v,.row id=>v=ν.hdr id
 |v,.pc id off=>v = .pointer (E ((ν.adr id).add off))
 |v,.pr id T i off=>v = .pointer (E (zi (ν.hdr id) (i.toNat * C.size T+off)))
 |v,.nx id _ i x=>v=x.val C ((ν.adr id).sub i.toNat)/\v.oneCell'=G
 |v,.agg cs=>∃vs:List Value,v = .agg vs.toArray/\VRs C Z ν vs cs
 |v,.tup cs=>∃vs:List Value,v = .tuple vs.toArray/\VRs C Z ν vs cs
 |v,.clo f caps=>∃vs:List Value,v=zaZ f vs/\VRs C Z ν vs caps
 |v,.ifc t A=>∃u,v = .iface t u/\VR C Z ν u A
 |_,.und=>True
 |v,.nils=>v = .slice F 0 0
 |v,A=>Rv C Z v A
def VRs(C:Cod)(Z:FS)(ν:Val):List Value->List (AV C.D)->Prop
 |[],[]=>True
 |v::vs,A::As=>VR C Z ν v A/\VRs C Z ν vs As
 |_,_=>False
end
variable {ν:Val}
omit [Dfr] in
theorem VR.mono(l:Z.le τ):∀{A:AV C.D}{v:Value},VR C Z ν v A->VR C τ ν v A
 | .row _,_,h=>h
 | .pc _ _,_,h=>h
 | .pr _ _ _ _,_,h=>h
 | .nx _ _ _ _,_,h=>h
 | .agg cs,_,⟨vs,e,h⟩=>⟨vs,e,go vs cs h⟩
 | .tup cs,_,⟨vs,e,h⟩=>⟨vs,e,go vs cs h⟩
 | .clo _ cs,_,⟨vs,e,h⟩=>⟨vs,e,go vs cs h⟩
 | .ifc _ A,_,⟨u,e,h⟩=>⟨u,e,VR.mono l h⟩
 | .und,_,_=>trivial
 | .nils,_,h=>h
 | .int _ _,_,h=>Rv.mono l h
 | .bool _,_,h=>Rv.mono l h
 | .str _,_,h=>Rv.mono l h
 | .sl _ _ _,_,h=>Rv.mono l h
 | .pz _ _ _,_,h=>Rv.mono l h
 | .pnil,_,h=>Rv.mono l h
 | .nilf,_,h=>Rv.mono l h
 | .nili,_,h=>Rv.mono l h
where go:∀(vs:List Value) (cs:List (AV C.D)),VRs C Z ν vs cs->VRs C τ ν vs cs
 |[],[],_=>trivial
 |_::vs,_::cs,⟨h,k⟩=>⟨VR.mono l h,go vs cs k⟩
 |[],_::_,h=>h.elim
 |_::_,[],h=>h.elim
omit [Dfr] in
theorem VRs.mono(l:Z.le τ){vs:List Value}{cs:List (AV C.D)}(h:VRs C Z ν vs cs):VRs C τ ν vs cs:=VR.mono.go l vs cs h
theorem Rv.vr:∀{A:AV C.D}{v:Value},Rv C Z v A->VR C Z ν v A
 |_,_,h=>by
  induction h with
  |int=>exact .int
  |bool=>exact .bool
  |str=>exact .str
  |sl cell h1 h2 d b e c f g a=>exact Rv.sl cell h1 h2 d b e c f g
  |pz cell h1 h2 a=>exact Rv.pz cell h1 h2
  |pnil=>exact .pnil
  |clo=>exact⟨[],rfl,trivial⟩
  |nilf=>exact .nilf
  |ifc _ a=>exact⟨_,rfl,a⟩
  |nili=>exact .nili
omit [Dfr] in
theorem VR.rv:∀{A:AV C.D}{v:Value},A.base=G->VR C Z ν v A->Rv C Z v A
 | .int _ _,_,_,h=>h
 | .bool _,_,_,h=>h
 | .str _,_,_,h=>h
 | .sl _ _ _,_,_,h=>h
 | .pz _ _ _,_,_,h=>h
 | .pnil,_,_,h=>h
 | .nilf,_,_,h=>h
 | .nili,_,_,h=>h
 | .clo f [],_,_,⟨vs,e,h⟩=>by
  cases vs with
  |nil=>rw[e];exact .clo
  |cons=>exact h.elim
 | .ifc t A,_,hb,⟨u,e,h⟩=>by rw[e];exact .ifc (VR.rv (A:=A) hb h)
omit [Dfr] in
theorem VR.one:∀{A:AV C.D}{v:Value},VR C Z ν v A->A.leaf=G->(∀i,(ν.hdr i).oneCell'=G)->v.oneCell'=G
 | .row _,_,h,_,a=>by rw[h];exact a _
 | .pc _ _,_,h,_,_=>by rw[h];rfl
 | .pr _ _ _ _,_,h,_,_=>by rw[h];rfl
 | .nx _ _ _ _,_,h,_,_=>h.2
 | .clo _ cs,_,⟨vs,e,h⟩,_,_=>by rw[e];exact zso _ _
 | .ifc _ A,_,⟨u,e,h⟩,_,_=>by rw[e];rfl
 | .nils,_,h,_,_=>by rw[h];rfl
 | .int _ _,_,h,_,_=>Rv.one h
 | .bool _,_,h,_,_=>Rv.one h
 | .str _,_,h,_,_=>Rv.one h
 | .sl _ _ _,_,h,_,_=>Rv.one h
 | .pz _ _ _,_,h,_,_=>Rv.one h
 | .pnil,_,h,_,_=>Rv.one h
 | .nilf,_,h,_,_=>Rv.one h
 | .nili,_,h,_,_=>Rv.one h
omit [Dfr] in
theorem VRs.len:∀{vs:List Value}{cs:List (AV C.D)},VRs C Z ν vs cs->vs.length=cs.length
 |[],[],_=>rfl
 |_::vs,_::cs,⟨_,k⟩=>by simp[VRs.len k]
 |[],_::_,h=>h.elim
 |_::_,[],h=>h.elim
omit [Dfr] in
theorem VRs.get:∀{vs:List Value}{cs:List (AV C.D)},VRs C Z ν vs cs->∀(j:Nat) A,cs[j]?=E A->∃u,vs[j]?=E u/\VR C Z ν u A
 |[],[],_,j,A,h=>by simp at h
 |v::vs,B::cs,⟨h,k⟩,0,A,e=>jE
 |v::vs,B::cs,⟨h,k⟩,j+1,A,e=>by simpa using k.get j A (by simpa using e)
 |[],_::_,h,_,_,_=>h.elim
 |_::_,[],h,_,_,_=>h.elim
omit [Dfr] in
theorem VRs.of:∀{vs:List Value}{cs:List (AV C.D)},vs.length=cs.length->(∀(j:Nat) u A,vs[j]?=E u->cs[j]?=E A->VR C Z ν u A)->VRs C Z ν vs cs
 |[],[],_,_=>trivial
 |v::vs,B::cs,hl,h=>⟨h 0 v B rfl rfl,VRs.of (by simpa using hl) λj u A h1 h2=>h (j+1) u A (by simpa using h1) (by simpa using h2)⟩
 |[],_::_,hl,_=>by simp at hl
 |_::_,[],hl,_=>by simp at hl
omit [Dfr] in
theorem VRs.rel{vs:List Value}{cs:List (AV C.D)}(h:VRs C Z ν vs cs){j:Nat}{u:Value}{A:AV C.D}(h1:vs[j]?=E u)(h2:cs[j]?=E A):VR C Z ν u A:=by
 let⟨w,e,k⟩:=h.get j A h2;grind
omit [Dfr] in
theorem VRs.drop{vs:List Value}{cs:List (AV C.D)}(h:VRs C Z ν vs cs)(m:Nat):VRs C Z ν (vs.drop m) (cs.drop m):=
 .of (by simp[h.len]) λj u A h1 h2=>h.rel (j:=m+j) (by simpa using h1) (by simpa using h2)
omit [Dfr] in
theorem VRs.take{vs:List Value}{cs:List (AV C.D)}(h:VRs C Z ν vs cs)(m:Nat):VRs C Z ν (vs.take m) (cs.take m):=
 .of (by simp[h.len]) λj u A h1 h2=>by
  rw[List.getElem?_take] at h1 h2;split at h1
  ·rename_i a;rw[jv a] at h2;exact h.rel h1 h2
  ·cases h1
omit [Dfr] in
theorem VRs.append:∀{vs us:List Value}{cs ds:List (AV C.D)},VRs C Z ν vs cs->VRs C Z ν us ds->VRs C Z ν (vs++us) (cs++ds)
 |[],_,[],_,_,k=>k
 |_::vs,_,_::cs,_,⟨h,h'⟩,k=>⟨h,VRs.append h' k⟩
 |[],_,_::_,_,h,_=>h.elim
 |_::_,_,[],_,h,_=>h.elim
def zt{D:Nat->Type}:AV D->List (AV D)
 | .agg cs=>cs
 |v=>[v]
def zbE{D:Nat->Type}(agg:Bool)(cs:List (AV D)):AV D:=bif agg then .agg cs else match cs with
 |[c]=>c
 |_ =>.und
omit [Dfr] in
theorem VRs.val{vs:List Value}{cs:List (AV C.D)}{agg:Bool}(h:VRs C Z ν vs cs):VR C Z ν (yD agg vs) (zbE agg cs):=by
 cases agg with
 |true=>exact⟨vs,rfl,h⟩
 |false=>
  match vs,cs,h with
  |[],[],_=>trivial
  |[u],[A],h=>exact h.1
  |_::_::_,_::_::_,h=>trivial
omit [Dfr] in
theorem VR.cells:∀{A:AV C.D}{v:Value},VR C Z ν v A->A.leaf=G\/(∃cs,A = .agg cs)->(∀i,(ν.hdr i).oneCell'=G)->VRs C Z ν v.cells.toList (zt A):=by
 intro A v h a b;rcases a with a | ⟨cs,rfl⟩
 ·have:=h.one a b;have e:v.cells.toList=[v]:=by cases v<;>simp_all[qN,qo]
  have c:zt A=[A]:=by cases A<;>first | rfl | cases a
  rw[e,c];exact⟨h,trivial⟩
 ·obtain⟨vs,rfl,h⟩:=h;simpa[qo,zt] using h
end
end
section
variable [Dfr]
inductive Own where
 |all
 |out (i:Int)
 |upto (k:Int)
 |fix
def Own.fl:Own->Nat->Nat
 | .all,_=>1
 | .out i,j=>if j=i.toNat then 2 else 1
 | .upto k,j=>if j < k.toNat then 1 else 0
 | .fix,_=>1
section
variable {C:Cod}{Z τ:FS}{ν:Val}
def Zo(C:Cod)(T:Nat)(x:C.D T):AV C.D:=((C.emb T x)[C.nst T]?).getD .und
def yZ(C:Cod)(T:Nat)(Z:FS)(h:zc)(cs:List Value)(p:C.D T×Nat×Value):Prop:=
 cs.length=C.size T/\(∀u∈cs,u.oneCell'=G)/\(∀(j:Nat) A,(C.emb T p.1)[j]?=E A->j≠C.nst T->∃u,cs[j]?=E u/\Rv C Z u A)/\cs[C.nst T]?=E p.2.2/\
 (p.2.1=0->Rv C Z p.2.2 (Zo C T p.1))/\(p.2.1=1->∃U s,Zo C T p.1 = .sl U s N/\zn (zC C U).o U p.2.2 s Z h)
omit [Dfr] in
theorem yZ.mono{T:Nat}{h g:zc}{cs:List Value}{p:C.D T×Nat×Value}(l:Z.le τ)(m:h.le g)(r:yZ C T Z h cs p):yZ C T τ g cs p:=by
 let⟨h1,h2,k,c,n,i⟩:=r;refine⟨h1,h2,λj A d f=>?_,c,λe=>(n e).mono l,λe=>?_⟩
 ·let⟨u,a,b⟩:=k j A d f;exact⟨u,a,b.mono l⟩
 ·let⟨U,s,a,b⟩:=i e;exact⟨U,s,a,b.mono l m⟩
def Ze(C:Cod)(T:Nat):OTy (C.D T×Nat×Value) where
 size:=C.size T
 agg:=C.agg T
 rel Z h cs p:=yZ C T Z h cs p
 len h:=h.1
 mono l m r:=r.mono l m
 one r:=r.2.1
 sz:=C.sz T
theorem yZ.nlt{T:Nat}{h:zc}{cs:List Value}{p:C.D T×Nat×Value}(r:yZ C T Z h cs p):C.nst T < C.size T:=by
 have:=(U5.1 r.2.2.2.1).1;rw[<- r.1];exact this
def zfl(C:Cod)(T:Nat)(x:C.D T)(id:Nat)(i:Int):List (AV C.D):=(C.emb T x).set (C.nst T) (.nx id T i .whole)
theorem yZ.vrs{T id:Nat}{i:Int}{x:C.D T}{f:Nat}{h:zc}{cs:List Value}(r:yZ C T Z h cs (x,f,(ν.adr id).sub i.toNat)):VRs C Z ν cs (zfl C T x id i):=by
 refine .of (by rw[r.1,zfl,List.length_set,C.len]) λj u A h1 h2=>?_
 unfold zfl at h2;rw[UB] at h2;split at h2
 ·rename_i e;subst e;split at h2
  ·cases h2;have a:=r.2.2.2.1;rw[h1] at a;refine⟨W.inj a,?_⟩;exact r.2.1 u (UM h1)
  ·cases h2
 ·rename_i e;let⟨w,b,c⟩:=r.2.2.1 j A h2 (λe'=>e e'.symm);rw[h1] at b;cases b;exact c.vr
def hpl(C:Cod)(T:Nat)(sub:Nat->Value)(s:Sl (C.D T))(g:Own):Sl (C.D T×Nat×Value):=⟨s.xs.mapIdx λj x=>(x,g.fl j,sub j),s.nn⟩
theorem WJ{T:Nat}{sub:Nat->Value}{s:Sl (C.D T)}{g:Own}:(hpl C T sub s g).xs.length=s.xs.length:=by simp[hpl]
theorem zqx{T:Nat}{sub:Nat->Value}{s:Sl (C.D T)}{g:Own}:(hpl C T sub s g).len=s.len:=by simp[hpl,Sl.len]
theorem WK{T:Nat}{sub:Nat->Value}{s:Sl (C.D T)}{g:Own}{i:Int}{q:C.D T}(h:za s i=E q):za (hpl C T sub s g) i=E (q,g.fl i.toNat,sub i.toNat):=by
 let⟨h0,h1⟩:=yO.1 h;exact yO.2 ⟨h0,by simp[hpl,h1]⟩
theorem zd9 {T:Nat}{sub sub':Nat->Value}{s:Sl (C.D T)}{g g':Own}{i:Int}{q':C.D T}(h1:∀j,j < s.xs.length->j≠i.toNat->g'.fl j=g.fl j/\sub' j=sub j) :
    (hpl C T sub s g).set i (q',g'.fl i.toNat,sub' i.toNat)=hpl C T sub' (s.set i q') g':=by
 unfold hpl Sl.set;congr 1;apply UA;intro j;rw[UB,Dm,Dm,UB];by_cases e:i.toNat=j
 ·grind
 · rw[jx e,jx e];cases a:s.xs[j]? with
   |none=>rfl
   |some y=>
    grind
theorem zda{T:Nat}{sub sub':Nat->Value}{s:Sl (C.D T)}{g g':Own}(h:∀j,j < s.xs.length->g.fl j=g'.fl j/\sub j=sub' j):hpl C T sub s g=hpl C T sub' s g':=by
 unfold hpl;congr 1;apply UA;intro j;rw[Dm,Dm];cases a:s.xs[j]? with
 |none=>rfl
 |some y=>
  grind
def Own.rd:Own->Bool
 | .out _=>N
 |_=>G
theorem Own.rd_fl{g:Own}(h:g.rd=G)(j:Nat):g.fl j=0\/g.fl j=1:=by
 cases g with
 |all=>exact .inr rfl
 |out i=>cases h
 |upto k=>unfold Own.fl;grind
 |fix=>exact .inr rfl
def SlR(C:Cod)(Z:FS)(w:World)(v:Value)(U:Nat)(u:Sl (C.D U)):Prop:=(∃c,Rv C Z v (.sl U u c))\/∃h,zn (zC C U).o U v u Z h/\h.sub w
theorem yZ.slr{T:Nat}{x:C.D T}{f:Nat}{v:Value}{h:zc}{cs:List Value}{w:World}{U:Nat}{u:Sl (C.D U)}{c:Bool}(r:yZ C T Z h cs (x,f,v))(a:f=0\/f=1)(hs:h.sub w)(d:Zo C T x = .sl U u c):SlR C Z w v U u:=by
 let⟨_,_,_,_,g,b⟩:=r;rcases a with e | e
 ·left;grind
 ·right;grind
theorem zih {T:Nat}{sub:Nat->Value}{s:Sl (C.D T)}{g:Own}{v:Value}{h:zc}{w:World}{i:Int}{q:C.D T}(f:zn (Ze C T) T v (hpl C T sub s g) Z h) (hs:h.sub w) (c:za s i=E q) :
    ∃cs k,yZ C T Z k cs (q,g.fl i.toNat,sub i.toNat)/\k.sub w/\∀(j:Nat) (u:Value),cs[j]?=E u->w.cell? ((zi v (i.toNat * C.size T)).add j)=E u:=by
 let⟨h1,h2,t,p,r,b,d⟩:=(VD (v:=v) (e:=T) (i:=i) f (WK c)).uncons;let⟨cs,c1,c2,m,n,x,o,a⟩:=p.one_of;have a:yZ C T Z c2 cs (q,g.fl i.toNat,sub i.toNat):=a;refine⟨cs,c2,a,hs.mono (n.trans b),λj u l=>?_⟩;exact o.cell (hs.mono (m.trans b)) l
def zhj(C:Cod)(T:Nat):Ty (C.D T×Nat×Value) where
 size:=C.size T
 agg:=C.agg T
 rel Z cs p:=cs.length=C.size T/\(∀u∈cs,u.oneCell'=G)/\cs[C.nst T]?=E p.2.2/\(p.2.1=0\/p.2.1=1->(zC C T).rel Z cs p.1)
 len h:=h.1
 mono l h:=⟨h.1,h.2.1,h.2.2.1,λe=>(zC C T).mono l (h.2.2.2 e)⟩
 one h:=h.2.1
 sz:=C.sz T
omit [Dfr] in
theorem yZ.fast{T:Nat}{h:zc}{cs:List Value}{p:C.D T×Nat×Value}(l:Z.le τ)(i:∀b o v,h b (o+1)=E (.cell v)->τ b o=E v)(r:yZ C T Z h cs p)(e:p.2.1=0\/p.2.1=1):(zC C T).rel τ cs p.1:=by
 let⟨h1,h2,m,g,n,k⟩:=r;refine⟨h1,λj A d=>?_⟩;by_cases f:j=C.nst T
 ·subst f;refine⟨_,g,?_⟩;have hA:Zo C T p.1=A:=by unfold Zo;rw[d];rfl
  rcases e with e | e
  ·rw[<- hA];exact(n e).mono l
  ·let⟨U,s,a,c⟩:=k e;rw[<- hA,a];exact Rv.of_vrel (c.fast l i)
 ·let⟨u,a,c⟩:=m j A d f;exact⟨u,a,c.mono l⟩
instance (T:Nat):Frz (Ze C T) (zhj C T):=⟨rfl,rfl,λl a r=>⟨r.1,r.2.1,r.2.2.2.1,λe=>yZ.fast l a r e⟩⟩
theorem zki{T:Nat}{sub:Nat->Value}{s:Sl (C.D T)}{g:Own}{v:Value}(f:g.rd=G)(h:(tSl (zhj C T)).vrel τ v (hpl C T sub s g)):(tSl (zC C T)).vrel τ v s:=by
 let⟨a,n,c,e,h1,h2,k,d,l,cells,b,m⟩:=YF.1 h;rw[WJ] at h1;refine YF.2 ⟨a,n,c,e,h1,h2,k,d,l,cells,?_,m⟩;refine Ty.rels_of (by rw[(zhj C T).rels_len b,WJ];rfl) λi x j=>?_
 have:=(zhj C T).rels_get i b (x:=(x,g.fl i,sub i)) (by simp[hpl,j]);exact this.2.2.2 (Own.rd_fl f i)
theorem zwc{T:Nat}{sub:Nat->Value}{s:Sl (C.D T)}{g:Own}{v:Value}(r:g.rd=G)(h:(tSl (zhj C T)).vrel τ v (hpl C T sub s g)){i:Int}{q:C.D T}(p:za s i=E q){U:Nat}{u:Sl (C.D U)}{c:Bool}(d:Zo C T q = .sl U u c):Rv C τ (sub i.toNat) (.sl U u c):=by
 let⟨a,n,c',e,h1,h2,M,H,y,cells,l,z⟩:=YF.1 h;let⟨_,f⟩:=yO.1 p;have o:=(zhj C T).rels_get i.toNat l (x:=(q,g.fl i.toNat,sub i.toNat)) (by simp[hpl,f]);let⟨P,B,t,m⟩:=o;have j:=m (Own.rd_fl r _);have k:Zo C T q ≠.und:=jE
 unfold Zo at d k;cases b:(C.emb T q)[C.nst T]? with
 |none=>grind
 |some A=>
  rw[b] at d;have d:A = .sl U u c:=d;let⟨w,L,K⟩:=j.2 _ _ b;grind
end
end
section
variable [Dfr]
inductive Ent(C:Cod) where
 |cell (cs:List (AV C.D))
 |row (T:Nat) (s:Sl (C.D T))
 |obj (k T:Nat) (b:ByteArray) (s:Sl (C.D T))
 |orow (T:Nat) (s:Sl (C.D T)) (g:Own)
def Own.isFix:Own->Bool
 | .fix=>G
 |_=>N
def Z1{C:Cod}:Uv (Ent C)->Bool
 |some (.orow _ _ g)=>g.isFix
 |_=>N
structure St(C:Cod) where
 env:Nat->AV C.D
 heap:Nat->Uv (Ent C)
def upd{α:Type}(f:Nat->α)(i:Nat)(v:α):Nat->α:=λj=>bif I j i then v else f j
theorem zp{α:Type}{f:Nat->α}{i:Nat}{v:α}:upd f i v i=v:=by simp[upd]
theorem zq{α:Type}{f:Nat->α}{i j:Nat}{v:α}(h:j≠i):upd f i v j=f j:=by
 unfold upd;cases e:I j i with
 |true=>exact absurd (ge e) h
 |false=>rfl
def chk{α:Type}(b:Bool)(x:Uv α):Uv α:=bif b then x else F
theorem zb{α:Type}{b:Bool}{x:Uv α}{y:α}(h:chk b x=E y):b=G/\x=E y:=by
 cases b with
 |true=>exact⟨rfl,h⟩
 |false=>cases h
section
variable {C:Cod}
def St.put(S:St C)(d:Nat)(v:AV C.D):St C:={S with env:=upd S.env d v}
def ZZ{D:Nat->Type}:Value->AV D
 | .int k n =>.int k n
 | .bool b =>.bool b
 | .string s =>.str s
 | .pointer F =>.pnil
 | .slice F 0 0 =>.nils
 | .nilFunc =>.nilf
 | .nilIface =>.nili
 |_ =>.und
def zbF{D:Nat->Type}:Value->AV D
 | .agg a =>.agg (a.toList.map ZZ)
 |v=>ZZ v
def St.op(S:St C):Operand->AV C.D
 | .tmp t=>S.env t
 | .const v=>zbF v
 | .func f =>.clo f []
 | .global _ =>.und
omit [Dfr] in
def zK(C:Cod)(ν:Val)(vs:Nat->List Value)(id:Nat):Uv (Ent C)->Priv
 |some (.cell _) =>.cell (ν.adr id).a (vs id)
 |some (.row T s) =>.row (zC C T).o T (ν.hdr id) s
 |some (.obj k T b s)=>C.opv k T (ν.hdr id) (ν.adr id).a b s
 |some (.orow T s g) =>.row (Ze C T) T (ν.hdr id) (hpl C T (ν.adr id).sub s g)
 |none =>.cell default []
omit [Dfr] in
structure Abs(S:St C)(ν:Val)(vs:Nat->List Value)(ids:List Nat)(L:List (Nat×Value))(b:Nat->Value)(Z:FS)(PV:List Priv):Prop where
 nd:ids.Nodup
 dom:∀id,id∈ids↔(S.heap id).isSome=G
 pv:PV=ids.map λid=>zK C ν vs id (S.heap id)
 cell:∀id cs,S.heap id=E (.cell cs)->VRs C Z ν (vs id) cs
 env:∀t,VR C Z ν (look L b t) (S.env t)
 one:∀i,(ν.hdr i).oneCell'=G
variable {S:St C}{ν:Val}{vs:Nat->List Value}{ids:List Nat}{L:List (Nat×Value)}{b:Nat->Value}{Z:FS}{PV:List Priv}{P:Program}
omit [Dfr] in
theorem Abs.at(h:Abs S ν vs ids L b Z PV){id:Nat}{e:Ent C}(a:S.heap id=E e):∃m:Nat,PV[m]?=E (zK C ν vs id (E e))/\ids[m]?=E id:=by
 let⟨m,c⟩:=qH.1 ((h.dom id).2 (by rw[a];rfl));exact⟨m,by rw[h.pv,U3,c,U4,a],c⟩
theorem zbG:∀v:Value,VR C Z ν v (ZZ v)
 | .int _ _=>Rv.int
 | .bool _=>Rv.bool
 | .string _=>Rv.str
 | .pointer F=>Rv.pnil
 | .slice F 0 0=>by unfold ZZ VR;rfl
 | .nilFunc=>Rv.nilf
 | .nilIface=>Rv.nili
 | .float .. | .complex .. | .pointer (E _) | .map _ | .chan _ | .func .. | .iface .. | .agg _ | .tuple _=>by unfold ZZ;trivial
 | .slice (E _) _ _=>by unfold ZZ;trivial
 | .slice F (n+1) _=>by unfold ZZ;trivial
 | .slice F 0 (n+1)=>by unfold ZZ;trivial
theorem xK:∀l:List Value,VRs C Z ν l (l.map ZZ)
 |[]=>trivial
 |v::l=>⟨zbG v,xK l⟩
theorem zkj(v:Value):VR C Z ν v (zbF v):=by
 cases v<;>first | exact zbG _ | exact⟨_,rfl,xK _⟩
omit [Dfr] in
theorem Abs.op(h:Abs S ν vs ids L b Z PV)(x:Operand):VR C Z ν (opv L b x) (S.op x):=by
 cases x with
 |tmp t=>exact h.env t
 |const v=>exact zkj v
 |global g=>trivial
 |func f=>exact⟨[],rfl,trivial⟩
def Yl(P:Program)(Z:FS)(PV:List Priv)(L:List (Nat×Value))(b:Nat->Value)(o:Oper)(R:Value->Prop):Prop:=
 ∀w,Y5 Z PV w->∃v,(execOp (opv L b) o).run P w = .ok (.value v) w/\R v
omit [Dfr] in
theorem Yl.of{o:Oper}{R:Value->Prop}{v:Value}(h:Za P Z PV L b o v)(c:R v):Yl P Z PV L b o R:=λw a=>⟨v,h w a,c⟩
theorem Yl.ok{ρ:Type}{n:Nat}{w0:Start}{σ0:FS}{p:Uv ρ}{H:Uv ρ->List (Nat×Value)->FS->List Priv->Prop}{o:Oper}{R:Value->Prop}{d:Nat}(g:O d n=G)(hd:o.dst=E d)(h:Yl P Z PV L b o R)(f:∀v,R v->H p ((d,v)::L) Z PV):Xk P n w0 σ0 o p L b Z PV H:=by
 intro r hp a w hi c K Q e;let⟨v,h1,h2⟩:=h w hi.held;unfold qc;rw[c.eval,h1,qA,hd];exact e p _ Z PV _ w hp hi (c.put (by simpa[UT] using g) v) (f v h2)
theorem VR.int_inv{v:Value}{k:IntKind}{n:Int}(h:VR C Z ν v (.int k n)):v = .int k n:=by
 have:Rv C Z v (.int k n):=h;cases this;rfl
theorem VR.bool_inv{v:Value}{e:Bool}(h:VR C Z ν v (.bool e)):v = .bool e:=by
 have:Rv C Z v (.bool e):=h;cases this;rfl
theorem VR.str_inv{v:Value}{s:ByteArray}(h:VR C Z ν v (.str s)):v = .string s:=by
 have:Rv C Z v (.str s):=h;cases this;rfl
theorem VR.pnil_inv{v:Value}(h:VR C Z ν v .pnil):v = .pointer none:=by
 have:Rv C Z v .pnil:=h;cases this;rfl
theorem VR.nili_inv{v:Value}(h:VR C Z ν v .nili):v = .nilIface:=by
 have:Rv C Z v .nili:=h;cases this;rfl
theorem VR.sl_vrel{v:Value}{T:Nat}{s:Sl (C.D T)}{c:Bool}(h:VR C Z ν v (.sl T s c)):(tSl (zC C T)).vrel Z v s:=Rv.vrel (show Rv C Z v (.sl T s c) from h)
theorem VR.pz_inv{v:Value}{T:Nat}{x:C.D T}{off:Nat}(h:VR C Z ν v (.pz T x off)):∃(a:Addr) (cell:Nat->Value),v = .pointer (E (a.add off))/\(∀(j:Nat) A,(C.emb T x)[j]?=E A->Z.cell (a.add j)=E (cell j))/\∀(j:Nat) A,(C.emb T x)[j]?=E A->Rv C Z (cell j) A:=by
 have:Rv C Z v (.pz T x off):=h;cases this with
 |pz cell h1 h2=>exact⟨_,cell,rfl,h1,h2⟩
def zea(b:BinOp)(k:IntKind)(i j:Int):Uv (AV C.D):=
 match b with
 | .add=>E (.int k (k.wrap (i+j)))
 | .sub=>E (.int k (k.wrap (i - j)))
 | .mul=>E (.int k (k.wrap (i * j)))
 | .quo=>(zj6 k i j).bind λq=>E (.int k q)
 | .rem=>(zj7 k i j).bind λq=>E (.int k q)
 | .lss=>E (.bool (decide (i < j)))
 | .leq=>E (.bool (decide (i<=j)))
 | .gtr=>E (.bool (decide (j < i)))
 | .geq=>E (.bool (decide (j<=i)))
 | .eql=>E (.bool (decide (i=j)))
 | .neq=>E (.bool (decide (i≠j)))
 |_=>F
theorem zsp {bo:BinOp}{k:IntKind}{i j:Int}{A:AV C.D}{t t' ty:TypeId}{x y:Operand}{d:Nat}{ps:String}{af:Array Edge}{g:Uv (Nat×Bool)}(h:zea bo k i j=E A) (a:opv L b x = .int k i) (c:opv L b y = .int k j) :
    Yl P Z PV L b ⟨E d,.binOp bo t x y t',ty,ps,af,g⟩ (λv=>VR C Z ν v A):=by
 cases bo<;>simp only[zea] at h<;>try (cases h;done)
 case add=>cases h;exact .of (zzO a c) Rv.int
 case sub=>cases h;exact .of (zzP a c) Rv.int
 case mul=>cases h;exact .of (zzQ a c) Rv.int
 case quo=>
   cases e:zj6 k i j with
   |none=>grind
   |some q=>rw[e] at h;cases h;exact .of (zzX a c e) Rv.int
 case rem=>
   cases e:zj7 k i j with
   |none=>grind
   |some q=>rw[e] at h;cases h;exact .of (zzY a c e) Rv.int
 case lss=>cases h;exact .of (zzR a c) Rv.bool
 case leq=>cases h;exact .of (zzS a c) Rv.bool
 case gtr=>cases h;exact .of (zzT a c) Rv.bool
 case geq=>cases h;exact .of (zzU a c) Rv.bool
 case eql=>cases h;exact .of (zzV a c) Rv.bool
 case neq=>cases h;exact .of (zzW a c) Rv.bool
def znV(P:Program)(c:TypeId->AV C.D->AV C.D->Uv Bool)(xs a:List (AV C.D)):List Field->Uv Bool
 |[]=>E G
 |fd::fs=>match P.underlying fd.type,P.info? fd.type with
  | some b, E ti => chk (fd.name != "_" && (I ((xs.drop fd.offset).take ti.size).length ti.size && (I ((a.drop fd.offset).take ti.size).length ti.size && (Zi b || I ti.size 1)))) <|
   match c fd.type (zbE (Zi b) ((xs.drop fd.offset).take ti.size)) (zbE (Zi b) ((a.drop fd.offset).take ti.size)),znV P c xs a fs with
   |some d,E e=>E (d && e)
   |_,_=>F
  |_,_=>F
def eqA(P:Program):Nat->TypeId->AV C.D->AV C.D->Uv Bool
 |0,_,_,_=>F
 |f+1,t,A,B=>match P.underlying t,A,B with
  |some (.int _),.int c i,.int b j=>chk (decide (c=b)) (E (decide (i=j)))
  |some .bool,.bool i,.bool j=>E (decide (i=j))
  |some .string,.str i,.str j=>E (decide (i=j))
  |some (.struct fs),.agg xs,.agg a=>chk (!P.stoodInHeld t) (znV P (eqA P f) xs a fs.toList)
  |_,_,_=>F
theorem zwd{t:TypeId}{k a:IntKind}{i j:Int}(b:P.underlying t=E (.int k))(f:Nat):Yh P t (f+1) (.int a i) (.int a j) (decide (i=j)):=λm w=>by
 have:(i == j)=decide (i=j):=jE
 rw[(Zd:m+(f+1)=(m+f)+1)];simp[qv,UO b,this]
theorem zqy:∀{f:Nat}{t:TypeId}{A B:AV C.D}{r:Bool},eqA P f t A B=E r->∀{u v:Value},VR C Z ν u A->VR C Z ν v B->Yh P t f u v r:=by
 intro f
 induction f with
 |zero=>intro t A B r h;simp[eqA] at h
 |succ f w=>
  intro t A B r h u v i g;unfold eqA at h;split at h
  ·rename_i e;let⟨H,h⟩:=zb h;cases h;obtain rfl:=Dn H;rw[i.int_inv,g.int_inv];exact zwd e f
  ·rename_i e;cases h;rw[i.bool_inv,g.bool_inv];exact(Yh.bool e).mono Zd
  ·rename_i e;cases h;rw[i.str_inv,g.str_inv];exact(Yh.str e).mono Zd
  ·rename_i fs xs L e;let⟨n,a⟩:=zb h;clear h;simp only[Do] at n;obtain⟨us,rfl,d⟩:=i;obtain⟨K,rfl,c⟩:=g;refine Yh.struct e n ?_;generalize fs.toList=l at a;clear e
   induction l generalizing r with
   |nil=>simp only[znV] at a;cases a;rfl
   |cons fd l j=>
    simp only[znV] at a;split at a
    ·rename_i x ti b hi;let⟨p,h⟩:=zb a;split at h
     ·rename_i y z s q;cases h;simp only[gf,bne_iff_ne,UH] at p;let⟨h1,h2,k,o⟩:=p;have h2:=ge h2;have k:=ge k;have m:Zi x=N->ti.size=1:=λh=>by rw[h] at o;exact ge (by simpa using o)
      exact⟨_,_,y,z,zkf b hi rfl (by rw[<- h2];simp[d.len]) m rfl,zkf b hi rfl (by rw[<- k];simp[c.len]) m rfl,h1,w s ((d.drop _).take _).val ((c.drop _).take _).val,j q,rfl⟩
     ·cases h
    ·cases a
  ·cases h
end
end
section
variable [Dfr]
section
variable {C:Cod}{S:St C}{ν:Val}{vs:Nat->List Value}{ids:List Nat}{L:List (Nat×Value)}{b:Nat->Value}{Z:FS}{PV:List Priv}{P:Program}
variable {t t' ty:TypeId}{x y z:Operand}{d:Nat}{ps:String}{af:Array Edge}{g:Uv (Nat×Bool)}{A:AV C.D}
def zdb(P:Program)(ty:TypeId)(A:AV C.D):AV C.D:=A
theorem zkk{T:Nat}:VR C Z ν (.slice F 0 0) (.sl T ⟨[],N⟩ G):=
 Rv.sl (λ_ _=>default) rfl rfl (UD _) (UE _) (λ_=>⟨rfl,rfl⟩) (λ_=>rfl) (λi x j A h=>by simp at h) (λi x j A h=>by simp at h)
theorem zdc{v:Value}(h:VR C Z ν v A):VR C Z ν v (zdb P ty A):=h
def Yy(P:Program)(t:TypeId)(cs:List (AV C.D))(off:Nat):Uv (AV C.D):=
 match P.underlying t,P.info? t with
 |some a,E ti=>chk (I ((cs.drop off).take ti.size).length ti.size && (Zi a || I ti.size 1)) (E (zbE (Zi a) ((cs.drop off).take ti.size)))
 |_,_=>F
theorem zai{cs:List (AV C.D)}{off:Nat}(h:Yy P t cs off=E A):∃a ti,P.underlying t=E a/\P.info? t=E ti/\((cs.drop off).take ti.size).length=ti.size/\(Zi a=N->ti.size=1)/\A=zbE (Zi a) ((cs.drop off).take ti.size):=by
 unfold Yy at h;split at h
 ·rename_i a ti c hi;let⟨b,h⟩:=zb h;simp only[gf,UH] at b;cases h;exact⟨a,ti,c,hi,ge b.1,λe=>by have:=b.2;rw[e] at this;exact ge jE,rfl⟩
 ·cases h
theorem w7 {a:Addr}{off:Nat}{c:List Value}{cs:List (AV C.D)}(h:Yy P t cs off=E A) (p:c.length=cs.length) (o:opv L b x = .pointer (E (a.add off))) {w:World}
    (q:∀(j:Nat) (u:Value),c[j]?=E u->w.cell? (a.add j)=E u) (k:∀agg,VR C Z ν (yD agg ((c.drop off).take (match P.info? t with | some ti=>ti.size | none=>0))) (zbE agg ((cs.drop off).take (match P.info? t with | some ti=>ti.size | none=>0)))) :
    ∃v,(execOp (opv L b) ⟨E d,.load t x,ty,ps,af,g⟩).run P w = .ok (.value v) w/\VR C Z ν v A:=by
 obtain⟨l,ti,m,hi,h1,h2,rfl⟩:=zai h;rw[hi] at k;have f:((c.drop off).take ti.size).length=ti.size:=jE
 refine⟨_,?_,k (Zi l)⟩
 have:=vT (P:=P) (w:=w) (a.add off) ((c.drop off).take ti.size) m hi f.symm (λe=>jE) (λj u n=>by
  have i:j < ti.size:=by
   grind
  rw[Da i,Db] at n
  rw[Addr.add_add];grind)
 simp[execOp,o,Instr.loadAt,qW,this]
def zM{α:Type}(S:St C)(id T:Nat)(i:Int)(K:(U:Nat)->Sl (C.D U)->Uv α):Uv α:=match S.heap id with
 |some (.orow T' s g)=>chk (I T T' && g.rd) ((za s i).bind λq=>match Zo C T' q with
  | .sl U u _=>K U u
  |_=>F)
 |_=>F
theorem xN {α:Type}(hA:Abs S ν vs ids L b Z PV) {id T:Nat}{i:Int}{K:(U:Nat)->Sl (C.D U)->Uv α}{a:α}(h:zM S id T i K=E a) :
    ∃U u,K U u=E a/\∀w,Y5 Z PV w->SlR C Z w ((ν.adr id).sub i.toNat) U u:=by
 unfold zM at h;split at h
 · rename_i T' s g hs;let⟨f,h⟩:=zb h;simp only[gf] at f;let⟨q,j,h⟩:=gd h;split at h
   ·rename_i U u c l;refine⟨U,u,h,λw r=>?_⟩;let⟨m,o,_⟩:=hA.at hs;let⟨p,e,d⟩:=r.get o;have e:zn (Ze C T') T' (ν.hdr id) (hpl C T' (ν.adr id).sub s g) Z p:=e;let⟨cs,k,n,t,_⟩:=zih (w:=w) e d j;exact n.slr (Own.rd_fl f.2 _) t l
   ·cases h
 ·cases h
omit [Dfr] in
theorem SlR.cases{w:World}{v:Value}{U:Nat}{u:Sl (C.D U)}(h:SlR C Z w v U u)(a:Y5 Z PV w):(tSl (zC C U)).vrel Z v u\/Y5 Z [.row (zC C U).o U v u] w:=by
 rcases h with⟨c,h⟩ | ⟨h,h1,h2⟩
 ·exact .inl h.vrel
 ·exact .inr ⟨a.1,h,Sep.one h1,h2⟩
omit [Dfr] in
theorem SlR.form{w:World}{v:Value}{U:Nat}{u:Sl (C.D U)}(h:SlR C Z w v U u)(g:Y5 Z PV w):∃a c,v = .slice a u.xs.length c/\(a=F->u.xs.length=0)/\u.xs.length<=c:=by
 rcases h.cases g with b | b
 ·obtain⟨a,n,c,rfl,l,i,e,k,j,_⟩:=YF.1 b;grind
 ·let⟨o,f,_⟩:=b.get (m:=0) rfl;obtain⟨a,c,rfl,i,e,d,k,j⟩:=zn.form f;grind
def x8(P:Program)(S:St C)(t:TypeId):AV C.D->Uv (AV C.D)
 | .pc id off=>match S.heap id with
  |some (.cell cs)=>Yy P t cs off
  |_=>F
 | .pz T x off=>Yy P t (C.emb T x) off
 | .pr id T i off=>match S.heap id with
  |some (.row T' s)=>chk (I T T') ((za s i).bind λx=>Yy P t (C.emb T' x) off)
  |some (.orow T' s g)=>chk (I T T') ((za s i).bind λx=>Yy P t (zfl C T' x id i) off)
  |_=>F
 | .nx id T i (.elem U k off)=>zM S id T i λa u=>chk (I U a) ((za u k).bind λy=>Yy P t (C.emb a y) off)
 |_=>F
theorem zf0{T:Nat}{q:C.D T}{cell:Nat->Value}(h:∀(j:Nat) A,(C.emb T q)[j]?=E A->Rv C Z (cell j) A):VRs C Z ν ((Y (C.size T)).map cell) (C.emb T q):=by
 refine .of (by simp[C.len]) λj u A h1 h2=>?_
 have a:j < C.size T:=jE
 rw[U3,qJ a,U4] at h1;cases h1;exact(h j A h2).vr
theorem zbH{T:Nat}{q:C.D T}{cs:List Value}(h:(zC C T).rel Z cs q):VRs C Z ν cs (C.emb T q):=
 .of (by rw[h.1,C.len]) λj u A h1 h2=>by
  let⟨w,e,r⟩:=h.2 j A h2;rw[h1] at e;cases e;exact r.vr
omit [Dfr] in
theorem SlR.elem {w:World}{v:Value}{U:Nat}{u:Sl (C.D U)}(h:SlR C Z w v U u) (o:Y5 Z PV w) {k:Int}{y:C.D U}(g:za u k=E y) :
    ∃cs,VRs C Z ν cs (C.emb U y)/\∀(j:Nat) (q:Value),cs[j]?=E q->w.cell? ((zi v (k.toNat * C.size U)).add j)=E q:=by
 rcases h with⟨c,h⟩ | ⟨h,h1,h2⟩
 · let⟨l,e⟩:=yO.1 g;cases h with
   | @sl _ _ _ a n i cell h1 h2 M L B K m r=>
    refine⟨(Y (C.size U)).map (cell k.toNat),zf0 λj A b=>r _ _ _ _ e b,λj q b=>?_⟩;rw[U3] at b;have d:j < C.size U:=by
     cases H:(Y (C.size U))[j]? with
     |none=>grind
     |some z=>grind
    rw[qJ d,U4] at b;cases b;have:j < (C.emb U y).length:=by rw[C.len];exact d
    let⟨f,p,x⟩:=m _ _ _ _ e (UC this);subst p;have:=o.1.cell x;show w.cell? (((zi (.slice (E f) n i) _)).add j)=_;rw[show zi (.slice (E f) n i) (k.toNat * C.size U)=f.add (k.toNat * C.size U) from rfl,Addr.add_add];exact this
 ·let⟨cs,t,s⟩:=zbc (w:=w) h1 h2 g (Z0.of (XP.self (zC C U))) (by show 0+C.size U<=C.size U;omega);exact⟨cs,zbH t,λj q b=>by have:=s j q b;rw[UY] at this;exact this⟩
theorem zqz(hA:Abs S ν vs ids L b Z PV)(h:x8 P S t (S.op x)=E A):Yl P Z PV L b ⟨E d,.load t x,ty,ps,af,g⟩ (λv=>VR C Z ν v A):=by
 intro w r;have c:=hA.op x;unfold x8 at h;split at h
 ·rename_i id off e;rw[e] at c;have c:opv L b x = .pointer (E ((ν.adr id).add off)):=c;split at h
  ·rename_i cs K;let⟨m,H,_⟩:=hA.at K;let⟨B,n,f⟩:=r.get H;have n:Z3 (ν.adr id).a (vs id) B:=n;have l:=hA.cell id cs K;exact w7 h l.len c (λj u p=>n.cell f p) λagg=>((l.drop off).take _).val
  ·cases h
 ·rename_i T q off e;rw[e] at c;let⟨ad,cell,hv,h1,h2⟩:=c.pz_inv;have l:=zf0 (ν:=ν) h2;refine w7 h l.len hv (λj u p=>?_) λagg=>((l.drop off).take _).val
  rw[U3] at p;have D:j < C.size T:=by
   cases n:(Y (C.size T))[j]? with
   |none=>grind
   |some z=>grind
  rw[qJ D,U4] at p;cases p;have:j < (C.emb T q).length:=by rw[C.len];exact D
  exact r.1.cell (h1 j _ (UC this))
 ·rename_i id T i off e;rw[e] at c;have c:opv L b x = .pointer (E (zi (ν.hdr id) (i.toNat * C.size T+off))):=c;split at h
  ·rename_i T' s hs;let⟨R,h⟩:=zb h;obtain rfl:=ge R;cases M:za s i with
   |none=>grind
   |some q=>
    rw[M] at h;have h:Yy P t (C.emb T q) off=E A:=h;let⟨m,H,_⟩:=hA.at hs;let⟨B,n,f⟩:=r.get H;have n:zn (zC C T).o T (ν.hdr id) s Z B:=n;let⟨cs,h1,h2⟩:=zbc (w:=w) n f M (Z0.of (XP.self (zC C T))) (by show 0+C.size T<=C.size T;omega);have l:=zbH (ν:=ν) h1;rw[<- Yw] at c;exact w7 (a:=zi (ν.hdr id) (i.toNat * C.size T)) h l.len c (λj u p=>by have:=h2 j u p;rw[UY] at this;exact this) λagg=>((l.drop off).take _).val
  ·rename_i T' s gg hs;let⟨R,h⟩:=zb h;obtain rfl:=ge R;let⟨q,M,h⟩:=gd h;let⟨m,H,_⟩:=hA.at hs;let⟨B,n,f⟩:=r.get H;have n:zn (Ze C T) T (ν.hdr id) (hpl C T (ν.adr id).sub s gg) Z B:=n;let⟨cs,kf,k1,k2,Q⟩:=zih (w:=w) n f M;have l:=k1.vrs (ν:=ν);rw[<- Yw] at c;exact w7 h l.len c Q λagg=>((l.drop off).take _).val
  ·cases h
 ·rename_i id T i U k off e;rw[e] at c;have c:opv L b x = .pointer (E (zi ((ν.adr id).sub i.toNat) (k.toNat * C.size U+off))):=c.1;let⟨U',u,h,X⟩:=xN hA h;let⟨hU,h⟩:=zb h;obtain rfl:=ge hU;let⟨y,hy,h⟩:=gd h;let⟨cs,l,Q⟩:=(X w r).elem (ν:=ν) r hy;rw[<- Yw] at c;exact w7 h l.len c Q λagg=>((l.drop off).take _).val
 ·cases h
def wA(P:Program)(t:TypeId)(bo:BinOp)(A B:AV C.D):Uv (AV C.D):=
 match A,B with
 | .int k i,.int b j=>chk (decide (k=b)) (zea bo k i j)
 | .str s,.str u=>match bo with
  | .eql=>E (.bool (decide (s=u)))
  | .neq=>E (.bool (decide (s≠u)))
  | .add=>chk (decide (s.size+u.size<=9223372036854775807)) (E (.str (s++u)))
  |_=>F
 | .bool e,.bool q=>match P.underlying t,bo with
  |some .bool,.eql=>E (.bool (e == q))
  |some .bool,.neq=>E (.bool (e != q))
  |_,_=>F
 | .sl _ s _,.nils=>match P.underlying t,bo with
  |some (.slice _),.eql=>E (.bool !s.nn)
  |some (.slice _),.neq=>E (.bool s.nn)
  |_,_=>F
 | .nils,.nils=>match P.underlying t,bo with
  |some (.slice _),.eql=>E (.bool G)
  |some (.slice _),.neq=>E (.bool N)
  |_,_=>F
 | .pnil,.pnil=>evPtr P t bo G
 | .pc _ _,.pnil=>evPtr P t bo N
 | .pr _ _ _ _,.pnil=>evPtr P t bo N
 | .nx _ _ _ (.elem _ _ _),.pnil=>evPtr P t bo N
 | .pz _ _ _,.pnil=>evPtr P t bo N
 | .agg xs,.agg a=>match bo with
  | .eql=>chk (!P.eqGuardType P.depth t) ((eqA P 8 t (.agg xs) (.agg a)).bind λr=>E (.bool r))
  | .neq=>chk (!P.eqGuardType P.depth t) ((eqA P 8 t (.agg xs) (.agg a)).bind λr=>E (.bool !r))
  |_=>F
 |_,_=>F
where
 evPtr (P:Program) (t:TypeId) (bo:BinOp) (r:Bool):Uv (AV C.D):=match P.underlying t,bo with
  |some (.pointer _),.eql=>E (.bool r)
  |some (.pointer _),.neq=>E (.bool !r)
  |_,_=>F
theorem VE{bo:BinOp}{r:Bool}{a:Uv Addr}(h:wA.evPtr P t bo r=E A)(f:opv L b x = .pointer a)(i:a.isNone=r)(j:opv L b y = .pointer F):Yl P Z PV L b ⟨E d,.binOp bo t x y t',ty,ps,af,g⟩ (λv=>VR C Z ν v A):=by
 unfold wA.evPtr at h;split at h
 ·rename_i e c;cases h;exact .of (zmp c f j i) Rv.bool
 ·rename_i e c;cases h;exact .of (zmq c f j (by rw[i])) Rv.bool
 ·cases h
theorem zxQ{s u:ByteArray}(a:opv L b x = .string s)(c:opv L b y = .string u)(e:s.size+u.size<=9223372036854775807):Za P Z PV L b ⟨E d,.binOp .add t x y t',ty,ps,af,g⟩ (.string (s++u)):=λw _=>by
 have h2:¬ (((s.size+u.size:Nat):Int) > IntKind.i64.max):=by
  have:IntKind.i64.max=9223372036854775807:=jI
  grind
 simp only[execOp,a,c,eqGuard,binOp,Op.stringOp,jx h2];rfl
theorem zf1{w:World}{b:Array (String×TypeId)}{u:TypeId}{a:Value}(c:P.underlying t=E (.interface b)):(qP t (.iface u a) .nilIface).run P w = .ok N w:=by
 show(qv (9999+1) t (.iface u a) .nilIface).run P w = .ok N w;unfold qv;simp only[UP,UO c,UQ];rfl
theorem zf2{w:World}{a:Array (String×TypeId)}(b:P.underlying t=E (.interface a)):(qP t .nilIface .nilIface).run P w = .ok G w:=by
 show(qv (9999+1) t .nilIface .nilIface).run P w = .ok G w;unfold qv;simp only[UP,UO b,UQ];rfl
theorem zsq(hA:Abs S ν vs ids L b Z PV){bo:BinOp}(h:wA P t bo (S.op x) (S.op y)=E A):Yl P Z PV L b ⟨E d,.binOp bo t x y t',ty,ps,af,g⟩ (λv=>VR C Z ν v A):=by
 have a:=hA.op x;have c:=hA.op y;unfold wA at h;split at h
 all_goals try (cases h;done)
 all_goals try (rename_i p o;rw[p] at a;rw[o] at c)
 ·let⟨n,h2⟩:=zb h;obtain rfl:=Dn n;exact zsp h2 a.int_inv c.int_inv
 ·split at h
  ·cases h;exact .of (zxO a.str_inv c.str_inv) Rv.bool
  ·cases h;exact .of (zxP a.str_inv c.str_inv) Rv.bool
  ·let⟨n,h2⟩:=zb h;cases h2;exact .of (zxQ a.str_inv c.str_inv (Dn n)) Rv.str
  ·cases h
 ·split at h
  ·rename_i e;cases h;exact .of (zxM e a.bool_inv c.bool_inv) Rv.bool
  ·rename_i e;cases h;exact .of (zxN e a.bool_inv c.bool_inv) Rv.bool
  ·cases h
 ·have c:opv L b y = .slice F 0 0:=c;split at h
  ·rename_i e;cases h;exact .of (WH e rfl c a.sl_vrel) Rv.bool
  ·rename_i e;cases h;exact .of (WI e rfl c a.sl_vrel) Rv.bool
  ·cases h
 ·have c:opv L b y = .slice F 0 0:=c;have a:VR C Z ν (opv L b x) (.sl 0 ⟨[],N⟩ G):=by rw[show opv L b x = .slice F 0 0 from a];exact zkk
  split at h
  ·rename_i e;cases h;exact .of (WH e rfl c a.sl_vrel) Rv.bool
  ·rename_i e;cases h;exact .of (WI e rfl c a.sl_vrel) Rv.bool
  ·cases h
 ·exact VE h a.pnil_inv rfl c.pnil_inv
 ·have a:opv L b x = .pointer (E _):=a;exact VE h a rfl c.pnil_inv
 ·have a:opv L b x = .pointer (E _):=a;exact VE h a rfl c.pnil_inv
 ·have a:opv L b x = .pointer (E _):=a.1;exact VE h a rfl c.pnil_inv
 ·let⟨u,cell,q,_⟩:=a.pz_inv;exact VE h q rfl c.pnil_inv
 ·have l:=a;have m:=c;let⟨us,i,_⟩:=l;let⟨s,j,_⟩:=m;split at h
  ·let⟨f,h⟩:=zb h;simp only[Do] at f;let⟨r,k,h⟩:=gd h;cases h;have:=zqy k a c;rw[i,j] at this;exact .of (zkg f i j jI this) Rv.bool
  ·let⟨f,h⟩:=zb h;simp only[Do] at f;let⟨r,k,h⟩:=gd h;cases h;have:=zqy k a c;rw[i,j] at this;exact .of (zkh f i j jI this) Rv.bool
  ·cases h
def zeb(P:Program)(t:TypeId)(m:Nat)(A:AV C.D):Uv (AV C.D):=
 match P.underlying t with
 |some (.struct fs)=>(match fs[m]? with
  |some f=>(match P.info? f.type with
   |some ti=>chk (!I ti.size 0) (match A with
    | .pc id off=>E (.pc id (off+f.offset))
    | .pr id T i off=>E (.pr id T i (off+f.offset))
    | .nx id T i (.elem U k off)=>E (.nx id T i (.elem U k (off+f.offset)))
    | .pz T q off=>E (.pz T q (off+f.offset))
    |_=>F)
   |none=>F)
  |none=>F)
 |_=>F
theorem znW(hA:Abs S ν vs ids L b Z PV){m:Nat}(h:zeb P t m (S.op x)=E A):Yl P Z PV L b ⟨E d,.fieldAddr t x m,ty,ps,af,g⟩ (λv=>VR C Z ν v A):=by
 have a:=hA.op x;unfold zeb at h;split at h
 ·rename_i fs l;split at h
  ·rename_i f j;split at h
   ·rename_i ti hi;let⟨c,h⟩:=zb h;have c:ti.size≠0:=λe=>by rw[e] at c;cases c
    split at h
    ·rename_i id off e;rw[e] at a;cases h;exact .of (vh l j hi c (show opv L b x = .pointer (E _) from a) rfl) (by show _=V (E _);rw[Addr.add_add])
    ·rename_i id T i off e;rw[e] at a;cases h;exact .of (vh l j hi c (show opv L b x = .pointer (E _) from a) rfl) (by show _=V (E _);rw[Yw,qQ])
    ·rename_i id T i U k off e;rw[e] at a;cases h;exact .of (vh l j hi c (show opv L b x = .pointer (E _) from a.1) rfl) ⟨by show _=V (E _);rw[Yw,qQ],rfl⟩
    ·rename_i T q off e;rw[e] at a;cases h;let⟨o,cell,n,h1,h2⟩:=a.pz_inv;exact .of (vh l j hi c n rfl) (by rw[Addr.add_add];exact Rv.pz cell h1 h2)
    ·cases h
   ·cases h
  ·cases h
 ·cases h
def zdd{D:Nat->Type}{β:Type}(sz id off:Nat)(i:Int):Nat->(AV D->Uv β)->Uv β
 |0,_=>F
 |j+1,K=>bif decide (i=(j:Int)) then K (.pc id (off+j * sz)) else zdd sz id off i j K
theorem zii{D:Nat->Type}{β γ:Type}{sz id off:Nat}{i:Int}{K:AV D->Uv β}{L:β->Uv γ}:∀{n:Nat},(zdd sz id off i n K).bind L=zdd sz id off i n λA=>(K A).bind L
 |0=>rfl
 |j+1=>by
  unfold zdd;cases decide (i=(j:Int)) with
  |true=>rfl
  |false=>exact zii
theorem zhk{D:Nat->Type}{sz id off:Nat}{i:Int}{A:AV D}:∀{n:Nat},zdd sz id off i n E=E A->∃j,j < n/\i=(j:Int)/\A = .pc id (off+j * sz)
 |0,h=>by cases h
 |j+1,h=>by
  unfold zdd at h;cases hd:decide (i=(j:Int)) with
  |true=>
   grind
  |false=>
   rw[hd] at h;let⟨k,h1,h2,a⟩:=zhk h;grind
def XR(P:Program)(S:St C)(t:TypeId)(A B:AV C.D):Uv (AV C.D):=
 match P.underlying t with
 |some (.slice e)=>(match P.info? e with
  |some ti=>(match A,B with
   | .sl T s _,.int _ i=>chk (I ti.size (C.size T)) ((za s i).bind λq=>E (.pz T q 0))
   | .row id,.int _ i=>(match S.heap id with
    |some (.row T s)=>chk (I ti.size (C.size T)) ((za s i).bind λ_=>E (.pr id T i 0))
    |some (.orow T s g)=>chk (I ti.size (C.size T)) ((za s i).bind λ_=>E (.pr id T i 0))
    |_=>F)
   | .nx id T i .whole,.int _ k=>zM S id T i λU u=>chk (I ti.size (C.size U)) ((za u k).bind λ_=>E (.nx id T i (.elem U k 0)))
   | .nx id T i (.part U lo hi),.int _ k=>zM S id T i λa u=>chk (I U a && I ti.size (C.size U)) ((z8 u lo hi).bind λb=>(za b k).bind λ_=>E (.nx id T i (.elem U (lo+k) 0)))
   |_,_=>F)
  |none=>F)
 |some (.array n e)=>(match P.info? e with
  |some ti=>(match A,B with
   | .pc id off,.int .i64 i=>chk (!I ti.size 0) (zdd ti.size id off i n E)
   |_,_=>F)
  |none=>F)
 |_=>F
theorem zwe{T:Nat}{s:Sl (C.D T)}{cl:Bool}{v:Value}(h:VR C Z ν v (.sl T s cl)){i:Int}{q:C.D T}(g:za s i=E q):VR C Z ν (.pointer (E (zi v (i.toNat * C.size T)))) (.pz T q 0):=by
 have k:Rv C Z v (.sl T s cl):=h;let⟨h0,d⟩:=yO.1 g;cases k with
 | @sl _ _ _ a n c cell h1 h2 w t x u o r=>
  cases a with
  |none=>
   grind
  |some f=>
   have e:zi (.slice (E f) n c) (i.toNat * C.size T)=(f.add (i.toNat * C.size T)).add 0:=by
    rw[Addr.add_add];rfl
   rw[e];refine Rv.pz (cell i.toNat) (λj B b=>?_) (λj B b=>r _ _ _ _ d b);let⟨m,p,l⟩:=o _ _ _ _ d b;cases p;rw[Addr.add_add];exact l
theorem znX(hA:Abs S ν vs ids L b Z PV)(h:XR P S t (S.op x) (S.op y)=E A):Yl P Z PV L b ⟨E d,.indexAddr t x y,ty,ps,af,g⟩ (λv=>VR C Z ν v A):=by
 have l:=hA.op x;have p:=hA.op y;unfold XR at h;split at h
 ·rename_i e D;split at h
  ·rename_i ti hi;split at h
   ·rename_i T s cl k i B z;rw[B] at l;rw[z] at p;obtain⟨f,h⟩:=zb h;have f:ti.size=(zC C T).size:=ge f;let⟨q,r,h⟩:=gd h;cases h;exact .of (zbb D hi f rfl p.int_inv l.sl_vrel r) (zwe l r)
   ·rename_i id k i B z;rw[B] at l;rw[z] at p;split at h
    ·rename_i T s hs;let⟨f,h⟩:=zb h;have f:ti.size=(zC C T).o.size:=ge f;let⟨q,r,h⟩:=gd h;cases h;let⟨m,hm,_⟩:=hA.at hs;have l:opv L b x=ν.hdr id:=l;exact .of (zaY m D hi f l p.int_inv hm r) (by show _=V (E _);rw[UY];rfl)
    ·rename_i T s gg hs;obtain⟨f,h⟩:=zb h;have f:ti.size=(Ze C T).size:=ge f;let⟨q,r,h⟩:=gd h;cases h;let⟨m,hm,_⟩:=hA.at hs;have l:opv L b x=ν.hdr id:=l;exact .of (zaY m D hi f l p.int_inv hm (WK r)) (by show _=V (E _);rw[UY];rfl)
    ·cases h
   ·rename_i id T i k0 k B z;rw[B] at l;rw[z] at p;let⟨U,u,h,Q⟩:=xN hA h;obtain⟨f,h⟩:=zb h;have f:ti.size=(zC C U).size:=ge f;let⟨q,r,h⟩:=gd h;cases h;have l:opv L b x=(ν.adr id).sub i.toNat:=l.1;intro w H;refine⟨.pointer (E (zi ((ν.adr id).sub i.toNat) (k.toNat * C.size U))),?_,by show _=V (E _);grind,rfl⟩;rcases(Q w H).cases H with K | K
    ·exact zbb (PV:=PV) D hi f l p.int_inv K r w H
    ·exact zaY (PV:=[.row (zC C U).o U ((ν.adr id).sub i.toNat) u]) (T:=(zC C U).o) 0 D hi f l p.int_inv rfl r w K
   ·rename_i id T i U lo M k0 k B z;rw[B] at l;rw[z] at p;let⟨U',u,h,Q⟩:=xN hA h;let⟨f,h⟩:=zb h;simp only[gf] at f;obtain rfl:=ge f.1;have f:ti.size=C.size U:=ge f.2;let⟨u',r,h⟩:=gd h;let⟨y0,hq2,h⟩:=gd h;cases h;obtain⟨g1,g2,g3,rfl⟩:=wo r;have hk:=zba hq2;simp only[UK,De] at hk;have p:=p.int_inv;have l:opv L b x=vz ((ν.adr id).sub i.toNat) lo M (C.size U):=l.1;intro w H;let⟨a,c,K,k1,k2⟩:=(Q w H).form H;rw[K] at l;refine⟨.pointer (E (zi ((ν.adr id).sub i.toNat) ((lo+k).toNat * C.size U))),?_,by show _=V (E _);grind,rfl⟩;cases a with
    |none=>grind
    |some ad=>
     have hc:¬ (c:Int)=lo:=Zd
     have R:¬ max (M - lo) 0<=k:=Zd
     have hs:(lo+k).toNat=lo.toNat+k.toNat:=Zd
     simp[execOp,l,p,Instr.indexAt,asIntOf,UO D,sizeOf,typeInfo,hi,f,zi,vz,hc,hk.1,R,K,hs,Addr.add_add,UL]
   ·cases h
  ·cases h
 ·rename_i n e D;split at h
  ·rename_i ti hi;split at h
   ·rename_i id off i B z;rw[B] at l;rw[z] at p;let⟨f,h⟩:=zb h;have f:ti.size≠0:=λe=>by rw[e] at f;cases f
    obtain⟨j,hj,X,rfl⟩:=zhk h;subst X;exact .of (zmo D hi f l p.int_inv hj rfl) (by show _=V (E _);rw[Addr.add_add])
   ·cases h
  ·cases h
 ·cases h
def Zn(S:St C)(dflt:Int):Uv Operand->Uv Int
 |none=>E dflt
 |some x=>match S.op x with
  | .int _ i=>E i
  |_=>F
theorem xO(hA:Abs S ν vs ids L b Z PV){dflt i:Int}{o:Uv Operand}(h:Zn S dflt o=E i):YR L b o dflt i:=by
 cases o with
 |none=>simp only[Zn] at h;cases h;exact rfl
 |some x=>
  have a:=hA.op x;simp only[Zn] at h;split at h
  ·rename_i k j e;rw[e] at a;cases h;exact⟨k,a.int_inv⟩
  ·cases h
def Ys(P:Program)(S:St C)(t:TypeId)(A:AV C.D)(lo hi:Uv Operand):Uv (AV C.D):=
 match P.underlying t,A with
 |some .string,.str s=>(match Zn S 0 lo,Zn S s.size hi with
  |some i,E j=>(ZI s i j).bind λu=>E (.str u)
  |_,_=>F)
 |some (.slice e),.sl T s _=>(match P.info? e,Zn S 0 lo,Zn S s.len hi with
  |some ti,E i,E j=>chk (I ti.size (C.size T)) ((z8 s i j).bind λu=>E (.sl T u N))
  |_,_,_=>F)
 |some (.slice e),.nx id T k .whole=>(match P.info? e,Zn S 0 lo with
  |some ti,E i=>zM S id T k λU u=>(match Zn S u.len hi with
   |some j=>chk (I ti.size (C.size U)) ((z8 u i j).bind λ_=>E (.nx id T k (.part U i j)))
   |none=>F)
  |_,_=>F)
 |_,_=>F
theorem zkl {e:TypeId}{ti:TypeInfo}{lo hi:Uv Operand}{i j:Int}{a:Uv Addr}{m c z:Nat}(l:P.underlying t=E (.slice e)) (f:P.info? e=E ti) (k:ti.size=z)
    (n:opv L b x = .slice a m c) (o:m<=c) (p:YR L b lo 0 i) (q:YR L b hi (m:Int) j) (h1:0<=i) (h2:i<=j) (s:j<=m) :
    Za P Z PV L b ⟨E d,.slice t x lo hi F,ty,ps,af,g⟩ (vz (.slice a m c) i j z):=λw r=>by
 have hb:=YG (P:=P) (w:=w) (isS:=true) (m:=m) (c:=c) p q h1 h2 Zd;have h:(qX t (.slice a m c) (lo.map (opv L b)) (hi.map (opv L b)) F).run P w = .ok (.slice (if(c:Int)=i then a else a.map (·.add (i.toNat * z))) (j - i).toNat (c - i.toNat)) w:=by
  unfold qX Instr.slice;simp only[UP,UO l,UQ];simp only[UP,UQ,hb,sizeOf,typeInfo,UR,f,UN,k];rw[(Zd:j.toNat - i.toNat=(j - i).toNat)];grind
 simp only[execOp,n,UP,h,UQ,UN,Option.map_none,vz]
theorem znY(hA:Abs S ν vs ids L b Z PV){lo hi:Uv Operand}(h:Ys P S t (S.op x) lo hi=E A):Yl P Z PV L b ⟨E d,.slice t x lo hi F,ty,ps,af,g⟩ (λv=>VR C Z ν v A):=by
 have f:=hA.op x;unfold Ys at h;split at h
 ·rename_i s n e;rw[e] at f;split at h
  ·rename_i i j h1 h2;let⟨u,m,h⟩:=gd h;cases h;exact .of (zhi n f.str_inv (xO hA h1) (xO hA h2) m) Rv.str
  ·cases h
 ·rename_i e T s cl n r;rw[r] at f;split at h
  ·rename_i ti i j hi h1 h2;obtain⟨l,h⟩:=zb h;have l:ti.size=(zC C T).size:=ge l;obtain⟨u,m,h⟩:=gd h;cases h;obtain⟨v,o,y⟩:=zhg (P:=P) (PV:=PV) (d:=d) (ty:=ty) (ps:=ps) (af:=af) (g:=g) n hi l rfl f.sl_vrel (xO hA h1) (xO hA h2) m;exact .of y (Rv.of_vrel o).vr
  ·cases h
 ·rename_i e id T k n r;rw[r] at f;split at h
  ·rename_i ti i hi h1;let⟨U,u,h,B⟩:=xN hA h;split at h
   ·rename_i j h2;let⟨l,h⟩:=zb h;have l:ti.size=C.size U:=ge l;let⟨M,m,h⟩:=gd h;cases h;let⟨z,g2,H,_⟩:=wo m;have f:opv L b x=(ν.adr id).sub k.toNat:=f.1;intro w q;let⟨a,c,o,K,D⟩:=(B w q).form q;have p:opv L b x = .slice a u.xs.length c:=by rw[f,o]
    refine⟨_,zkl (PV:=PV) n hi l p D (xO hA h1) (xO hA h2) z g2 H w q,?_,rfl⟩;show _=vz ((ν.adr id).sub k.toNat) i j (C.size U);rw[o]
   ·cases h
  ·cases h
 ·cases h
def w8(P:Program)(S:St C)(t:TypeId)(A:AV C.D):Uv (AV C.D):=
 match P.underlying t,A with
 |some .string,.str s=>E (.int .i64 s.size)
 |some (.slice _),.sl _ s _=>E (.int .i64 s.len)
 |some (.slice _),.nils=>E (.int .i64 0)
 |some (.slice _),.row id=>(match S.heap id with
  |some (.row _ s)=>E (.int .i64 s.len)
  |some (.orow _ s _)=>E (.int .i64 s.len)
  |_=>F)
 |some (.slice _),.nx id T i .whole=>zM S id T i λ_ u=>E (.int .i64 u.len)
 |some (.slice _),.nx id T k (.part U i j)=>zM S id T k λa u=>chk (I U a) ((z8 u i j).bind λ_=>E (.int .i64 (j - i)))
 |_,_=>F
theorem zsr(hA:Abs S ν vs ids L b Z PV)(h:w8 P S t (S.op x)=E A):Yl P Z PV L b ⟨E d,.call {callee :=.builtin .len,args:= #[x],argTypes:= #[t]},ty,ps,af,g⟩ (λv=>VR C Z ν v A):=by
 have f:=hA.op x;unfold w8 at h;split at h
 ·rename_i l e;rw[e] at f;cases h;exact .of (zj8 l f.str_inv) Rv.int
 ·rename_i l e;rw[e] at f;cases h;exact .of (VA l rfl f.sl_vrel) Rv.int
 ·rename_i l e;rw[e] at f;cases h;have f:VR C Z ν (opv L b x) (.sl 0 ⟨[],N⟩ G):=by rw[show opv L b x = .slice F 0 0 from f];exact zkk
  exact .of (VA l rfl f.sl_vrel) Rv.int
 ·rename_i id l e;rw[e] at f;split at h
  ·rename_i T s hs;cases h;let⟨m,r,_⟩:=hA.at hs;exact .of (zc6 m l (show opv L b x=ν.hdr id from f) r) Rv.int
  ·rename_i T s D hs;cases h;let⟨m,r,_⟩:=hA.at hs;rw[<- zqx (sub:=(ν.adr id).sub) (g:=D)];exact .of (zc6 m l (show opv L b x=ν.hdr id from f) r) Rv.int
  ·cases h
 ·rename_i id T i l e;rw[e] at f;let⟨U,u,h,y⟩:=xN hA h;cases h;have f:opv L b x=(ν.adr id).sub i.toNat:=f.1;intro w n;refine⟨.int .i64 u.len,?_,Rv.int⟩;rcases(y w n).cases n with p | p
  ·exact VA (PV:=PV) l f p w n
  ·exact zc6 (PV:=[.row (zC C U).o U ((ν.adr id).sub i.toNat) u]) (T:=(zC C U).o) 0 l f rfl w p
 ·rename_i id T k U i j l e;rw[e] at f;let⟨R,u,h,y⟩:=xN hA h;let⟨B,h⟩:=zb h;obtain rfl:=ge B;let⟨X,z,h⟩:=gd h;cases h;let⟨H,g2,Q,_⟩:=wo z;have f:opv L b x=vz ((ν.adr id).sub k.toNat) i j (C.size U):=f.1;intro w n;refine⟨.int .i64 (j - i),?_,Rv.int⟩;let⟨a,c,p,K,M⟩:=(y w n).form n;rw[p] at f;have q:(((j - i).toNat:Nat):Int)=j - i:=Zd
  simp[execOp,resolve,invoke,builtin,f,vz,Builtin.len_,UO l,goInt,q]
 ·cases h
end
end
section
variable [Dfr]
section
variable {C:Cod}{S:St C}{ν:Val}{vs:Nat->List Value}{ids:List Nat}{L:List (Nat×Value)}{b:Nat->Value}{Z:FS}{PV:List Priv}{P:Program}
variable {t t' ty:TypeId}{x y z:Operand}{d:Nat}{ps:String}{af:Array Edge}{g:Uv (Nat×Bool)}{A:AV C.D}
def YS{D:Nat->Type}:AV D->Bool
 | .agg cs=>cs.all AV.leaf
 |v=>v.leaf
def vX{D:Nat->Type}(a:List (Nat×Nat)):List (AV D)->List (Nat×AV D)->Uv (List (AV D))
 |cs,[]=>E cs
 |cs,(i,c)::r=>match a[i]? with
  |none=>F
  |some (off,size)=>chk (YS c && (I (zt c).length size && qB (off+(zt c).length) cs.length)) (vX a (cs.take off++zt c++cs.drop (off+(zt c).length)) r)
theorem zde{D:Nat->Type}{A:AV D}(h:YS A=G):A.leaf=G\/∃cs,A = .agg cs/\cs.all AV.leaf=true:=by
 cases A
 case agg cs=>exact .inr ⟨cs,rfl,h⟩
 all_goals exact .inl h
theorem ZE{v:Value}(h:VR C Z ν v A)(hs:YS A=G)(c:∀i,(ν.hdr i).oneCell'=G):VRs C Z ν v.cells.toList (zt A)/\∀u∈v.cells.toList,u.oneCell'=true:=by
 rcases zde hs with b | ⟨cs,rfl,hs⟩
 ·refine⟨h.cells (.inl b) c,λu a=>?_⟩;have h1:=h.one b c;have e:v.cells.toList=[v]:=by cases v<;>simp_all[qN,qo]
  grind
 ·obtain⟨us,rfl,k⟩:=h;refine⟨by simpa[qo,zt] using k,λu a=>?_⟩;have a:u∈us:=by simpa[qo] using a
  let⟨j,d⟩:=qH.1 a;have b:=k.len;have g:=(U5.1 d).1;have f:=UC (Zd:j < cs.length);exact(k.rel d f).one (Dp.1 hs _ (UM f)) c
theorem zfm (g:∀i,(ν.hdr i).oneCell'=G) (a:List (Nat×Nat)):∀(ps:List (Nat×AV C.D)) (us:List (Nat×Value)) (cs r:List (AV C.D)) (d:List Value),us.map (·.1)=ps.map (·.1)->(∀(j:Nat) u B,us[j]?=E u->ps[j]?=E B->VR C Z ν u.2 B.2)->VRs C Z ν d cs->vX a cs ps=E r->
    ∃rs,zah a d (us.map λu=>(u.1,u.2.cells.toList))=E rs/\VRs C Z ν rs r
 |[],us,cs,r,d,h1,h2,h3,b=>by
   simp only[vX] at b;cases b;have:us=[]:=by simpa using h1
   subst this;exact⟨d,rfl,h3⟩
 |(i,c)::ps,[],cs,r,d,h1,h2,h3,b=>by simp at h1
 |(i,c)::ps,(j,u)::us,cs,r,d,h1,h2,h3,b=>by
   simp only[U8,List.cons.injEq] at h1;obtain⟨rfl,h1⟩:=h1;simp only[vX] at b;simp only[U8,zah];cases hp:a[j]? with
   |none=>grind
   |some q=>
    let⟨off,size⟩:=q;rw[hp] at b;simp only at b |-
    let⟨h,l⟩:=zb b;simp only[gf] at h;let⟨c1,c2,c3⟩:=h;have e:=(ZE (h2 0 (j,u) (j,c) rfl rfl) c1 g).1;have n:=e.len;have f:=h3.len;rw[<- n] at c2 c3 l;rw[<- f] at c3;rw[c2,c3];simp only[Bool.and_self,Dq];exact zfm g a ps us _ r _ h1 (λk u B m o=>h2 (k+1) u B (by simpa using m) (by simpa using o)) (((h3.take off).append e).append (h3.drop _)) l
def zf3(P:Program):List Field->Uv (List (Nat×Nat))
 |[]=>E []
 |f::fs=>match P.info? f.type,zf3 P fs with
  |some ti,E r=>E ((f.offset,ti.size)::r)
  |_,_=>F
theorem zkm:∀{fs:List Field}{a:List (Nat×Nat)},zf3 P fs=E a->fs.map (λf=>(P.info? f.type).map λi=>(f.offset,i.size))=a.map E
 |[],a,h=>by simp only[zf3] at h;cases h;rfl
 |f::fs,a,h=>by
  simp only[zf3] at h;split at h
  ·rename_i ti r hi b;cases h;simp[hi,zkm b]
  ·cases h
def zdf(size n:Nat):List (Nat×Nat):=(Y n).map λi=>(i * size,size)
theorem zij{p q:Nat->Uv (Nat×Nat)}(h:∀i x,p i=E x->q i=E x):∀(ps:List (Nat×Value)) (cs r:Array Value),qL p cs ps=E r->qL q cs ps=E r
 |[],cs,r,hf=>hf
 |(i,v)::ps,cs,r,hf=>by
  simp only[qL] at hf |-
  cases hp:p i with
  |none=>grind
  |some x=>
   rw[hp] at hf;rw[h i x hp];let⟨off,size⟩:=x;simp only at hf |-
   split at hf
   ·cases hf
   ·rename_i a;rw[jx a];exact zij h ps _ r hf
theorem znZ {n:Nat}{e:TypeId}{ti h:TypeInfo}{k:Value}{a:Array (Nat×Operand)}{vs:List (Nat×Value)}{c:List (Nat×List Value)}{cs:List Value}(s:P.underlying t=E (.array n e)) (hi:P.info? t=E ti) (v:P.info? e=E h) (p:ti.zero=E k)
    (hp:(a.toList.map λq=>(q.1,opv L b q.2))=vs) (u:zc9 vs c) (o:zah (zdf h.size n) k.cells.toList c=E cs) :
    Za P Z PV L b ⟨E d,.build t a,ty,ps,af,g⟩ (.agg cs.toArray):=λw _=>by
 have l:(a.map λ(q:Nat×Operand)=>(q.1,opv L b q.2)).toList=vs:=by rw[Array.toList_map];exact hp
 have f:=zij (q:=λi=>E (i * h.size,h.size)) (λi x m=>by
  simp only[zdf,U3] at m;cases r:(Y n)[i]? with
  |none=>grind
  |some j=>
   rw[r] at m;have:j=i:=by
    grind
   grind) _ _ _ (zkc (zdf h.size n) vs c k.cells cs u o)
 have:(zI t (a.map λq=>(q.1,opv L b q.2))).run P w = .ok (.agg cs.toArray) w:=by
  unfold zI;simp only[UP,zeroValue,sizeOf,typeInfo,UR,UQ,hi,v,UN,p,UO s,l,f]
 simp only[execOp,UP,this,UQ,UN]
def vL{α:Type}(l:List α)(i:Int):Uv α:=if 0<=i then l[i.toNat]? else F
def zbI{D:Nat->Type}:List (AV D)->Uv (List ByteArray)
 |[]=>E []
 | .str s::r=>(zbI r).bind λl=>E (s::l)
 |_=>F
def zec{D:Nat->Type}(k:IntKind):List (AV D)->Uv (List Int)
 |[]=>E []
 | .int k' n::r=>chk (decide (k'=k)) ((zec k r).bind λl=>E (n::l))
 |_=>F
def zf4(n:Nat)(cs:List (AV C.D))(i:Int):Uv (AV C.D):=chk (I n cs.length) (match zbI cs with
 |some l=>(vL l i).bind λs=>E (.str s)
 |none=>(match cs with
  | .int k _::_=>(zec k cs).bind λl=>(vL l i).bind λm=>E (.int k m)
  |_=>F))
theorem zik{α:Type}{l:List α}{i:Int}{x:α}(h:vL l i=E x):0<=i/\l[i.toNat]?=E x:=by
 unfold vL at h;grind
theorem zil:∀{cs:List (AV C.D)}{l:List ByteArray},zbI cs=E l->∀{j:Nat}{s:ByteArray},l[j]?=E s->cs[j]?=E (.str s)
 |[],l,h,j,s,hj=>by simp only[zbI] at h;grind
 |A::r,l,h,j,s,hj=>by
  cases A<;>simp only[zbI] at h<;>try (cases h;done)
  let⟨a,h1,h2⟩:=gd h;cases h2;cases j with
  |zero=>grind
  |succ j=>simpa using zil h1 (by simpa using hj)
theorem zim{k:IntKind}:∀{cs:List (AV C.D)}{l:List Int},zec k cs=E l->∀{j:Nat}{m:Int},l[j]?=E m->cs[j]?=E (.int k m)
 |[],l,h,j,s,hj=>by simp only[zec] at h;grind
 |A::r,l,h,j,s,hj=>by
  cases A<;>simp only[zec] at h<;>try (cases h;done)
  let⟨a,h⟩:=zb h;have:=Dn a;subst this;let⟨b,h1,h2⟩:=gd h;cases h2;cases j with
  |zero=>grind
  |succ j=>simpa using zim h1 (by simpa using hj)
theorem zqA{n:Nat}{cs:List (AV C.D)}{i:Int}{A:AV C.D}(h:zf4 n cs i=E A):0<=i/\i < n/\cs[i.toNat]?=E A:=by
 let⟨b,h⟩:=zb h;have b:=ge b
 have key:∀{A:AV C.D},0<=i->cs[i.toNat]?=E A->0<=i/\i < n/\cs[i.toNat]?=E A:=λh0 h1=>⟨h0,by
  grind,h1⟩
 split at h
 ·rename_i l a;let⟨s,hs,h⟩:=gd h;cases h;let⟨h0,h1⟩:=zik hs;exact key h0 (zil a h1)
 ·split at h
  ·let⟨l,a,h⟩:=gd h;let⟨m,c,h⟩:=gd h;cases h;let⟨h0,h1⟩:=zik c;exact key h0 (zim a h1)
  ·cases h
theorem zss{p:Nat->Prop}{n:Nat}{cs:List (AV C.D)}{i:Int}{A:AV C.D}(h:zf4 n cs i=E A):(∃s,A = .str s)\/∃k m,A = .int k m:=by
 let⟨_,h⟩:=zb h;split at h
 ·let⟨s,hs,h⟩:=gd h;grind
 ·split at h
  ·let⟨l,a,h⟩:=gd h;let⟨m,b,h⟩:=gd h;grind
  ·cases h
def zbd(P:Program)(t:TypeId)(A B:AV C.D):Uv (AV C.D):=match P.underlying t,A,B with
 |some .string,.str s,.int _ i=>(Zh s i).bind λc=>E (.int .u8 c)
 |some (.array n e),.agg cs,.int _ i=>(match P.underlying e,P.info? e with
  |some b,E a=>chk (!Zi b && I a.size 1) (zf4 n cs i)
  |_,_=>F)
 |_,_,_=>F
theorem zn0 {n:Nat}{e:TypeId}{c:TypeDesc}{h:TypeInfo}{cs:List Value}{k:IntKind}{i:Int}{v:Value}(j:P.underlying t=E (.array n e)) (f:P.underlying e=E c) (hi:P.info? e=E h) (hd:Zi c=N) (h1:h.size=1) (l:opv L b x = .agg cs.toArray) (m:opv L b y = .int k i) (h0:0<=i) (o:i < n) (p:cs[i.toNat]?=E v) :
    Za P Z PV L b ⟨E d,.index t x y,ty,ps,af,g⟩ v:=λw _=>by
 have a:(Go.isAgg e).run P w=qO (Zi c) w:=by
  unfold Go.isAgg;rw[UP,UO f];cases c<;>rfl
 have:(q5 t (.agg cs.toArray) (.int k i)).run P w = .ok v w:=by
  unfold q5;simp only[asIntOf,UP,UN,UQ,UO j];rw[jv ⟨h0,o⟩];simp only[part,sizeOf,typeInfo,UR,hi,h1,UP,UN,UQ,a,hd,Nat.mul_one,List.getElem?_toArray,p];simp
 simp only[execOp,l,m,UP,this,UQ,UN]
theorem zqB(hA:Abs S ν vs ids L b Z PV)(h:zbd P t (S.op x) (S.op y)=E A):Yl P Z PV L b ⟨E d,.index t x y,ty,ps,af,g⟩ (λv=>VR C Z ν v A):=by
 have e:=hA.op x;have f:=hA.op y;unfold zbd at h;split at h
 ·rename_i k l j;rw[l] at e;rw[j] at f;let⟨c,a,h⟩:=gd h;cases h;exact .of (zhh k e.str_inv f.int_inv a) Rv.int
 ·rename_i k l j;rw[l] at e;rw[j] at f;split at h
  ·rename_i s w o hi;let⟨a,h2⟩:=zb h;simp only[gf,Do] at a;let⟨h0,r,m⟩:=zqA h2;let⟨us,q,p⟩:=e;let⟨u,i,n⟩:=p.get _ A m;exact .of (zn0 k o hi a.1 (ge a.2) q f.int_inv h0 r i) n
  ·cases h
 ·cases h
def WL(P:Program)(S:St C)(t:TypeId)(a:List (Nat×Operand)):Uv (AV C.D):=
 match P.underlying t,P.info? t with
 |some (.struct fs),E ti=>(match ti.zero,zf3 P fs.toList with
  |some c,E b=>(vX b (c.cells.toList.map ZZ) (a.map λq=>(q.1,S.op q.2))).bind λcs=>E (.agg cs)
  |_,_=>F)
 |some (.array n e),E ti=>(match ti.zero,P.info? e with
  |some c,E d=>(vX (zdf d.size n) (c.cells.toList.map ZZ) (a.map λq=>(q.1,S.op q.2))).bind λcs=>E (.agg cs)
  |_,_=>F)
 |_,_=>F
theorem zbJ:∀us:List (Nat×Value),zc9 us (us.map λu=>(u.1,u.2.cells.toList))
 |[]=>trivial
 |(i,v)::us=>⟨rfl,rfl,zbJ us⟩
theorem zn1(hA:Abs S ν vs ids L b Z PV){a:Array (Nat×Operand)}(h:WL P S t a.toList=E A):Yl P Z PV L b ⟨E d,.build t a,ty,ps,af,g⟩ (λv=>VR C Z ν v A):=by
 unfold WL at h;split at h
 ·rename_i fs ti c hi;split at h
  ·rename_i l o k hp;let⟨cs,m,h⟩:=gd h;cases h
   let⟨rs,h1,h2⟩:=zfm (Z:=Z) (ν:=ν) hA.one o _ (a.toList.map λq=>(q.1,opv L b q.2)) _ cs l.cells.toList je (λj u B c f=>by
    rw[U3] at c f;cases i:a.toList[j]? with
    |none=>grind
    |some q=>rw[i] at c f;cases c;cases f;exact hA.op q.2) (xK _) m
   exact .of (zwa c hi k (zkm hp) rfl (zbJ _) h1) ⟨rs,rfl,h2⟩
  ·cases h
 ·rename_i n e ti c hi;split at h
  ·rename_i l p k r;let⟨cs,m,h⟩:=gd h;cases h
   let⟨rs,h1,h2⟩:=zfm (Z:=Z) (ν:=ν) hA.one (zdf p.size n) _ (a.toList.map λq=>(q.1,opv L b q.2)) _ cs l.cells.toList je (λj u B c f=>by
    rw[U3] at c f;cases i:a.toList[j]? with
    |none=>grind
    |some q=>rw[i] at c f;cases c;cases f;exact hA.op q.2) (xK _) m
   exact .of (znZ c hi r k rfl (zbJ _) h1) ⟨rs,rfl,h2⟩
  ·cases h
 ·cases h
def zed(P:Program)(t:TypeId)(m:Nat)(A:AV C.D):Uv (AV C.D):=
 match P.underlying t,A with
 |some (.struct fs),.agg cs=>(match fs[m]? with
  |some f=>Yy P f.type cs f.offset
  |none=>F)
 |_,_=>F
theorem zn2(hA:Abs S ν vs ids L b Z PV){m:Nat}(h:zed P t m (S.op x)=E A):Yl P Z PV L b ⟨E d,.field t x m,ty,ps,af,g⟩ (λv=>VR C Z ν v A):=by
 have i:=hA.op x;unfold zed at h;split at h
 ·rename_i fs cs l e;rw[e] at i;split at h
  ·rename_i f j;obtain⟨o,ti,c,hi,h1,h2,rfl⟩:=zai h;let⟨us,n,k⟩:=i;have a:((us.drop f.offset).take ti.size).length=ti.size:=by rw[<- h1];simp[k.len]
   exact .of (zwb l j c hi n rfl a h2 rfl) ((k.drop _).take _).val
  ·cases h
 ·cases h
theorem zbe(hA:Abs S ν vs ids L b Z PV):∀l:List Operand,VRs C Z ν (l.map (opv L b)) (l.map S.op)
 |[]=>trivial
 |x::l=>⟨hA.op x,zbe hA l⟩
def wq(P:Program)(S:St C)(t:TypeId)(bo:BinOp)(A B:AV C.D):Uv (AV C.D):=match A with
 | .row id=>(match B,S.heap id with
  | .nils,E (.row _ s)=>(match P.underlying t,bo with
   |some (.slice _),.eql=>E (.bool !s.nn)
   |some (.slice _),.neq=>E (.bool s.nn)
   |_,_=>F)
  | .nils,E (.orow _ s _)=>(match P.underlying t,bo with
   |some (.slice _),.eql=>E (.bool !s.nn)
   |some (.slice _),.neq=>E (.bool s.nn)
   |_,_=>F)
  |_,_=>F)
 | .nx id T i .whole=>(match B with
  | .nils=>zM S id T i λ_ s=>(match P.underlying t,bo with
   |some (.slice _),.eql=>E (.bool !s.nn)
   |some (.slice _),.neq=>E (.bool s.nn)
   |_,_=>F)
  |_=>F)
 |A=>wA P t bo A B
theorem zqC(hA:Abs S ν vs ids L b Z PV){bo:BinOp}(h:wq P S t bo (S.op x) (S.op y)=E A):Yl P Z PV L b ⟨E d,.binOp bo t x y t',ty,ps,af,g⟩ (λv=>VR C Z ν v A):=by
 have c:=hA.op x;have a:=hA.op y;unfold wq at h;split at h
 ·rename_i id n;rw[n] at c;split at h
  ·rename_i T s l hs;rw[l] at a;have a:opv L b y = .slice F 0 0:=a;have c:opv L b x=ν.hdr id:=c;let⟨m,k,_⟩:=hA.at hs;split at h
   ·rename_i e;cases h;exact .of (zaW m e c a k) Rv.bool
   ·rename_i e;cases h;exact .of (zaX m e c a k) Rv.bool
   ·cases h
  ·rename_i T s q l hs;rw[l] at a;have a:opv L b y = .slice F 0 0:=a;have c:opv L b x=ν.hdr id:=c;let⟨m,k,_⟩:=hA.at hs;split at h
   ·rename_i e;cases h;exact .of (zaW m e c a k) Rv.bool
   ·rename_i e;cases h;exact .of (zaX m e c a k) Rv.bool
   ·cases h
  ·cases h
 ·rename_i id T i n;rw[n] at c;split at h
  ·rename_i l;rw[l] at a;have a:opv L b y = .slice F 0 0:=a;have c:opv L b x=(ν.adr id).sub i.toNat:=c.1;let⟨U,u,h2,p⟩:=xN hA h;clear h;split at h2
   ·rename_i e;cases h2;intro w f;refine⟨.bool !u.nn,?_,Rv.bool⟩;rcases(p w f).cases f with j | j
    ·exact WH (PV:=PV) e c a j w f
    ·exact zaW (PV:=[.row (zC C U).o U ((ν.adr id).sub i.toNat) u]) (T:=(zC C U).o) 0 e c a rfl w j
   ·rename_i e;cases h2;intro w f;refine⟨.bool u.nn,?_,Rv.bool⟩;rcases(p w f).cases f with j | j
    ·exact WI (PV:=PV) e c a j w f
    ·exact zaX (PV:=[.row (zC C U).o U ((ν.adr id).sub i.toNat) u]) (T:=(zC C U).o) 0 e c a rfl w j
   ·cases h2
  ·cases h
 ·exact zsq hA h
def Ye:Operand->Bool
 | .const .nilIface=>G
 |_=>N
def x9(P:Program)(S:St C)(t:TypeId)(bo:BinOp)(x y:Operand):Uv (AV C.D):=bif Ye y then
    (match P.underlying t,S.op x,bo with
    |some (.interface _),.ifc _ _,.eql=>E (.bool N)
    |some (.interface _),.ifc _ _,.neq=>E (.bool G)
    |some (.interface _),.nili,.eql=>E (.bool G)
    |some (.interface _),.nili,.neq=>E (.bool N)
    |_,_,_=>F)
 else wq P S t bo (S.op x) (S.op y)
theorem wP{y:Operand}(h:Ye y=G):y = .const .nilIface:=by
 unfold Ye at h;grind
theorem zqD(hA:Abs S ν vs ids L b Z PV){bo:BinOp}(h:x9 P S t bo x y=E A):Yl P Z PV L b ⟨E d,.binOp bo t x y t',ty,ps,af,g⟩ (λv=>VR C Z ν v A):=by
 unfold x9 at h;cases c:Ye y with
 |false=>rw[c] at h;exact zqC hA h
 |true=>
  rw[c,Dq] at h;have:=wP c;subst this;have a:=hA.op x;have c:opv L b (.const .nilIface) = .nilIface:=rfl;split at h
  ·rename_i j u B f i;rw[i] at a;cases h;let⟨v,e,_⟩:=a;exact .of (v :=.bool N) (λw _=>by simp[execOp,e,c,eqGuard,binOp,zf1 f]) Rv.bool
  ·rename_i j u B f i;rw[i] at a;cases h;let⟨v,e,_⟩:=a;exact .of (v :=.bool G) (λw _=>by simp[execOp,e,c,eqGuard,binOp,zf1 f]) Rv.bool
  ·rename_i j f i;rw[i] at a;cases h;exact .of (v :=.bool G) (λw _=>by simp[execOp,a.nili_inv,c,eqGuard,binOp,zf2 f]) Rv.bool
  ·rename_i j f i;rw[i] at a;cases h;exact .of (v :=.bool N) (λw _=>by simp[execOp,a.nili_inv,c,eqGuard,binOp,zf2 f]) Rv.bool
  ·cases h
theorem zwf{t:TypeId}{a:TypeDesc}(c:P.underlying t=E a)(f:∀e,a ≠.interface e)(x:Operand):Za P Z PV L b ⟨E d,.makeInterface t x,ty,ps,af,g⟩ (.iface t (opv L b x)):=λw _=>by
 simp only[execOp,Instr.makeInterface,UP,UO c,UQ];cases a<;>first | rfl | exact absurd rfl (f _)
def zf5(q:Bool)(A B:AV C.D):Uv (AV C.D):=match A,B with
 | .int k i,.int b j=>chk (decide (k=b)) (E (.int k (bif q then i else j)))
 | .bool i,.bool j=>E (.bool (bif q then i else j))
 | .str i,.str j=>E (.str (bif q then i else j))
 | .sl T s _,.sl T' s' _=>if h:T'=T then E (.sl T (bif q then s else h ▸ s') N) else F
 | .pnil,.pnil=>E .pnil
 | .nils,.nils=>E .nils
 | .pc i o,.pc a o'=>chk (I i a && I o o') (E (.pc i o))
 | .row i,.row a=>chk (I i a) (E (.row i))
 |_,_=>F
theorem VR.unclip{v:Value}{T:Nat}{s:Sl (C.D T)}{c:Bool}(h:VR C Z ν v (.sl T s c)):VR C Z ν v (.sl T s N):=(Rv.of_vrel h.sl_vrel).vr
theorem zst{q:Bool}{A B R:AV C.D}(h:zf5 q A B=E R){v:Value}(b:VR C Z ν v (bif q then A else B)):VR C Z ν v R:=by
 unfold zf5 at h;split at h
 ·let⟨e,h2⟩:=zb h;grind
 ·grind
 ·grind
 ·split at h
  ·rename_i e;subst e;cases h;cases q<;>exact VR.unclip b
  ·cases h
 ·grind
 ·grind
 ·let⟨e,h2⟩:=zb h;simp only[gf] at e;have a:=ge e.1;have c:=ge e.2;grind
 ·let⟨e,h2⟩:=zb h;have a:=ge e;grind
 ·cases h
def zf6(q:Bool)(A B:AV C.D):Uv (AV C.D):=match zf5 q A B with
 |some R=>E R
 |none=>bif q then E A else E B
theorem zkn{q:Bool}{A B R:AV C.D}(h:zf6 q A B=E R){v:Value}(a:VR C Z ν v (bif q then A else B)):VR C Z ν v R:=by
 unfold zf6 at h;split at h
 ·rename_i e;cases h;exact zst e a
 grind
def zbK(P:Program)(A:AV C.D)(t:TypeId)(ok:Bool):Uv (AV C.D):=match P.underlying t,P.info? t with
 |some (.interface _),_=>F
 |some _,E ti=>(match ok,A with
  |true,.ifc t' A=>chk (I t' t) (E (.tup [A,.bool G]))
  |false,.ifc t' A=>chk (I t' t) (E A)
  |true,.nili=>(match ti.zero with
   |some a=>E (.tup [zbF a,.bool N])
   |none=>F)
  |_,_=>F)
 |_,_=>F
theorem zmw(hA:Abs S ν vs ids L b Z PV){x:Operand}{o t:TypeId}{ok:Bool}(h:zbK P (S.op x) t ok=E A):Yl P Z PV L b ⟨E d,.typeAssert x o t ok,ty,ps,af,g⟩ (λv=>VR C Z ν v A):=by
 unfold zbK at h;have i:=hA.op x;split at h
 ·cases h
 ·rename_i j ti m l hi;split at h
  ·rename_i t' B e;rw[e] at i;let⟨c,h2⟩:=zb h;have c:=ge c;subst c;cases h2;let⟨u,a,f⟩:=i;refine .of (v :=.tuple #[u,.bool G]) (λw _=>?_) ⟨[u,.bool G],rfl,f,Rv.bool,trivial⟩;cases j<;>first | exact absurd rfl (m _) | simp[execOp,qK,UO l,a]
  ·rename_i t' B e;rw[e] at i;let⟨c,h2⟩:=zb h;have c:=ge c;subst c;cases h2;let⟨u,a,f⟩:=i;refine .of (v:=u) (λw _=>?_) f;cases j<;>first | exact absurd rfl (m _) | simp[execOp,qK,UO l,a]
  ·rename_i e;rw[e] at i;split at h
   ·rename_i k n;cases h;refine .of (v :=.tuple #[k,.bool N]) (λw _=>?_) ⟨[k,.bool N],rfl,zkj k,Rv.bool,trivial⟩;cases j<;>first | exact absurd rfl (m _) | simp[execOp,qK,UO l,i.nili_inv,zeroValue,typeInfo,hi,n]
   ·cases h
  ·cases h
 ·cases h
def zdg{D:Nat->Type}:List (AV D)->Bool
 |[.tup _]=>G
 |[A]=>A.leaf
 |_=>G
def zqE{D:Nat->Type}:List (AV D)->Bool
 |[A]=>A.leaf
 |_=>G
theorem zwg(f:Nat)(b:∀i,(ν.hdr i).oneCell'=G){a:List Value}{caps:List (AV C.D)}(c:VRs C Z ν a caps)(h:zqE caps=G):zaZ f a = .func (.func f) #[] a.toArray:=by
 match a,caps,c with
 |[],_,_=>rfl
 |[v],[A],c=>
  refine zmW f λu d=>?_
  rw[Dr.1 d];exact c.1.one h b
 |u::v::l,_,_=>cases u<;>rfl
def zbf(S:St C)(f:Nat)(fs caps:List Operand):Uv (AV C.D):=match fs with
 |[]=>chk (zqE (caps.map S.op)) (E (.clo f (caps.map S.op)))
 |fs=>match caps with
  |[]=>E (.clo f [.tup (fs.map S.op)])
  |_=>F
theorem zn3(hA:Abs S ν vs ids L b Z PV){f:Nat}{fs caps:Array Operand}(h:zbf S f fs.toList caps.toList=E A):Yl P Z PV L b ⟨E d,.makeFunc (.func f) fs caps,ty,ps,af,g⟩ (λv=>VR C Z ν v A):=by
 unfold zbf at h;split at h
 ·rename_i e;let⟨c,h2⟩:=zb h;cases h2;have a:=zbe hA caps.toList;exact .of (zfW (fs:=[]) (by rw[e];rfl) rfl) ⟨_,(zwg f hA.one a c).symm,a⟩
 ·split at h
  ·rename_i e;cases h;exact .of (zfW (cs:=[]) rfl (by rw[e];rfl)) ⟨[.tuple (fs.toList.map (opv L b)).toArray],rfl,⟨_,rfl,zbe hA _⟩,trivial⟩
  ·cases h
def yE(P:Program)(S:St C)(ty:TypeId):Op->Uv (AV C.D)
 | .move x=>E (zdb P ty (S.op x))
 | .assign x=>E (zdb P ty (S.op x))
 | .pick c a e=>match S.op c with
  | .bool q=>zf6 q (S.op a) (S.op e)
  |_=>F
 | .nilCheck x=>match S.op x with
  | .pc id off=>E (.pc id off)
  | .pr id T i off=>E (.pr id T i off)
  | .pz T q off=>E (.pz T q off)
  | .nx id T i (.elem U k off)=>E (.nx id T i (.elem U k off))
  |_=>F
 | .binOp bo t x y _=>x9 P S t bo x y
 | .makeInterface t x=>match P.underlying t with
  |some (.interface _)=>F
  |some _=>E (.ifc t (S.op x))
  |none=>F
 | .typeAssert x _ t ok=>zbK P (S.op x) t ok
 | .unOp .not _ x=>match S.op x with
  | .bool q=>E (.bool !q)
  |_=>F
 | .unOp .neg _ x=>match S.op x with
  | .int k i=>E (.int k (k.wrap (0 - i)))
  |_=>F
 | .convert t t' x=>match P.underlying t,P.underlying t',S.op x with
  |some _,E (.int d),.int _ i=>E (.int d (d.wrap i))
  |_,_,_=>F
 | .makeFunc (.func f) fs caps=>zbf S f fs.toList caps.toList
 | .extract x i=>match S.op x with
  | .tup us=>(us[i]?).bind λA=>E (zdb P ty A)
  |_=>F
 | .build t b=>WL P S t b.toList
 | .field t x m=>zed P t m (S.op x)
 | .fieldAddr t x m=>zeb P t m (S.op x)
 | .indexAddr t x y=>XR P S t (S.op x) (S.op y)
 | .load t x=>x8 P S t (S.op x)
 | .index t x y=>zbd P t (S.op x) (S.op y)
 | .slice t x lo hi F=>Ys P S t (S.op x) lo hi
 | .call ⟨.builtin .len,args,ts⟩=>match args.toList,ts.toList with
  |[x],[t]=>w8 P S t (S.op x)
  |_,_=>F
 | .call ⟨.builtin .min,args,ts⟩=>match args.toList with
  |[x,y]=>(match S.op x,S.op y with
   | .int k i,.int d j=>chk (decide (k=d)) (E (.int k (if j < i then j else i)))
   |_,_=>F)
  |_=>F
 | .call ⟨.builtin .max,args,ts⟩=>match args.toList with
  |[x,y]=>(match S.op x,S.op y with
   | .int k i,.int d j=>chk (decide (k=d)) (E (.int k (if i < j then j else i)))
   |_,_=>F)
  |_=>F
 |_=>F
theorem zxR{α:Type}{a:Array α}{x:α}(h:a.toList=[x]):a = #[x]:=jE
theorem za0{α:Type}{a:Array α}{x y:α}(h:a.toList=[x,y]):a = #[x,y]:=jE
theorem zwh(hA:Abs S ν vs ids L b Z PV){op:Op}(h:yE P S ty op=E A):Yl P Z PV L b ⟨E d,op,ty,ps,af,g⟩ (λv=>VR C Z ν v A):=by
 unfold yE at h;split at h
 ·cases h;exact .of (zxL rfl) (zdc (hA.op _))
 ·cases h;exact .of (zsk rfl) (zdc (hA.op _))
 ·rename_i c a e;have r:=hA.op c;split at h
  ·rename_i q j;rw[j] at r;cases q with
   |true=>exact .of (zsl r.bool_inv rfl rfl) (zkn h (hA.op _))
   |false=>exact .of (zsm r.bool_inv rfl rfl) (zkn h (hA.op _))
  ·cases h
 ·rename_i x;have f:=hA.op x;split at h
  ·rename_i e;rw[e] at f;cases h;exact .of (vW (show opv L b x = .pointer (E _) from f)) (by rfl)
  ·rename_i e;rw[e] at f;cases h;exact .of (vW (show opv L b x = .pointer (E _) from f)) (by rfl)
  ·rename_i e;rw[e] at f;cases h;let⟨R,cell,w,h1,h2⟩:=f.pz_inv;exact .of (vW w) jE
  ·rename_i e;rw[e] at f;cases h;exact .of (vW (show opv L b x = .pointer (E _) from f.1)) ⟨rfl,rfl⟩
  ·cases h
 ·exact zqD hA h
 ·rename_i t x;split at h
  ·cases h
  ·rename_i Q K l;cases h;exact .of (zwf l (λD e=>K D e) x) ⟨_,rfl,hA.op x⟩
  ·cases h
 ·exact zmw hA h
 ·rename_i x;have f:=hA.op x;split at h
  ·rename_i e;rw[e] at f;cases h;exact .of (zzZ f.bool_inv) Rv.bool
  ·cases h
 ·rename_i x;have f:=hA.op x;split at h
  ·rename_i e;rw[e] at f;cases h;exact .of (zz0 f.int_inv) Rv.int
  ·cases h
 ·rename_i t t' x;have f:=hA.op x;split at h
  ·rename_i l o e;rw[e] at f;cases h;exact .of (ziU l o f.int_inv) Rv.int
  ·cases h
 ·exact zn3 hA h
 ·rename_i x i;have f:=hA.op x;split at h
  ·rename_i us e;rw[e] at f;let⟨B,H,h⟩:=gd h;cases h;let⟨M,w,k⟩:=f;let⟨u,l,z⟩:=k.get i B H;exact .of (zqu w (by simpa using l)) (zdc z)
  ·cases h
 ·exact zn1 hA h
 ·exact zn2 hA h
 ·exact znW hA h
 ·exact znX hA h
 ·exact zqz hA h
 ·exact zqB hA h
 ·exact znY hA h
 ·split at h
  ·rename_i j m;rw[zxR j,zxR m];exact zsr hA h
  ·cases h
 ·split at h
  ·rename_i x y j;rw[za0 j];have f:=hA.op x;have n:=hA.op y;split at h
   ·rename_i m s;rw[m] at f;rw[s] at n;let⟨p,h2⟩:=zb h;obtain rfl:=Dn p;cases h2;exact .of (zz1 f.int_inv n.int_inv) Rv.int
   ·cases h
  ·cases h
 ·split at h
  ·rename_i x y j;rw[za0 j];have f:=hA.op x;have n:=hA.op y;split at h
   ·rename_i m s;rw[m] at f;rw[s] at n;let⟨p,h2⟩:=zb h;obtain rfl:=Dn p;cases h2;exact .of (zz2 f.int_inv n.int_inv) Rv.int
   ·cases h
  ·cases h
 ·cases h
end
end
section
variable [Dfr]
structure Kp where
 m:Nat
 le:m<=64
 ν0:Val
mutual
def AV.ok{D:Nat->Type}(p:Nat->Prop):AV D->Prop
 | .row id=>p id
 | .pc id _=>p id
 | .pr id _ _ _=>p id
 | .nx id _ _ _=>p id
 | .agg cs=>AV.oks p cs
 | .tup cs=>AV.oks p cs
 | .clo _ cs=>AV.oks p cs
 | .ifc _ A=>AV.ok p A
 |_=>True
def AV.oks{D:Nat->Type}(p:Nat->Prop):List (AV D)->Prop
 |[]=>True
 |A::As=>AV.ok p A/\AV.oks p As
end
mutual
def AV.sub{D:Nat->Type}(id:Nat)(R:AV D):AV D->AV D
 | .row j=>bif I j id then R else .row j
 | .pc j o=>bif I j id then .und else .pc j o
 | .pr j T i o=>bif I j id then .und else .pr j T i o
 | .nx j T i x=>bif I j id then .und else .nx j T i x
 | .agg cs =>.agg (AV.subs id R cs)
 | .tup cs =>.tup (AV.subs id R cs)
 | .clo f cs =>.clo f (AV.subs id R cs)
 | .ifc t A =>.ifc t (AV.sub id R A)
 |A=>A
def AV.subs{D:Nat->Type}(id:Nat)(R:AV D):List (AV D)->List (AV D)
 |[]=>[]
 |A::As=>AV.sub id R A::AV.subs id R As
end
section
variable {κ:Kp}{C:Cod}{S:St C}{ν ν':Val}{vs:Nat->List Value}{ids:List Nat}{L:List (Nat×Value)}{b:Nat->Value}{Z:FS}{PV:List Priv}{P:Program}
variable {t t' ty:TypeId}{x y z:Operand}{d:Nat}{ps:String}{af:Array Edge}{g:Uv (Nat×Bool)}{A:AV C.D}
omit [Dfr] in
mutual
theorem AV.ok_mono{D:Nat->Type}{p q:Nat->Prop}(h:∀i,p i->q i):∀{A:AV D},A.ok p->A.ok q
 | .row _,k=>h _ k
 | .pc _ _,k=>h _ k
 | .pr _ _ _ _,k=>h _ k
 | .nx _ _ _ _,k=>h _ k
 | .agg cs,k=>AV.oks_mono h (A:=cs) k
 | .tup cs,k=>AV.oks_mono h (A:=cs) k
 | .clo _ cs,k=>AV.oks_mono h (A:=cs) k
 | .ifc _ A,k=>AV.ok_mono h (A:=A) k
 | .int _ _,_=>trivial
 | .bool _,_=>trivial
 | .str _,_=>trivial
 | .sl _ _ _,_=>trivial
 | .pz _ _ _,_=>trivial
 | .pnil,_=>trivial
 | .nils,_=>trivial
 | .nilf,_=>trivial
 | .nili,_=>trivial
 | .und,_=>trivial
theorem AV.oks_mono{D:Nat->Type}{p q:Nat->Prop}(h:∀i,p i->q i):∀{A:List (AV D)},AV.oks p A->AV.oks q A
 |[],_=>trivial
 |A::As,⟨k,l⟩=>⟨AV.ok_mono h k,AV.oks_mono h l⟩
end
omit [Dfr] in
mutual
theorem VR.congr{p:Nat->Prop}(h:∀i,p i->ν.hdr i=ν'.hdr i/\ν.adr i=ν'.adr i):∀{A:AV C.D}{v:Value},A.ok p->VR C Z ν v A->VR C Z ν' v A
 | .row _,_,k,r=>by have:=(h _ k).1;rw[show _=ν.hdr _ from r,this];rfl
 | .pc _ _,_,k,r=>by have:=(h _ k).2;rw[show _=V (E ((ν.adr _).add _)) from r,this];rfl
 | .pr _ _ _ _,_,k,r=>by have:=(h _ k).1;rw[show _=V (E (zi (ν.hdr _) _)) from r,this];rfl
 | .nx _ _ _ _,_,k,r=>by refine⟨?_,r.2⟩;rw[<- (h _ k).2];exact r.1
 | .agg cs,_,k,⟨vs,e,r⟩=>⟨vs,e,VRs.congr h k r⟩
 | .tup cs,_,k,⟨vs,e,r⟩=>⟨vs,e,VRs.congr h k r⟩
 | .clo _ cs,_,k,⟨vs,e,r⟩=>⟨vs,e,VRs.congr h k r⟩
 | .ifc _ A,_,k,⟨u,e,r⟩=>⟨u,e,VR.congr h k r⟩
 | .int _ _,_,_,r=>r
 | .bool _,_,_,r=>r
 | .str _,_,_,r=>r
 | .sl _ _ _,_,_,r=>r
 | .pz _ _ _,_,_,r=>r
 | .pnil,_,_,r=>r
 | .nils,_,_,r=>r
 | .nilf,_,_,r=>r
 | .nili,_,_,r=>r
 | .und,_,_,_=>trivial
theorem VRs.congr{p:Nat->Prop}(h:∀i,p i->ν.hdr i=ν'.hdr i/\ν.adr i=ν'.adr i):∀{cs:List (AV C.D)}{vs:List Value},AV.oks p cs->VRs C Z ν vs cs->VRs C Z ν' vs cs
 |[],[],_,_=>trivial
 |A::As,v::vs,⟨k,l⟩,⟨r,s⟩=>⟨VR.congr h k r,VRs.congr h l s⟩
 |[],_::_,_,r=>r.elim
 |_::_,[],_,r=>r.elim
end
omit [Dfr] in
mutual
theorem AV.ok_sub{D:Nat->Type}{p:Nat->Prop}{id:Nat}{R:AV D}(a:R.ok λj=>p j/\j≠id):∀{A:AV D},A.ok p->(AV.sub id R A).ok λj=>p j/\j≠id
 | .row j,k=>by
  unfold AV.sub;cases e:I j id with
  |true=>exact a
  |false=>exact⟨k,λe'=>by rw[e'] at e;simp at e⟩
 | .pc j o,k=>by
  unfold AV.sub;cases e:I j id with
  |true=>trivial
  |false=>exact⟨k,λe'=>by rw[e'] at e;simp at e⟩
 | .pr j _ _ _,k=>by
  unfold AV.sub;cases e:I j id with
  |true=>trivial
  |false=>exact⟨k,λe'=>by rw[e'] at e;simp at e⟩
 | .nx j _ _ _,k=>by
  unfold AV.sub;cases e:I j id with
  |true=>trivial
  |false=>exact⟨k,λe'=>by rw[e'] at e;simp at e⟩
 | .agg cs,k=>AV.oks_sub a (A:=cs) k
 | .tup cs,k=>AV.oks_sub a (A:=cs) k
 | .clo _ cs,k=>AV.oks_sub a (A:=cs) k
 | .ifc _ A,k=>AV.ok_sub a (A:=A) k
 | .int _ _,_=>trivial
 | .bool _,_=>trivial
 | .str _,_=>trivial
 | .sl _ _ _,_=>trivial
 | .pz _ _ _,_=>trivial
 | .pnil,_=>trivial
 | .nils,_=>trivial
 | .nilf,_=>trivial
 | .nili,_=>trivial
 | .und,_=>trivial
theorem AV.oks_sub{D:Nat->Type}{p:Nat->Prop}{id:Nat}{R:AV D}(a:R.ok λj=>p j/\j≠id):∀{A:List (AV D)},AV.oks p A->AV.oks (λj=>p j/\j≠id) (AV.subs id R A)
 |[],_=>trivial
 |A::As,⟨k,l⟩=>⟨AV.ok_sub a k,AV.oks_sub a l⟩
end
omit [Dfr] in
mutual
theorem VR.sub{id:Nat}{R:AV C.D}(a:VR C Z ν (ν.hdr id) R):∀{A:AV C.D}{v:Value},VR C Z ν v A->VR C Z ν v (AV.sub id R A)
 | .row j,v,r=>by
  unfold AV.sub;cases e:I j id with
  |true=>have:=ge e;subst this;rw[show v=ν.hdr j from r];exact a
  |false=>exact r
 | .pc j o,v,r=>by
  unfold AV.sub;cases e:I j id with
  |true=>trivial
  |false=>exact r
 | .pr j _ _ _,v,r=>by
  unfold AV.sub;cases e:I j id with
  |true=>trivial
  |false=>exact r
 | .nx j _ _ _,v,r=>by
  unfold AV.sub;cases e:I j id with
  |true=>trivial
  |false=>exact r
 | .agg cs,_,⟨vs,e,r⟩=>⟨vs,e,VRs.sub a r⟩
 | .tup cs,_,⟨vs,e,r⟩=>⟨vs,e,VRs.sub a r⟩
 | .clo _ cs,_,⟨vs,e,r⟩=>⟨vs,e,VRs.sub a r⟩
 | .ifc _ A,_,⟨u,e,r⟩=>⟨u,e,VR.sub a r⟩
 | .int _ _,_,r=>r
 | .bool _,_,r=>r
 | .str _,_,r=>r
 | .sl _ _ _,_,r=>r
 | .pz _ _ _,_,r=>r
 | .pnil,_,r=>r
 | .nils,_,r=>r
 | .nilf,_,r=>r
 | .nili,_,r=>r
 | .und,_,_=>trivial
theorem VRs.sub{id:Nat}{R:AV C.D}(a:VR C Z ν (ν.hdr id) R):∀{cs:List (AV C.D)}{vs:List Value},VRs C Z ν vs cs->VRs C Z ν vs (AV.subs id R cs)
 |[],[],_=>trivial
 |A::As,v::vs,⟨r,s⟩=>⟨VR.sub a r,VRs.sub a s⟩
 |[],_::_,r=>r.elim
 |_::_,[],r=>r.elim
end
omit [Dfr] in
structure AbsL(κ:Kp)(S:St C)(ν:Val)(vs:Nat->List Value)(ids:List Nat)(L:List (Nat×Value))(b:Nat->Value)(Z:FS)(PV:List Priv):Prop extends Abs S ν vs ids L b Z PV where
 live:∀t,(S.env t).ok λid=>(S.heap id).isSome=G
 livec:∀id cs,S.heap id=E (.cell cs)->AV.oks (λid=>(S.heap id).isSome=G) cs
 keep:∀k,k < κ.m->(S.heap k).isSome=G->ν.hdr k=κ.ν0.hdr k/\(ν.adr k).a=(κ.ν0.adr k).a/\(Z1 (S.heap k)=G->(ν.adr k).sub=(κ.ν0.adr k).sub)
omit [Dfr] in
def zD(κ:Kp)(S:St C)(L:List (Nat×Value))(b:Nat->Value)(Z:FS)(PV:List Priv):Prop:=∃ν vs ids,AbsL κ S ν vs ids L b Z PV
def Ent.sub(id:Nat)(R:AV C.D):Ent C->Ent C
 | .cell cs =>.cell (AV.subs id R cs)
 | .row T s =>.row T s
 | .obj k T b s =>.obj k T b s
 | .orow T s g =>.orow T s g
def St.sub(S:St C)(id:Nat)(R:AV C.D):St C:=
 {env:=λt=>AV.sub id R (S.env t),heap:=λj=>bif I j id then F else(S.heap j).map (Ent.sub id R)}
theorem zsu{id:Nat}{R:AV C.D}{o:Uv (Ent C)}:Z1 (o.map (Ent.sub id R))=Z1 o:=by
 cases o with
 |none=>rfl
 |some e=>cases e<;>rfl
theorem VF{α β:Type}(f:α->β):∀(l:List α) (m:Nat),(l.map f).eraseIdx m=(l.eraseIdx m).map f
 |[],_=>rfl
 |_::_,0=>rfl
 |a::l,m+1=>by simp[VF f l m]
omit [Dfr] in
theorem AbsL.sub (h:AbsL κ S ν vs ids L b Z PV) {id m:Nat}{R:AV C.D}{τ:FS}{PV':List Priv}(A:ids[m]?=E id) (v:Z.le τ) (u:VR C τ ν (ν.hdr id) R) (o:R.ok λj=>(S.heap j).isSome=G/\j≠id) (x:PV.eraseIdx m=PV') :
    AbsL κ (S.sub id R) ν vs (ids.eraseIdx m) L b τ PV':=by
 have l:∀j,j∈ids.eraseIdx m↔j∈ids/\j≠id:=by
  intro j;have hp:=qx.1 (U6.1 h.nd);let⟨B,hid⟩:=U5.1 A;rw[qI];constructor
  ·grind
  ·rintro⟨d,y⟩;obtain⟨i,hi,rfl⟩:=qS d;grind
 have c:∀j,j≠id->(S.sub id R).heap j=(S.heap j).map (Ent.sub id R):=λj d=>by
  show(bif I j id then F else _)=_;cases e:I j id with
  |true=>exact absurd (ge e) d
  |false=>rfl
 have w:(S.sub id R).heap id=none:=by
  show(bif I id id then F else _)=_;simp
 have a:∀j,((S.heap j).isSome=G/\j≠id)↔((S.sub id R).heap j).isSome=true:=λj=>by
  grind
 refine⟨⟨List.Nodup.sublist (qU _ _) h.nd,λj=>?_,?_,λj cs f=>?_,λt=>VR.sub u ((h.env t).mono v),h.one⟩,λt=>?_,λj cs f=>?_,λk z hs=>have q:=h.keep k z ((a k).2 hs).1;⟨q.1,q.2.1,λr=>q.2.2 (by rw[c k ((a k).2 hs).2,zsu] at r;exact r)⟩⟩
 ·rw[l,h.dom];exact a j
 · rw[<- x,h.pv,VF];apply Ds;intro j d;have:=((l j).1 d).2;rw[c j this];cases S.heap j with
   |none=>rfl
   |some e=>cases e<;>rfl
 · by_cases e:j=id
   ·grind
   · rw[c j e] at f;cases d:S.heap j with
     |none=>grind
     |some p=>
      rw[d] at f;cases p with
      |cell n=>cases f;exact VRs.sub u ((h.cell j n d).mono v)
      |row T s=>cases f
      |obj k T b s=>cases f
      |orow T s g=>cases f
 ·exact AV.ok_mono (λj d=>(a j).1 d) (AV.ok_sub o (h.live t))
 · by_cases e:j=id
   ·grind
   · rw[c j e] at f;cases d:S.heap j with
     |none=>grind
     |some p=>
      rw[d] at f;cases p with
      |cell n=>cases f;exact AV.oks_mono (λj d=>(a j).1 d) (AV.oks_sub o (h.livec j n d))
      |row T s=>cases f
      |obj k T b s=>cases f
      |orow T s g=>cases f
def Ent.hd(e:Ent C)(v:Value):Value:=match e with
 | .row _ _=>v
 | .obj _ _ _ _=>v
 | .orow _ _ _=>v
 | .cell _ =>.slice F 0 0
def Ent.at(e:Ent C)(v:Value)(a:Loc):Value:=match e with
 | .row _ _=>v
 | .obj _ _ _ _=>v
 | .orow _ _ _=>v
 | .cell _ =>.pointer (E a.a)
omit [Dfr] in
def Ent.pv(e:Ent C)(v:Value)(a:Loc)(us:List Value):Priv:=match e with
 | .cell _ =>.cell a.a us
 | .row T s =>.row (zC C T).o T v s
 | .obj k T b s=>C.opv k T v a.a b s
 | .orow T s g =>.row (Ze C T) T v (hpl C T a.sub s g)
theorem AbsL.new (h:AbsL κ S ν vs ids L b Z PV) {id:Nat}(h0:S.heap id=F) (h64:κ.m<=id) {e:Ent C}{v:Value}{a:Loc}{us:List Value}{A:AV C.D}{p:Priv}(P:∀ν',ν'.hdr id=e.hd v->ν'.adr id=a->VR C Z ν' (e.at v a) A/\A.ok λj=>j=id)
    (w:v.oneCell'=G) (hp:p=e.pv v a us) (z:∀cs,e = .cell cs->VRs C Z ν us cs/\AV.oks (λid=>(S.heap id).isSome=G) cs) {u:Value} (Q:u=e.at v a) {d:Nat} :
    zD κ {env:=upd S.env d A,heap:=upd S.heap id (E e)} ((d,u)::L) b Z (p::PV):=by
 let ν':Val:={hdr:=upd ν.hdr id (e.hd v),adr:=upd ν.adr id a}
 let f:=upd vs id us
 have l:∀j,(S.heap j).isSome=G->j≠id:=λj c e=>jE
 have n:∀j,(S.heap j).isSome=G->ν.hdr j=ν'.hdr j/\ν.adr j=ν'.adr j:=λj c=>⟨(zq (l j c)).symm,(zq (l j c)).symm⟩
 have r:∀j,(S.heap j).isSome=G->(upd S.heap id (E e) j).isSome=true:=λj c=>by rw[zq (l j c)];exact c
 have hid:id ∉ ids:=λB=>by have:=(h.dom id).1 B;grind
 let⟨M,y⟩:=P ν' zp zp;refine⟨ν',f,id::ids,⟨⟨U7.2 ⟨hid,h.nd⟩,λj=>?_,?_,λj cs c=>?_,λt=>?_,λi=>?_⟩,λt=>?_,λj cs c=>?_,λk H hs=>?_⟩⟩
 · by_cases e':j=id
   ·subst e';show _↔(upd S.heap j (E e) j).isSome=G;rw[zp];simp
   ·show _↔(upd S.heap id (E e) j).isSome=G;rw[zq e',UU,h.dom];grind
 · rw[U8,h.pv];refine List.cons_eq_cons.2 ⟨?_,Ds λj c=>?_⟩
   · show p=zK C ν' f id (upd S.heap id (E e) id);rw[hp,zp];cases e with
     |cell cs=>simp[zK,f,ν',zp,Ent.pv]
     |row T s=>simp[zK,ν',zp,Ent.hd,Ent.pv]
     |obj k T b s=>simp[zK,ν',zp,Ent.hd,Ent.pv]
     |orow T s g=>simp[zK,ν',zp,Ent.hd,Ent.pv]
   · have q:=l j ((h.dom j).1 c);show zK C ν vs j (S.heap j)=zK C ν' f j (upd S.heap id (E e) j);rw[zq q];cases S.heap j with
     |none=>rfl
     |some K=>cases K<;>simp[zK,f,ν',zq q]
 · by_cases e':j=id
   ·subst e';have c:upd S.heap j (E e) j=_:=c;rw[zp] at c;cases c;show VRs C Z ν' (upd vs j us j) cs;rw[zp];exact(z cs rfl).1.congr n (z cs rfl).2
   ·have c:upd S.heap id (E e) j=_:=c;rw[zq e'] at c;show VRs C Z ν' (upd vs id us j) cs;rw[zq e'];exact(h.cell j cs c).congr n (h.livec j cs c)
 · show VR C Z ν' (look ((d,u)::L) b t) (upd S.env d A t);unfold look upd;cases e':I t d with
   |true=>grind
   |false=>exact(h.env t).congr n (h.live t)
 · by_cases e':i=id
   ·subst e';show(upd ν.hdr i _ i).oneCell'=G;rw[zp];cases e<;>first | exact w | rfl
   ·show(upd ν.hdr id _ i).oneCell'=G;rw[zq e'];exact h.one i
 · show(upd S.env d A t).ok λj=>(upd S.heap id (E e) j).isSome=G
   unfold upd;cases e':I t d with
   |true=>exact AV.ok_mono (λj c=>by subst c;simp) y
   |false=>exact AV.ok_mono (λj c=>jE) (h.live t)
 · by_cases e':j=id
   ·subst e';have c:upd S.heap j (E e) j=_:=c;rw[zp] at c;cases c;exact AV.oks_mono r (z cs rfl).2
   ·have c:upd S.heap id (E e) j=_:=c;rw[zq e'] at c;exact AV.oks_mono r (h.livec j cs c)
 · have o:k≠id:=Zd
   have hs:(upd S.heap id (E e) k).isSome=true:=hs;rw[zq o] at hs;have:=n k hs;have h2:=h.keep k H hs;refine⟨this.1.symm.trans h2.1,(congrArg Loc.a this.2).symm.trans h2.2.1,λx=>(congrArg Loc.sub this.2).symm.trans (h2.2.2 ?_)⟩;have x:Z1 (upd S.heap id (E e) k)=true:=x;rw[zq o] at x;exact x
mutual
def AV.knx{D:Nat->Type}(q:Nat->Bool):AV D->AV D
 | .nx j T i x=>bif q j then .und else .nx j T i x
 | .agg cs =>.agg (AV.knxs q cs)
 | .tup cs =>.tup (AV.knxs q cs)
 | .clo f cs =>.clo f (AV.knxs q cs)
 | .ifc t A =>.ifc t (AV.knx q A)
 |A=>A
def AV.knxs{D:Nat->Type}(q:Nat->Bool):List (AV D)->List (AV D)
 |[]=>[]
 |A::As=>AV.knx q A::AV.knxs q As
end
omit [Dfr] in
mutual
theorem VR.knx{p:Nat->Prop}{q:Nat->Bool}(h:∀i,p i->ν.hdr i=ν'.hdr i/\(ν.adr i).a=(ν'.adr i).a)(b:∀i,p i->q i=N->(ν.adr i).sub=(ν'.adr i).sub):∀{A:AV C.D}{v:Value},A.ok p->VR C Z ν v A->VR C Z ν' v (AV.knx q A)
 | .row _,_,k,r=>by have:=(h _ k).1;rw[show _=ν.hdr _ from r,this];rfl
 | .pc _ _,_,k,r=>by have:=(h _ k).2;rw[show _=V (E ((ν.adr _).a.add _)) from r,this];rfl
 | .pr _ _ _ _,_,k,r=>by have:=(h _ k).1;rw[show _=V (E (zi (ν.hdr _) _)) from r,this];rfl
 | .nx j _ _ _,_,k,r=>by
  unfold AV.knx;cases e:q j with
  |true=>trivial
  |false=>refine⟨?_,r.2⟩;rw[<- b j k e];exact r.1
 | .agg cs,_,k,⟨vs,e,r⟩=>⟨vs,e,VRs.knx h b k r⟩
 | .tup cs,_,k,⟨vs,e,r⟩=>⟨vs,e,VRs.knx h b k r⟩
 | .clo _ cs,_,k,⟨vs,e,r⟩=>⟨vs,e,VRs.knx h b k r⟩
 | .ifc _ A,_,k,⟨u,e,r⟩=>⟨u,e,VR.knx h b k r⟩
 | .int _ _,_,_,r=>r
 | .bool _,_,_,r=>r
 | .str _,_,_,r=>r
 | .sl _ _ _,_,_,r=>r
 | .pz _ _ _,_,_,r=>r
 | .pnil,_,_,r=>r
 | .nils,_,_,r=>r
 | .nilf,_,_,r=>r
 | .nili,_,_,r=>r
 | .und,_,_,_=>trivial
theorem VRs.knx{p:Nat->Prop}{q:Nat->Bool}(h:∀i,p i->ν.hdr i=ν'.hdr i/\(ν.adr i).a=(ν'.adr i).a)(b:∀i,p i->q i=N->(ν.adr i).sub=(ν'.adr i).sub):∀{cs:List (AV C.D)}{vs:List Value},AV.oks p cs->VRs C Z ν vs cs->VRs C Z ν' vs (AV.knxs q cs)
 |[],[],_,_=>trivial
 |A::As,v::vs,⟨k,l⟩,⟨r,s⟩=>⟨VR.knx h b k r,VRs.knx h b l s⟩
 |[],_::_,_,r=>r.elim
 |_::_,[],_,r=>r.elim
end
omit [Dfr] in
mutual
theorem AV.ok_knx{D:Nat->Type}{p:Nat->Prop}{q:Nat->Bool}:∀{A:AV D},A.ok p->(AV.knx q A).ok p
 | .row _,k=>k
 | .pc _ _,k=>k
 | .pr _ _ _ _,k=>k
 | .nx j _ _ _,k=>by
  unfold AV.knx;cases q j with
  |true=>trivial
  |false=>exact k
 | .agg cs,k=>AV.oks_knx (A:=cs) k
 | .tup cs,k=>AV.oks_knx (A:=cs) k
 | .clo _ cs,k=>AV.oks_knx (A:=cs) k
 | .ifc _ A,k=>AV.ok_knx (A:=A) k
 | .int _ _,_=>trivial
 | .bool _,_=>trivial
 | .str _,_=>trivial
 | .sl _ _ _,_=>trivial
 | .pz _ _ _,_=>trivial
 | .pnil,_=>trivial
 | .nils,_=>trivial
 | .nilf,_=>trivial
 | .nili,_=>trivial
 | .und,_=>trivial
theorem AV.oks_knx{D:Nat->Type}{p:Nat->Prop}{q:Nat->Bool}:∀{A:List (AV D)},AV.oks p A->AV.oks p (AV.knxs q A)
 |[],_=>trivial
 |A::As,⟨k,l⟩=>⟨AV.ok_knx k,AV.oks_knx l⟩
end
def Ent.knx(q:Nat->Bool):Ent C->Ent C
 | .cell cs =>.cell (AV.knxs q cs)
 | .row T s =>.row T s
 | .obj k T b s =>.obj k T b s
 | .orow T s g =>.orow T s g
end
variable [Dfr]
inductive Out(C:Cod) where
 |go (S:St C)
 |pan (v:AV C.D) (S:St C)
def nid(d j:Nat):Nat:=(d+1) * 64+j
def isNone{α:Type}:Uv α->Bool
 |none=>G
 |some _=>N
theorem yP(κ:Kp)(d j:Nat):κ.m<=nid d j:=by have:=κ.le;unfold nid;omega
theorem Zf{α:Type}{x:Uv α}(h:isNone x=G):x=none:=by cases x<;>first | rfl | cases h
section
variable {κ:Kp}{C:Cod}{S:St C}{ν:Val}{vs:Nat->List Value}{ids:List Nat}{L:List (Nat×Value)}{b:Nat->Value}{Z:FS}{PV:List Priv}{P:Program}
variable {t t' ty:TypeId}{x y z:Operand}{d:Nat}{ps:String}{af:Array Edge}{g:Uv (Nat×Bool)}{A:AV C.D}{n:Nat}{w0:Start}{σ0:FS}{o:Oper}{X:Uv (Out C)}
def Xx(C:Cod)(Z:FS)(u:Value)(v:AV C.D):Prop:=v.ok (λ_=>False)/\∀ν:Val,(∀i,(ν.hdr i).oneCell'=G)->VR C Z ν u v
def OpA(κ:Kp)(P:Program)(n:Nat)(w0:Start)(σ0:FS)(o:Oper)(X:Uv (Out C))(L:List (Nat×Value))(b:Nat->Value)(Z:FS)(PV:List Priv):Prop:=
 ∀out,X=E out->∀a w,Inv w0 σ0 Z PV w->Fits n L b a->∀(K:Act->World->Prop) (Q:Exit->Act->World->Prop),
  (∀S',out = .go S'->∀d c PV' a' w',Inv w0 σ0 c PV' w'->Fits n d b a'->zD κ S' d b c PV'->K a' w')->
  (∀v S',out = .pan v S'->∀u c PV' w',Inv w0 σ0 c PV' w'->zD κ S' L b c PV'->Xx C c u v->Q (.panic [{v:=u,recovered:=false}]) a w')->o.wp P a w K Q
theorem OpA.of(h:Xk P n w0 σ0 o X L b Z PV λp' d e PV'=>∀r,p'=E r->∃S',r = .go S'/\zD κ S' d b e PV'):OpA κ P n w0 σ0 o X L b Z PV:=by
 intro out f a w hi c K Q i g;refine h out f a w hi c K Q ?_;grind
omit [Dfr] in
theorem AbsL.put(h:AbsL κ S ν vs ids L b Z PV){v:Value}(c:VR C Z ν v A)(a:A.ok λid=>(S.heap id).isSome=G):AbsL κ (S.put d A) ν vs ids ((d,v)::L) b Z PV:=by
 refine⟨⟨h.nd,h.dom,h.pv,h.cell,λt=>?_,h.one⟩,λt=>?_,h.livec,h.keep⟩
 ·show VR C Z ν (look ((d,v)::L) b t) (upd S.env d A t);unfold look upd;cases I t d with
  |true=>exact c
  |false=>exact h.env t
 ·show(upd S.env d A t).ok _;unfold upd;cases I t d with
  |true=>exact a
  |false=>exact h.live t
theorem zaj (h:AbsL κ S ν vs ids L b Z PV) {op:Op}(f:O d n=G) (e:yE P S ty op=E A) (c:A.ok λid=>(S.heap id).isSome=G) :
    OpA κ P n w0 σ0 ⟨E d,op,ty,ps,af,g⟩ (E (.go (S.put d A))) L b Z PV:=
 .of ((zwh h.toAbs e).ok f rfl λv i r a=>⟨_,(W.inj a).symm,ν,vs,ids,h.put i c⟩)
def St.frz1(S:St C)(id:Nat):St C:=match S.heap id with
 |some (.row T s)=>S.sub id (.sl T s N)
 |some (.orow T s g)=>bif g.rd then S.sub id (.sl T s N) else S
 |_=>S
def St.frz(S:St C):List Nat->St C
 |[]=>S
 |id::r=>(S.frz1 id).frz r
omit [Dfr] in
theorem Abs.idx(h:Abs S ν vs ids L b Z PV){id:Nat}{e:Ent C}(a:S.heap id=E e):∃m:Nat,PV[m]?=E (zK C ν vs id (E e))/\ids[m]?=E id:=h.at a
theorem zsv(h:zD κ S L b Z PV)(id:Nat){w:World}(hi:Inv w0 σ0 Z PV w):∃j PV',Inv w0 σ0 j PV' w/\zD κ (S.frz1 id) L b j PV':=by
 unfold St.frz1;split
 ·rename_i T s hs;let⟨ν,vs,ids,h⟩:=h;let⟨m,i,hid⟩:=h.at hs;let⟨h1,d,f,a,c⟩:=hi.freeze i;have d:zn (zC C T).o T (ν.hdr id) s Z h1:=d;refine⟨_,_,c,ν,vs,_,h.sub hid a ?_ trivial rfl⟩;exact(Rv.of_vrel (d.fast a λb o v e=>Xw b o v e)).vr
 ·rename_i T s g hs;cases k:g.rd with
  |false=>grind
  |true=>
   let⟨ν,vs,ids,h⟩:=h;let⟨m,i,hid⟩:=h.at hs;let⟨h1,d,f,a,c⟩:=hi.freeze i;have d:zn (Ze C T) T (ν.hdr id) (hpl C T (ν.adr id).sub s g) Z h1:=d;refine⟨_,_,c,ν,vs,_,h.sub hid a ?_ trivial rfl⟩;exact(Rv.of_vrel (zki k (d.fast a λb o v e=>Xw b o v e))).vr
 grind
theorem zee:∀(l:List Nat) {S:St C}{Z:FS}{PV:List Priv}(h:zD κ S L b Z PV) {w:World}(hi:Inv w0 σ0 Z PV w),∃a PV',Inv w0 σ0 a PV' w/\zD κ (S.frz l) L b a PV'
 |[],S,Z,PV,h,w,hi=>⟨Z,PV,hi,h⟩
 |id::r,S,Z,PV,h,w,hi=>by
  let⟨a,PV',c,d⟩:=zsv h id hi;exact zee r d c
theorem OpA.frz(l:List Nat)(h:zD κ S L b Z PV)(k:∀c PV',zD κ (S.frz l) L b c PV'->OpA κ P n w0 σ0 o X L b c PV'):OpA κ P n w0 σ0 o X L b Z PV:=by
 intro out j a w hi e K Q i f;let⟨c,PV',d,g⟩:=zee l h hi;exact k c PV' g out j a w d e K Q i f
def zbL(S:St C)(d:Nat)(cs:List (AV C.D)):Uv (Out C):=
 chk (isNone (S.heap (nid d 0))) (E (.go {env:=upd S.env d (.pc (nid d 0) 0),heap:=upd S.heap (nid d 0) (E (.cell cs))}))
theorem AbsL.oks_op(h:AbsL κ S ν vs ids L b Z PV)(x:Operand):(S.op x).ok λid=>(S.heap id).isSome=true:=by
 cases x with
 |tmp t=>exact h.live t
 |const v=>
  have h1:∀v:Value,(ZZ v:AV C.D).ok λid=>(S.heap id).isSome=true:=by
   intro v;unfold ZZ;split<;>trivial
  have h2:∀l:List Value,AV.oks (λid=>(S.heap id).isSome=G) (l.map (ZZ (D:=C.D))):=by
   intro l
   induction l with
   |nil=>trivial
   |cons v l a=>exact⟨h1 v,a⟩
  show(zbF v:AV C.D).ok _;unfold zbF;split
  ·exact h2 _
  ·exact h1 _
 |global _=>trivial
 |func f=>trivial
theorem AV.oks_cells{D:Nat->Type}{p:Nat->Prop}:∀{A:AV D},A.ok p->AV.oks p (zt A):=by
 intro A h;cases A
 case agg cs=>exact h
 all_goals exact⟨h,trivial⟩
theorem zqF(h:AbsL κ S ν vs ids L b Z PV)(l:O d n=G)(hs:YS (S.op x)=G):OpA κ P n w0 σ0 ⟨E d,.box t x,ty,ps,af,g⟩ (zbL S d (zt (S.op x))) L b Z PV:=by
 intro out i;let⟨h0,i⟩:=zb i;have h0:=Zf h0;let⟨k,_⟩:=ZE (h.op x) hs h.one;refine(OpA.of (zqv l rfl λc r j=>⟨_,(W.inj j).symm,?_⟩):OpA κ P n w0 σ0 _ (E (.go _)) L b Z PV) out i;refine h.new h0 (yP κ d 0) (e :=.cell _) (v :=.slice F 0 0) (a:=⟨c,λ_ =>.slice F 0 0⟩) (us:=(opv L b x).cells.toList) (A :=.pc (nid d 0) 0) (λν' h1 h2=>⟨?_,by show nid d 0=nid d 0;rfl⟩) rfl rfl (λcs f=>?_) (by simp[Ent.at,Addr.add])
 ·show V (E c) = .pointer (E ((ν'.adr _).add 0));rw[h2];simp[Addr.add]
 ·cases f;exact⟨k,AV.oks_cells (h.oks_op x)⟩
theorem YT{p:Nat->Prop}:∀l:List Value,AV.oks p (l.map (ZZ (D:=C.D)))
 |[]=>trivial
 |v::l=>⟨by unfold ZZ;split<;>trivial,YT l⟩
def zqG(S:St C)(d k T:Nat):Uv (Out C):=
 chk (isNone (S.heap (nid d 0))) (E (.go {env:=upd S.env d (.pc (nid d 0) 0),heap:=upd S.heap (nid d 0) (E (.obj k T ⟨#[]⟩ ⟨[],N⟩))}))
def Xf(P:Program)(S:St C)(d:Nat)(t:TypeId):Uv (Out C):=match P.info? t with
 |some ti=>(match ti.zero with
  |some a=>(match C.oal t a.cells.toList with
   |some (k,T)=>zqG S d k T
   |none=>zbL S d (a.cells.toList.map ZZ))
  |none=>F)
 |none=>F
theorem zn4(h:AbsL κ S ν vs ids L b Z PV)(u:O d n=G):OpA κ P n w0 σ0 ⟨E d,.alloc t,ty,ps,af,g⟩ (Xf P S d t) L b Z PV:=by
 intro out f;unfold Xf at f;split at f
 ·rename_i ti hi;split at f
  ·rename_i m s;split at f
   ·rename_i k T y;let⟨h0,f⟩:=zb f;cases f;have h0:=Zf h0;intro a w o q K Q z B;have l:(execOp a.eval ⟨E d,.alloc t,ty,ps,af,g⟩).run P w = .ok (.value (.pointer (E ⟨w.heap.size,0,F⟩))) (w.alloc (.cells m.cells t (0,0))):=by
     rw[q.eval];simp[execOp,Instr.alloc,zeroValue,typeInfo,hi,s,newVar,newRow,newObj,Sem.run]
    unfold qc;rw[l,qA]
    have p:Inv w0 σ0 Z (C.opv k T (.pointer (E ⟨w.heap.size,0,F⟩)) ⟨w.heap.size,0,F⟩ ⟨#[]⟩ ⟨[],N⟩::PV) (w.alloc (.cells m.cells t (0,0))):=
     o.cons (h1:=Zb w.heap.size t m.cells) (C.oal_ok t _ k T y _ _ _ _ (.refl _)) (x7 (yY _ _)) (vx _ _ _ _) λb i hb=>by rw[(Yx hb).1];grind
    refine z _ rfl _ Z _ _ _ p (q.put (by simpa[UT] using u) _) ?_;refine h.new h0 (yP κ d 0) (e :=.obj k T ⟨#[]⟩ ⟨[],N⟩) (v :=.pointer (E ⟨w.heap.size,0,F⟩)) (a:=⟨⟨w.heap.size,0,F⟩,λ_ =>.slice F 0 0⟩) (us:=[]) (A :=.pc (nid d 0) 0) (λν' h1 h2=>⟨?_,by show nid d 0=nid d 0;rfl⟩) rfl rfl (λcs j=>by cases j) rfl;show V (E ⟨w.heap.size,0,F⟩) = .pointer (E ((ν'.adr _).add 0));rw[h2];simp[Addr.add]
   let⟨h0,f⟩:=zb f;have h0:=Zf h0;refine(OpA.of (zj9 u hi s rfl λc r x=>⟨_,(W.inj x).symm,?_⟩):OpA κ P n w0 σ0 _ (E (.go _)) L b Z PV) out f;refine h.new h0 (yP κ d 0) (e :=.cell _) (v :=.slice F 0 0) (a:=⟨c,λ_ =>.slice F 0 0⟩) (us:=m.cells.toList) (A :=.pc (nid d 0) 0) (λν' h1 h2=>⟨?_,by show nid d 0=nid d 0;rfl⟩) rfl rfl (λcs j=>?_) (by simp[Ent.at,Addr.add])
   ·show V (E c) = .pointer (E ((ν'.adr _).add 0));rw[h2];simp[Addr.add]
   ·cases j;exact⟨xK _,YT _⟩
  ·cases f
 ·cases f
theorem zbM{id k:Nat}{e:Ent C}(b:Z1 (E e)=G->Z1 (S.heap id)=G)(h:Z1 (upd S.heap id (E e) k)=G):Z1 (S.heap k)=true:=by
 by_cases a:k=id
 ·subst a;rw[zp] at h;exact b h
 ·rw[zq a] at h;exact h
theorem AbsL.setCell (h:AbsL κ S ν vs ids L b Z PV) {id m:Nat}{cs cs':List (AV C.D)}{us:List Value}(r:S.heap id=E (.cell cs)) (i:ids[m]?=E id) (u:VRs C Z ν us cs') (v:AV.oks (λid=>(S.heap id).isSome=G) cs') :
    AbsL κ {S with heap:=upd S.heap id (E (.cell cs'))} ν (upd vs id us) ids L b Z (PV.set m (.cell (ν.adr id).a us)):=by
 have g:∀j,(S.heap j).isSome=(upd S.heap id (E (.cell cs')) j).isSome:=λj=>by
  by_cases e:j=id
  ·subst e;rw[zp,r];rfl
  ·rw[zq e]
 have l:=(U5.1 i).1;have hid:=(U5.1 i).2;refine⟨⟨h.nd,λj=>?_,?_,λj c d=>?_,h.env,h.one⟩,λt=>?_,λj c d=>?_,λk n hs=>have q:=h.keep k n jE;⟨q.1,q.2.1,λo=>q.2.2 (zbM (λh=>by cases h) o)⟩⟩
 ·show _↔(upd S.heap id (E (.cell cs')) j).isSome=G;rw[<- g];exact h.dom j
 · apply UA;intro k;rw[UB,U3,h.pv,Dt];by_cases e:m=k
   ·subst e;rw[jv rfl,jv l,i,U4];show _=E (zK C ν (upd vs id us) id (upd S.heap id (E (.cell cs')) id));rw[zp];simp[zK,zp]
   · rw[jx e,U3];cases n:ids[k]? with
     |none=>rfl
     |some j=>
      have f:j≠id:=λe'=>by
       have hp:=qx.1 (U6.1 h.nd);grind
      simp only[U4];show E (zK C ν vs j (S.heap j))=E (zK C ν (upd vs id us) j (upd S.heap id (E (.cell cs')) j));rw[zq f];cases S.heap j with
      |none=>rfl
      |some s=>cases s<;>simp[zK,zq f]
 · have d:upd S.heap id (E (.cell cs')) j=_:=d;show VRs C Z ν (upd vs id us j) c;by_cases e:j=id
   ·subst e;rw[zp] at d |-;grind
   ·rw[zq e] at d |-;exact h.cell j c d
 ·exact AV.ok_mono (λj d=>jE) (h.live t)
 · have d:upd S.heap id (E (.cell cs')) j=_:=d;refine AV.oks_mono (p:=λid=>(S.heap id).isSome=G) (λj d=>jE) ?_;by_cases e:j=id
   ·subst e;rw[zp] at d;grind
   ·rw[zq e] at d;exact h.livec j c d
theorem AbsL.setRow (h:AbsL κ S ν vs ids L b Z PV) {id m T:Nat}{s s':Sl (C.D T)}(r:S.heap id=E (.row T s)) (g:ids[m]?=E id) :
    AbsL κ {S with heap:=upd S.heap id (E (.row T s'))} ν vs ids L b Z (PV.set m (.row (zC C T).o T (ν.hdr id) s')):=by
 have d:∀j,(S.heap j).isSome=(upd S.heap id (E (.row T s')) j).isSome:=λj=>by
  by_cases e:j=id
  ·subst e;rw[zp,r];rfl
  ·rw[zq e]
 have i:=(U5.1 g).1;have hid:=(U5.1 g).2;refine⟨⟨h.nd,λj=>?_,?_,λj c a=>?_,h.env,h.one⟩,λt=>?_,λj c a=>?_,λk l hs=>have q:=h.keep k l jE;⟨q.1,q.2.1,λn=>q.2.2 (zbM (λh=>by cases h) n)⟩⟩
 ·show _↔(upd S.heap id (E (.row T s')) j).isSome=G;rw[<- d];exact h.dom j
 · apply UA;intro k;rw[UB,U3,h.pv,Dt];by_cases e:m=k
   ·subst e;rw[jv rfl,jv i,g,U4];show _=E (zK C ν vs id (upd S.heap id (E (.row T s')) id));rw[zp];rfl
   · rw[jx e,U3];cases l:ids[k]? with
     |none=>rfl
     |some j=>
      have f:j≠id:=λe'=>by
       have hp:=qx.1 (U6.1 h.nd);grind
      simp only[U4];show E (zK C ν vs j (S.heap j))=E (zK C ν vs j (upd S.heap id (E (.row T s')) j));rw[zq f]
 · have a:upd S.heap id (E (.row T s')) j=_:=a;by_cases e:j=id
   ·subst e;rw[zp] at a;cases a
   ·rw[zq e] at a;exact h.cell j c a
 ·exact AV.ok_mono (λj a=>jE) (h.live t)
 · have a:upd S.heap id (E (.row T s')) j=_:=a;refine AV.oks_mono (p:=λid=>(S.heap id).isSome=G) (λj a=>jE) ?_;by_cases e:j=id
   ·subst e;rw[zp] at a;cases a
   ·rw[zq e] at a;exact h.livec j c a
end
variable [Dfr]
section
variable {ρ:Type}{n:Nat}{w0:Start}{σ0 Z:FS}{p:Uv ρ}{L:List (Nat×Value)}{b:Nat->Value}{PV:List Priv}{P:Program}
variable {H:Uv ρ->List (Nat×Value)->FS->List Priv->Prop}{d:Nat}{v:Value}{t t' ty:TypeId}{ps:String}{af:Array Edge}{g:Uv (Nat×Bool)}{x y z:Operand}{k:IntKind}{i j:Int}
theorem zbg {α:Type}{T:Ty α}{e:TypeId}{s:Sl α}{ti:TypeInfo}{q q':α}{us:List Value}{off:Nat}(m:Nat) (hm:PV[m]?=E (.row T.o e v s)) (hi':P.info? t=E ti) (B:opv L b x = .pointer (E (zi v (i.toNat * T.size+off)))) (hy:(opv L b y).cells.toList=us)
    (hs:ti.size=us.length) (h0:0 < us.length) (hone:∀u∈us,u.oneCell'=G) (hq:za s i=E q) (hoff:off+us.length<=T.size) (hr:∀cs,T.rel Z cs q->T.rel Z (cs.take off++us++cs.drop (off+us.length)) q')
    (h:H p L Z (PV.set m (.row T.o e v (s.set i q')))):Xk P n w0 σ0 ⟨F,.store t x y,ty,ps,af,g⟩ p L b Z PV H:=by
 intro r hp a w hi hf K Q hK;have key:∃w',(storeCells (zi v (i.toNat * T.size+off)) us).run P w = .ok () w'/\Inv w0 σ0 Z (PV.set m (.row T.o e v (s.set i q'))) w':=by
  have hne:us≠[]:=by intro e;subst e;simp at h0
  have S:∀hA,zn T.o e v s Z hA->hA.sub w->∃w' d,(storeCells (zi v (i.toNat * T.size+off)) us).run P w = .ok () w'/\zn T.o e v (s.set i q') Z d/\d.sub w'/\Ext w hA w'/\∀b i,(d b i).isSome->(hA b i).isSome\/w.heap.size<=b:=by
   intro hA k1 k;let⟨g1,g2,m1,m2,n1,n2,d3⟩:=(VD (v:=v) (e:=e) (i:=i) k1 hq).uncons;let⟨cs,c1,c2,p1,p2,p3,p4,p5⟩:=m2.one_of;have p5:T.rel Z cs q:=p5;have hcl:cs.length=T.size:=T.len p5;have U:T.o.size=T.size:=rfl;rw[U] at p4;have C:c1.le hA:=p1.trans n2;have hsp:=p4.1;have hadd:(zi v (i.toNat * T.size)).add off=⟨(zi v (i.toNat * T.size)).block,(zi v (i.toNat * T.size)).off+off,F⟩:=Addr.add_eq _ hsp off;have c:∀j,j < us.length->∃y,c1 (zi v (i.toNat * T.size)).block ((zi v (i.toNat * T.size)).off+off+j+1)=E (.cell y):=λj X=>
    ⟨_,by rw[(Zd:(zi v (i.toNat * T.size)).off+off+j=(zi v (i.toNat * T.size)).off+(off+j))];exact p4.2 (off+j) _ (UC Zd)⟩
   have hlt2:(zi v (i.toNat * T.size)).block < w.heap.size:=by
    let⟨y,hy⟩:=c 0 Zd;exact Bit.at_lt (k _ _ _ (C _ _ _ hy))
   let⟨w',j1,j2,j3⟩:=VC (P:=P) (k.mono C) hlt2 c hone hne;have M:∀b A,((c1.put (zi v (i.toNat * T.size)).block ((zi v (i.toNat * T.size)).off+off) us) b A).isSome->(c1 b A).isSome:=λb A B=>zc.put_dom (λj X=>by let⟨y,hy⟩:=c j X;simp[hy]) B
   have dcg:c1.disj g1:=(d3.mono (.refl _) p1).symm;have hd':∀{f:zc},c1.disj f->(c1.put (zi v (i.toNat * T.size)).block ((zi v (i.toNat * T.size)).off+off) us).disj f:=λ{f} df b A=>by
    cases B:c1.put (zi v (i.toNat * T.size)).block ((zi v (i.toNat * T.size)).off+off) us b A with
    |none=>exact .inl rfl
    |some y=>
     have:=M b A (by rw[B];rfl);rcases df b A with z | z
     ·rw[z] at this;cases this
     ·exact .inr z
   have D:Z3 (zi v (i.toNat * T.size)) (cs.take off++us++cs.drop (off+us.length)) (c1.put (zi v (i.toNat * T.size)).block ((zi v (i.toNat * T.size)).off+off) us):=by
    refine⟨hsp,λj u X=>?_⟩;rw[xu Zd rfl] at X;split at X
    ·rename_i hin;rw[(Zd:(zi v (i.toNat * T.size)).off+j+1=(zi v (i.toNat * T.size)).off+off+(j - off)+1)];exact zc.put_in X
    ·rw[zc.put_out Zd];exact p4.2 j u X
   have dg:g1.disj (c1.put (zi v (i.toNat * T.size)).block ((zi v (i.toNat * T.size)).off+off) us):=(hd' dcg).symm;refine⟨w',g1.or (c1.put (zi v (i.toNat * T.size)).block ((zi v (i.toNat * T.size)).off+off) us),?_,?_,?_,j3.mono C,λb A B =>.inl ?_⟩
   ·rw[<- Yw,hadd];exact j1
   ·exact m1 Z _ q' _ (.refl _) dg ⟨_,_,zc.none,.refl _,zc.none_le _,zc.disj_none _,D,hr cs p5⟩ (zc.le_or _ _) (zc.le_or_right dg)
   ·exact zc.or_sub (j3.frag dcg (k.mono n1)) j2
   · unfold zc.or at B;cases hx1:g1 b A with
     |some y=>exact n1.isSome (by simp[hx1])
     |none=>rw[hx1] at B;exact C.isSome (M b A (by simpa using B))
  let⟨hh,hsep,hg⟩:=hi.own;let⟨h1',h2',e1,e2,e3,e4,e5,_⟩:=hsep.pick hm;let⟨w',_,R,_⟩:=S h1' e1 (hg.sub.mono e2);refine⟨w',R,hi.change hm λg hg' hgs=>?_⟩;let⟨w'',d,l,q1,q2,q3,q4⟩:=S g hg' hgs;rw[R] at l;cases l;exact⟨d,q1,q2,q3,q4⟩
 let⟨w',hst,hi2⟩:=key;have U:(opv L b y).cells.size=us.length:=by rw[<- hy];simp
 have:(execOp a.eval ⟨F,.store t x y,ty,ps,af,g⟩).run P w = .ok .skip w':=by
  rw[hf.eval];simp only[execOp,Instr.storeAt,qW,B,storeVar,sizeOf,typeInfo,UP,UN,UR,UQ,hi',U,hs,Dc,not_true,jp,hy,hst]
 unfold qc;rw[this,Oper.upon_skip];exact hK p L Z _ _ _ hp hi2 hf h
end
section
variable {κ:Kp}{C:Cod}{S:St C}{ν:Val}{vs:Nat->List Value}{ids:List Nat}{L:List (Nat×Value)}{b:Nat->Value}{Z:FS}{PV:List Priv}{P:Program}
variable {t t' ty:TypeId}{x y z:Operand}{d:Nat}{ps:String}{af:Array Edge}{g:Uv (Nat×Bool)}{A:AV C.D}{n:Nat}{w0:Start}{σ0:FS}{o:Oper}{X:Uv (Out C)}
mutual
def AV.rows{D:Nat->Type}:AV D->List Nat
 | .row id=>[id]
 | .agg cs=>AV.rowss cs
 | .tup cs=>AV.rowss cs
 | .clo _ cs=>AV.rowss cs
 | .ifc _ A=>AV.rows A
 |_=>[]
def AV.rowss{D:Nat->Type}:List (AV D)->List Nat
 |[]=>[]
 |A::As=>AV.rows A++AV.rowss As
end
theorem zf7{τ:FS}{ν:Val}{u:Value}{A B:AV C.D}(h:VR C τ ν u A)(l:leA A B):VR C τ ν u B:=by
 rcases l with rfl | ⟨T,s,c,rfl,rfl⟩ | ⟨T,c,rfl,rfl⟩
 ·exact h
 ·exact(Rv.of_vrel (h.sl_vrel)).vr
 ·rw[show u = .slice F 0 0 from h];have:VR C τ ν (.slice F 0 0) (.sl T ⟨[],N⟩ G):=zkk;let⟨a,n,f,b,d,e⟩:=Rv.slAt (show Rv C τ _ (.sl T ⟨[],N⟩ G) from this);rw[b];exact(Rv.of_slAt d λ_=>e rfl).vr
theorem zbN{τ:FS}{ν:Val}:∀{us:List Value}{cs ds:List (AV C.D)},VRs C τ ν us cs->zfk cs ds->VRs C τ ν us ds
 |[],[],[],_,_=>trivial
 |u::us,A::cs,B::ds,⟨h,k⟩,⟨l,m⟩=>⟨zf7 h l,zbN k m⟩
 |[],[],_::_,_,l=>l.elim
 |[],_::_,_,h,_=>h.elim
 |_::_,[],_,h,_=>h.elim
 |_::_,_::_,[],_,l=>l.elim
theorem WM{τ:FS}{ν:Val}{T:Nat}{us:List Value}{cs:List (AV C.D)}{q:C.D T}(h:VRs C τ ν us cs)(b:C.imp T cs=E q):(zC C T).rel τ us q:=by
 have h2:=zbN h (C.imp_ok T cs q b);refine⟨by rw[h2.len,C.len],λj A a=>?_⟩;let⟨u,e,r⟩:=h2.get j A a;exact⟨u,e,r.rv (C.base T q A (UM a))⟩
theorem zko{D:Nat->Type}:∀{cs ds:List (AV D)},zfk cs ds->cs.length=ds.length
 |[],[],_=>rfl
 |_::cs,_::ds,⟨_,h⟩=>by simp[zko h]
 |[],_::_,h=>h.elim
 |_::_,[],h=>h.elim
end
variable [Dfr]
section
variable {ρ:Type}{n:Nat}{w0:Start}{σ0 Z:FS}{p:Uv ρ}{L:List (Nat×Value)}{b:Nat->Value}{PV PV':List Priv}{P:Program}
variable {H:Uv ρ->List (Nat×Value)->FS->List Priv->Prop}{d:Nat}{v:Value}{t ty:TypeId}{ps:String}{af:Array Edge}{g:Uv (Nat×Bool)}{x:Operand}
end
section
variable {κ:Kp}{C:Cod}{S:St C}{ν:Val}{vs:Nat->List Value}{ids:List Nat}{L:List (Nat×Value)}{b:Nat->Value}{Z:FS}{PV:List Priv}{P:Program}
variable {t t' ty:TypeId}{x y z:Operand}{d:Nat}{ps:String}{af:Array Edge}{g:Uv (Nat×Bool)}{A:AV C.D}{n:Nat}{w0:Start}{σ0:FS}{o:Oper}{X:Uv (Out C)}
def yx(P:Program)(S:St C)(t:TypeId)(x y:Operand):Uv (Out C):=
 match P.info? t,S.op x with
 |some ti,.pc id off=>(match S.heap id with
  |some (.cell cs)=>chk (YS (S.op y) && (I ti.size (zt (S.op y)).length && (qB (off+(zt (S.op y)).length) cs.length && O 0 (zt (S.op y)).length)))
      (E (.go {S with heap:=upd S.heap id (E (.cell (cs.take off++zt (S.op y)++cs.drop (off+(zt (S.op y)).length))))}))
  |_=>F)
 |some ti,.pr _ _ _ _=>go ti (S.frz (AV.rows (S.op y)))
 |_,_=>F
where
 go (ti:TypeInfo) (S:St C):Uv (Out C):=match S.op x with
  | .pr id T i off=>(match S.heap id with
   |some (.row T' s)=>chk (I T T' && (YS (S.op y) && (I ti.size (zt (S.op y)).length && (qB (off+(zt (S.op y)).length) (C.size T') && O 0 (zt (S.op y)).length))))
       ((za s i).bind λq=>(C.imp T' ((C.emb T' q).take off++zt (S.op y)++(C.emb T' q).drop (off+(zt (S.op y)).length))).bind λq'=>
         E (.go {S with heap:=upd S.heap id (E (.row T' (s.set i q')))}))
   |_=>F)
  |_=>F
theorem zqH{l:List Value}(h:∀u∈l,u.oneCell'=G):zc8 l:=by
 induction l with
 |nil=>trivial
 |cons a l c=>exact⟨h a je,c λu b=>h u (Du _ b)⟩
theorem AV.oks_append{D:Nat->Type}{p:Nat->Prop}:∀{l m:List (AV D)},AV.oks p l->AV.oks p m->AV.oks p (l++m)
 |[],_,_,h=>h
 |_::_,_,⟨a,k⟩,h=>⟨a,AV.oks_append k h⟩
theorem AV.oks_iff{D:Nat->Type}{p:Nat->Prop}:∀{l:List (AV D)},AV.oks p l↔∀A∈l,A.ok p
 |[]=>by simp[AV.oks]
 |a::l=>by simp[AV.oks,AV.oks_iff (l:=l)]
theorem AV.oks_take{D:Nat->Type}{p:Nat->Prop}{l:List (AV D)}(h:AV.oks p l)(m:Nat):AV.oks p (l.take m):=AV.oks_iff.2 λA hA=>AV.oks_iff.1 h A (List.mem_of_mem_take hA)
theorem AV.oks_drop{D:Nat->Type}{p:Nat->Prop}{l:List (AV D)}(h:AV.oks p l)(m:Nat):AV.oks p (l.drop m):=AV.oks_iff.2 λA hA=>AV.oks_iff.1 h A (List.mem_of_mem_drop hA)
theorem zn5(h:AbsL κ S ν vs ids L b Z PV):OpA κ P n w0 σ0 ⟨F,.store t x y,ty,ps,af,g⟩ (yx P S t x y) L b Z PV:=by
 intro out a;unfold yx at a;split at a
 ·rename_i ti id off hi o;have l:=h.op x;rw[o] at l;split at a
  ·rename_i cs f;let⟨u,a⟩:=zb a;simp only[gf] at u;let⟨c1,c2,c3,c4⟩:=u;let⟨p,k⟩:=ZE (h.op y) c1 h.one;let⟨m,z,hid⟩:=h.at f;have j:=h.cell id cs f;have d:=p.len;rw[<- d] at c2 c3 c4;rw[<- j.len] at c3;refine(OpA.of (ziS m hi (show opv L b x = .pointer (E _) from l) rfl (ge c2) (zqH k) z c3 rfl rfl c4 λr v=>⟨_,(W.inj v).symm,?_⟩):OpA κ P n w0 σ0 _ (E (.go _)) L b Z PV) out a;have c:=((j.take off).append p).append (j.drop (off+(opv L b y).cells.toList.length));have e:cs.drop (off+(opv L b y).cells.toList.length)=cs.drop (off+(zt (S.op y)).length):=by rw[d]
   rw[e] at c;have:=h.setCell (cs':=cs.take off++zt (S.op y)++cs.drop (off+(zt (S.op y)).length)) f hid c (AV.oks_append (AV.oks_append (AV.oks_take (h.livec id cs f) _) (AV.oks_cells (h.oks_op y))) (AV.oks_drop (h.livec id cs f) _));exact⟨ν,_,ids,this⟩
  ·cases a
 ·rename_i ti H i2 i3 i4 hi o;refine OpA.frz (AV.rows (S.op y)) ⟨ν,vs,ids,h⟩ (λB PV' A=>?_) out a;clear a o h;generalize S.frz (AV.rows (S.op y))=S at A |-
  let⟨ν,vs,ids,h⟩:=A;intro out a;unfold yx.go at a;have l:=h.op x;split at a
  ·rename_i id T i off o;rw[o] at l;split at a
   ·rename_i T' s hs;let⟨u,a⟩:=zb a;simp only[gf] at u;let⟨c0,c1,c2,c3,c4⟩:=u;obtain rfl:=ge c0;let⟨q,D,a⟩:=gd a;let⟨q',w,a⟩:=gd a;let⟨p,k⟩:=ZE (h.op y) c1 h.one;let⟨m,z,hid⟩:=h.at hs;have d:=p.len;rw[<- d] at c2 c3 c4;refine(OpA.of (zbg (T:=zC C T) (q:=q) (q':=q') m z hi (show opv L b x = .pointer (E _) from l) rfl (ge c2) (by simpa[UT] using c4) k D (UZ c3) (λcs f=>?_) λr v=>⟨_,(W.inj v).symm,?_⟩):OpA κ P n w0 σ0 _ (E (.go _)) L b B PV') out a
    ·have j:=zbH (ν:=ν) f;have c:=((j.take off).append p).append (j.drop (off+(opv L b y).cells.toList.length));have e:(C.emb T q).drop (off+(opv L b y).cells.toList.length)=(C.emb T q).drop (off+(zt (S.op y)).length):=by rw[d]
     rw[e] at c;exact WM c w
    ·exact⟨ν,vs,ids,h.setRow hs hid⟩
   ·cases a
  ·cases a
 ·cases a
theorem AbsL.newRow (h:AbsL κ S ν vs ids L b Z PV) {id T:Nat}(h0:S.heap id=F) (h64:κ.m<=id) {s:Sl (C.D T)}{v:Value}(c:v.oneCell'=G) :
    zD κ {env:=upd S.env d (.row id),heap:=upd S.heap id (E (.row T s))} ((d,v)::L) b Z (.row (zC C T).o T v s::PV):=
 h.new h0 h64 (e :=.row T s) (v:=v) (a:=default) (us:=[]) (A :=.row id) (λν' h1 h2=>⟨by show v=ν'.hdr id;rw[h1];rfl,by show id=id;rfl⟩) c rfl (λcs f=>by cases f) rfl
theorem wr{T:Nat}{s:Sl (C.D T)}{v:Value}{PV:List Priv}{w:World}(hi:Inv w0 σ0 Z (.row (zC C T).o T v s::PV) w):v.oneCell'=true:=by
 let⟨b,a,_⟩:=hi.held.get (m:=0) rfl;obtain⟨q,c,rfl,_⟩:=zn.form a;rfl
theorem OpA.of2(h:Xk P n w0 σ0 o X L b Z PV λp' f d PV'=>(∃w,Inv w0 σ0 d PV' w)->∀r,p'=E r->∃S',r = .go S'/\zD κ S' f b d PV'):OpA κ P n w0 σ0 o X L b Z PV:=by
 intro out k a w hi g K Q m l;refine h out k a w hi g K Q ?_;intro p' f d PV' a' w' hp c i j;let⟨S',e,hA⟩:=j ⟨w',c⟩ out hp;grind
def zdh:Operand->Operand->Bool
 | .tmp a,.tmp b=>I a b
 | .const (.int .i64 a),.const (.int .i64 b)=>decide (a=b)
 |_,_=>N
theorem zin:∀{x y:Operand},zdh x y=G->x=y:=by
 intro x y h;unfold zdh at h;split at h
 ·rw[ge h]
 all_goals grind
def w9(P:Program)(S:St C)(d:Nat)(t:TypeId)(x y:Operand):Uv (Out C):=
 match P.underlying t with
 |some (.slice e)=>(match P.info? e with
  |some ti=>(match ti.zero,S.op x with
   |some a,.int _ i=>chk (zdh x y && (I ti.size (C.size e) && (O 0 (C.size e) && isNone (S.heap (nid d 0)))))
       ((C.imp e (a.cells.toList.map ZZ)).bind λq=>(xM ti.bytes i q).bind λs=>E (.go {env:=upd S.env d (.row (nid d 0)),heap:=upd S.heap (nid d 0) (E (.row e s))}))
   |_,_=>F)
  |none=>F)
 |_=>F
theorem zqI(h:AbsL κ S ν vs ids L b Z PV)(B:O d n=G):OpA κ P n w0 σ0 ⟨E d,.makeSlice t x y,ty,ps,af,g⟩ (w9 P S d t x y) L b Z PV:=by
 intro out a;unfold w9 at a;split at a
 ·rename_i e A;split at a
  ·rename_i ti hi;split at a
   ·rename_i H k i p D;have f:=h.op x;rw[D] at f;let⟨m,j⟩:=zb a;simp only[gf] at m;let⟨c0,c1,c2,c3⟩:=m;have h0:=Zf c3;obtain rfl:=zin c0;let⟨q,u,c⟩:=gd j;refine(OpA.of2 (zmV (T:=(zC C e).o) (q:=q) B A hi p (ge c1) c2 f.int_inv f.int_inv (λτ=>WM (τ:=τ) (ν:=ν) (xK _) u) λs v hs l r z=>⟨_,(W.inj z).symm,?_⟩):OpA κ P n w0 σ0 _ ((xM ti.bytes i q).bind λs=>E (.go _)) L b Z PV) out c;let⟨w,l⟩:=l;exact h.newRow h0 (yP κ d 0) (wr l)
   ·cases a
  ·cases a
 ·cases a
end
variable [Dfr]
section
variable {κ:Kp}{C:Cod}{S:St C}{ν:Val}{vs:Nat->List Value}{ids:List Nat}{L:List (Nat×Value)}{b:Nat->Value}{Z:FS}{PV:List Priv}{P:Program}
variable {t t' ty:TypeId}{x y z:Operand}{d:Nat}{ps:String}{af:Array Edge}{g:Uv (Nat×Bool)}{A:AV C.D}{n:Nat}{w0:Start}{σ0:FS}{o:Oper}{X:Uv (Out C)}
def Yz(S:St C)(e:Nat):List Operand->Uv (List (C.D e))
 |[]=>E []
 |x::r=>chk (YS (S.op x)) ((C.imp e (zt (S.op x))).bind λq=>(Yz S e r).bind λqs=>E (q::qs))
theorem zdi(h:AbsL κ S ν vs ids L b Z PV){e:Nat}:∀{l:List Operand}{xs:List (C.D e)},Yz S e l=E xs->(zC C e).rels Z (Yg (l.map (opv L b))) xs/\l.length=xs.length/\∀v∈l.map (opv L b),v.cells.size=C.size e
 |[],xs,a=>by simp only[Yz] at a;cases a;exact⟨rfl,rfl,je⟩
 |x::r,xs,a=>by
  simp only[Yz] at a;let⟨hs,a⟩:=zb a;let⟨q,g,a⟩:=gd a;obtain⟨qs,c,a⟩:=gd a;cases a;let⟨h1,h2,j⟩:=zdi h c;have i:=(ZE (h.op x) hs h.one).1;have d:=WM i g;refine⟨⟨(opv L b x).cells.toList,_,by simp[Yg],d,h1⟩,by simp[h2],λv f=>?_⟩;rcases UU.1 f with rfl | f
  ·have:=d.1;grind
  grind
def zef:List (Nat×Operand)->Nat->Bool
 |[],_=>G
 |(i,_)::r,k=>I i k && zef r (k+1)
theorem zbO:∀{l:List (Nat×Operand)}{k:Nat},zef l k=G->(l.map λq=>(q.1,opv L b q.2))=zbD k ((l.map (·.2)).map (opv L b))
 |[],_,_=>rfl
 |(i,x)::r,k,h=>by
  simp only[zef,gf] at h;obtain rfl:=ge h.1;simp[zbD,zbO h.2]
def Y6(P:Program)(S0:St C)(d:Nat)(t:TypeId)(m:Nat)(parts:List (Nat×Operand)):Uv (Out C):=
 go (S0.frz (AV.rowss (parts.map λq=>S0.op q.2)))
where
 go (S:St C):Uv (Out C):=match P.underlying t with
  |some (.slice e)=>(match P.info? e with
   |some ti=>(match ti.zero with
    |some zv=>chk (I ti.size (C.size e) && (O 0 (C.size e) && (qB (m * C.size e) 16777216 && (I parts.length m && (zef parts 0 && isNone (S.heap (nid d 0)))))))
        ((Yz S e (parts.map (·.2))).bind λxs=>E (.go {env:=upd S.env d (.row (nid d 0)),heap:=upd S.heap (nid d 0) (E (.row e ⟨xs,G⟩))}))
    |none=>F)
   |none=>F)
  |_=>F
theorem zmx(h:AbsL κ S ν vs ids L b Z PV)(hn:O d n=G){m:Nat}{parts:Array (Nat×Operand)}:OpA κ P n w0 σ0 ⟨E d,.buildSlice t m parts,ty,ps,af,g⟩ (Y6 P S d t m parts.toList) L b Z PV:=by
 unfold Y6;refine OpA.frz (AV.rowss (parts.toList.map λq=>S.op q.2)) ⟨ν,vs,ids,h⟩ λZ' PV' h'=>?_
 clear h;generalize S.frz _=S at h' |-
 let⟨ν,vs,ids,h⟩:=h';intro out hX;unfold Y6.go at hX;split at hX
 ·rename_i e hu;split at hX
  ·rename_i ti hi;split at hX
   ·rename_i zv hz;let⟨hc,hX2⟩:=zb hX;simp only[gf] at hc;let⟨c1,c2,c3,c4,c5,c6⟩:=hc;have h0:=Zf c6;let⟨xs,hxs,hX3⟩:=gd hX2;let⟨r1,r2,r3⟩:=zdi h hxs;have hlen:((parts.toList.map (·.2)).map (opv L b)).length=m:=by
     have:=ge c4;grind
    refine(OpA.of2 (vK (T:=(zC C e).o) (vs:=(parts.toList.map (·.2)).map (opv L b)) (xs:=xs) [] PV' hn hu hi hz (ge c1) c3 c2 (zbO c5) hlen (λhh _=>⟨zc.none,zc.none_le _,Ty.rels_o.2 r1,by grind,r3⟩) λv hw r hr=>⟨_,(W.inj hr).symm,?_⟩):OpA κ P n w0 σ0 _ (E (.go _)) L b Z' PV') out hX3;let⟨w,hw⟩:=hw;exact h.newRow h0 (yP κ d 0) (wr hw)
   ·cases hX
  ·cases hX
 ·cases hX
theorem AbsL.front (h:AbsL κ S ν vs ids L b Z PV) {id m:Nat}{pv:Priv}(d:ids[m]?=E id) (hp:PV[m]?=E pv) :
    AbsL κ S ν vs (id::ids.eraseIdx m) L b Z (pv::PV.eraseIdx m)/\∀w,Inv w0 σ0 Z PV w->Inv w0 σ0 Z (pv::PV.eraseIdx m) w:=by
 have a:∀j,j∈id::ids.eraseIdx m↔j∈ids:=by
  intro j;let⟨f,hid⟩:=U5.1 d;rw[UU,qI];constructor
  ·grind
  ·intro c;obtain⟨i,hi,rfl⟩:=qS c;grind
 refine⟨⟨⟨?_,λj=>?_,?_,h.cell,h.env,h.one⟩,h.live,h.livec,h.keep⟩,λw hi=>hi.sub_own λr k=>?_⟩
 ·have hp:=qx.1 (U6.1 h.nd);let⟨f,hid⟩:=U5.1 d;refine U7.2 ⟨λc=>?_,List.Nodup.sublist (qU _ _) h.nd⟩;let⟨i,hi,l,e⟩:=qI.1 c;grind
 ·rw[a];exact h.dom j
 · have:pv=zK C ν vs id (S.heap id):=by
     rw[h.pv,U3,d,U4] at hp;grind
   rw[U8,<- VF,<- h.pv,this]
 ·let⟨h1,h2,n,o,g,q,p,_⟩:=k.pick hp;exact .cons n p o g q
theorem OpA.pv{PV':List Priv}(hi:∀w,Inv w0 σ0 Z PV w->Inv w0 σ0 Z PV' w)(h:OpA κ P n w0 σ0 o X L b Z PV'):OpA κ P n w0 σ0 o X L b Z PV:=
 λout d a w c=>h out d a w (hi w c)
theorem AbsL.renew {id:Nat}{pv:Priv}(h:AbsL κ S ν vs (id::ids) L b Z (pv::PV)) {id' T:Nat}(h0:S.heap id'=F) (h64:κ.m<=id') {s:Sl (C.D T)}{v:Value}(a:v.oneCell'=G) :
    zD κ {env:=upd (S.sub id .und).env d (.row id'),heap:=upd (S.sub id .und).heap id' (E (.row T s))} ((d,v)::L) b Z (.row (zC C T).o T v s::PV):=by
 have h1:=h.sub (id:=id) (m:=0) (R :=.und) rfl (FS.le.refl Z) trivial trivial rfl;refine h1.newRow ?_ h64 a;show(bif I id' id then F else(S.heap id').map _)=F;grind
def wu{T T':Nat}(s:Sl (C.D T')):Uv (List (C.D T)):=if h:T'=T then E (h ▸ s.xs) else F
def zbP(S:St C)(T:Nat):AV C.D->Uv (List (C.D T))
 | .sl _ s _=>wu s
 | .row id=>match S.heap id with
  |some (.row _ s)=>wu s
  |_=>F
 | .nils=>E []
 |_=>F
theorem zmX (h:AbsL κ S ν vs ids L b Z PV) {T:Nat}{ts:List (C.D T)}(hs:zbP S T (S.op y)=E ts) (w:World) (g:Y5 Z PV w) :
    ∃gA a,gA.le zc.none/\(zC C T).o.rels Z gA a ts/\vy w (opv L b y) ts.length a:=by
 have d:=h.op y;unfold zbP at hs;split at hs
 · rename_i T' s c e;rw[e] at d;unfold wu at hs;split at hs
   ·rename_i f;subst f;cases hs;let⟨gA,a,h1,h2,k⟩:=ziT (A:=[]) d.sl_vrel w zc.none g Sep.nil (λ_ _ _ e=>by cases e);grind
   ·cases hs
 · rename_i id e;rw[e] at d;split at hs
   · rename_i T' s j;unfold wu at hs;split at hs
     ·rename_i f;subst f;cases hs;let⟨m,i,_⟩:=h.at j;rw[show opv L b y=ν.hdr id from d];let⟨gA,a,h1,h2,k⟩:=znT (A:=[]) m i w zc.none g Sep.nil (λ_ _ _ e=>by cases e);grind
     ·cases hs
   ·cases hs
 ·rename_i e;rw[e] at d;cases hs;rw[show opv L b y = .slice F 0 0 from d];exact⟨zc.none,[],zc.none_le _,OTy.rels_nil,.inl ⟨rfl,rfl,rfl⟩⟩
 ·cases hs
def Ya(P:Program)(S:St C)(d:Nat)(t:TypeId)(x y:Operand):Uv (Out C):=
 match P.underlying t with
 |some (.slice e)=>(match P.info? e with
  |some ti=>(match ti.zero with
   |some a=>chk (I ti.size (C.size e) && (O 0 (C.size e) && (I a.cells.size (C.size e) && isNone (S.heap (nid d 0)))))
       (match S.op x with
       | .row id=>(match S.heap id with
        |some (.row T s)=>chk (I T e) ((zbP S T (S.op y)).bind λts=>(zo ti.bytes s ts).bind λs'=>
            E (.go {env:=upd (S.sub id .und).env d (.row (nid d 0)),heap:=upd (S.sub id .und).heap (nid d 0) (E (.row T s'))}))
        |_=>F)
       | .nils=>(zbP S e (S.op y)).bind λts=>(zo ti.bytes ⟨[],N⟩ ts).bind λs'=>
             E (.go {env:=upd S.env d (.row (nid d 0)),heap:=upd S.heap (nid d 0) (E (.row e s'))})
       |_=>F)
   |none=>F)
  |none=>F)
 |_=>F
theorem ze0(h:AbsL κ S ν vs ids L b Z PV)(hn:O d n=G):OpA κ P n w0 σ0 ⟨E d,.call {callee :=.builtin .append,args:= #[x,y],argTypes:= #[t,t]},ty,ps,af,g⟩ (Ya P S d t x y) L b Z PV:=by
 intro out j;unfold Ya at j;split at j
 ·rename_i e U;split at j
  ·rename_i ti hi;split at j
   ·rename_i zv R;let⟨hc,a⟩:=zb j;simp only[gf] at hc;let⟨c1,c2,c3,c4⟩:=hc;have h0:=Zf c4;have z:=h.op x;split at a
    ·rename_i id B;rw[B] at z;split at a
     ·rename_i T s hs;let⟨hT,D⟩:=zb a;obtain rfl:=ge hT;let⟨ts,p,q⟩:=gd D;let⟨m,hm,hid⟩:=h.at hs;let⟨hf,i⟩:=h.front (w0:=w0) (σ0:=σ0) hid hm;refine OpA.pv i ?_ out q;refine OpA.of2 (zag (T:=(zC C T).o) (s:=s) (ts:=ts) (v:=ν.hdr id) (u:=opv L b y) [] (PV.eraseIdx m) hn U hi R (ge c3) (ge c1) c2 z rfl (λw X c _ _=>?_) λs' v' M c r H=>⟨_,(W.inj H).symm,?_⟩)
      ·let⟨gA,f,Q,K,A⟩:=zmX hf p w c;exact⟨gA,f,Q.trans (zc.none_le _),K,A⟩
      ·let⟨w,c⟩:=c;exact hf.renew h0 (yP κ d 0) (wr c)
     ·cases a
    ·rename_i B;rw[B] at z;let⟨ts,p,q⟩:=gd a;have i:∀w,Inv w0 σ0 Z PV w->Inv w0 σ0 Z (.row (zC C e).o e (.slice F 0 0) ⟨[],N⟩::PV) w:=λw hi=>hi.sub_own λX k =>.cons (h1:=zc.none) (.inl ⟨rfl,rfl⟩) k (zc.none_le _) (.refl _) (zc.none_disj _)
     refine OpA.pv i ?_ out q;refine OpA.of2 (zag (T:=(zC C e).o) (s:=⟨[],N⟩) (ts:=ts) (v :=.slice F 0 0) (u:=opv L b y) [] PV hn U hi R (ge c3) (ge c1) c2 z rfl (λw X c _ _=>?_) λs' v' M c r H=>⟨_,(W.inj H).symm,?_⟩)
     ·let⟨gA,f,Q,K,A⟩:=zmX h p w ⟨c.1,by
       let⟨hh,k,l⟩:=c.2;let⟨_,h2,_,q2,_,q4,_⟩:=Sep.uncons k
       exact⟨h2,q2,l.mono q4⟩⟩
      exact⟨gA,f,Q.trans (zc.none_le _),K,A⟩
     ·let⟨w,c⟩:=c;exact h.newRow h0 (yP κ d 0) (wr c)
    ·cases a
   ·cases j
  ·cases j
 ·cases j
end
variable [Dfr]
section
variable {κ:Kp}{C:Cod}{S:St C}{ν:Val}{vs:Nat->List Value}{ids:List Nat}{L:List (Nat×Value)}{b:Nat->Value}{Z:FS}{PV:List Priv}{P:Program}
variable {t t' ty:TypeId}{x y z:Operand}{d:Nat}{ps:String}{af:Array Edge}{g:Uv (Nat×Bool)}{A:AV C.D}{n:Nat}{w0:Start}{σ0:FS}{o:Oper}{X:Uv (Out C)}
theorem zmY{p:Nat->Prop}{agg:Bool}{cs:List (AV C.D)}(h:AV.oks p cs):(zbE agg cs).ok p:=by
 unfold zbE;cases agg with
 |true=>exact h
 |false=>
  match cs,h with
  |[],_=>trivial
  |[c],h=>exact h.1
  |_::_::_,_=>trivial
theorem WN{p:Nat->Prop}{cs:List (AV C.D)}{off:Nat}(hp:Yy P t cs off=E A)(h:AV.oks p cs):A.ok p:=by
 obtain⟨a,ti,_,_,_,_,rfl⟩:=zai hp;exact zmY (AV.oks_take (AV.oks_drop h _) _)
theorem Vo{p:Nat->Prop}:∀{A:AV C.D},A.base=G->A.ok p
 | .int _ _,_=>trivial
 | .bool _,_=>trivial
 | .str _,_=>trivial
 | .sl _ _ _,_=>trivial
 | .pz _ _ _,_=>trivial
 | .pnil,_=>trivial
 | .nilf,_=>trivial
 | .nili,_=>trivial
 | .clo f [],_=>trivial
 | .ifc t A,h=>Vo (A:=A) h
theorem zbh{p:Nat->Prop}{T:Nat}{q:C.D T}:AV.oks p (C.emb T q):=AV.oks_iff.2 λA hA=>Vo (C.base T q A hA)
theorem zhl{p:Nat->Prop}(h:A.ok p):(zdb P ty A).ok p:=h
theorem zsw{p:Nat->Prop}{q:Bool}{A B R:AV C.D}(h:zf5 q A B=E R)(hA:A.ok p):R.ok p:=by
 unfold zf5 at h;split at h
 ·let⟨_,h2⟩:=zb h;cases h2;trivial
 ·cases h;trivial
 ·cases h;trivial
 ·split at h
  ·cases h;trivial
  ·cases h
 ·grind
 ·grind
 ·let⟨_,h2⟩:=zb h;grind
 ·let⟨_,h2⟩:=zb h;grind
 ·cases h
theorem zwi{p:Nat->Prop}{q:Bool}{A B R:AV C.D}(h:zf6 q A B=E R)(hA:A.ok p)(a:B.ok p):R.ok p:=by
 unfold zf6 at h;split at h
 ·rename_i e;cases h;exact zsw e hA
 grind
theorem zfn{p:Nat->Prop}{a:List (Nat×Nat)}:∀{ps:List (Nat×AV C.D)}{cs r:List (AV C.D)},vX a cs ps=E r->AV.oks p cs->(∀q∈ps,q.2.ok p)->AV.oks p r
 |[],cs,r,h,k,_=>by simp only[vX] at h;grind
 |(i,c)::ps,cs,r,h,k,l=>by
  simp only[vX] at h;split at h
  ·cases h
  ·let⟨_,h⟩:=zb h;exact zfn h (AV.oks_append (AV.oks_append (AV.oks_take k _) (AV.oks_cells (l (i,c) je))) (AV.oks_drop k _)) λq b=>l q (Du _ b)
theorem YA{α:Type}{id T:Nat}{i:Int}{K:(U:Nat)->Sl (C.D U)->Uv α}{a:α}(h:zM S id T i K=E a):∃U u,K U u=E a:=by
 unfold zM at h;split at h
 ·let⟨_,h⟩:=zb h;let⟨q,b,h⟩:=gd h;grind
 ·cases h
theorem zsx{p:Nat->Prop}{T id:Nat}{q:C.D T}{i:Int}(h:p id):AV.oks p (zfl C T q id i):=AV.oks_iff.2 λA hA=>by
 unfold zfl at hA;rcases Dv hA with h1 | h1
 ·exact Vo (C.base T q A h1)
 ·rw[h1];exact h
theorem zak(h:AbsL κ S ν vs ids L b Z PV){op:Op}(a:yE P S ty op=E A):A.ok λid=>(S.heap id).isSome=true:=by
 unfold yE at a;split at a
 ·cases a;exact zhl (h.oks_op _)
 ·cases a;exact zhl (h.oks_op _)
 ·split at a
  ·rename_i q _;exact zwi a (h.oks_op _) (h.oks_op _)
  ·cases a
 ·rename_i x;have d:=h.oks_op x;grind
 ·rename_i bo t x y _;have key:∀{A},wA P t bo (S.op x) (S.op y)=E A->A.ok λid=>(S.heap id).isSome=true:=by
   intro A c;have f:∀{r:Bool} {A:AV C.D},wA.evPtr P t bo r=E A->A.ok λid=>(S.heap id).isSome=true:=by
    intro r A c;unfold wA.evPtr at c;split at c<;>cases c<;>trivial
   unfold wA at c;split at c
   ·let⟨_,c⟩:=zb c;unfold zea at c;split at c<;>first | (cases c;done) | (cases c;trivial) | (let⟨_,_,c⟩:=gd c;cases c;trivial)
   ·split at c<;>first | (cases c;done) | (cases c;trivial) | (let⟨_,n⟩:=zb c;cases n;trivial)
   ·split at c<;>cases c<;>trivial
   ·split at c<;>cases c<;>trivial
   ·split at c<;>cases c<;>trivial
   ·exact f c
   ·exact f c
   ·exact f c
   ·exact f c
   ·exact f c
   ·split at c
    ·let⟨_,c⟩:=zb c;let⟨_,_,c⟩:=gd c;cases c;trivial
    ·let⟨_,c⟩:=zb c;let⟨_,_,c⟩:=gd c;cases c;trivial
    ·cases c
   ·cases c
  unfold x9 at a;cases w:Ye y with
  |true=>
   rw[w,Dq] at a;split at a<;>first | (cases a;done) | (cases a;trivial)
  |false=>
  rw[w,U0] at a;unfold wq at a;split at a
  ·split at a
   ·split at a<;>cases a<;>trivial
   ·split at a<;>cases a<;>trivial
   ·cases a
  ·split at a
   ·let⟨U,u,a⟩:=YA a;split at a<;>cases a<;>trivial
   ·cases a
  grind
 ·rename_i t x;split at a
  ·cases a
  ·cases a;exact h.oks_op x
  ·cases a
 ·rename_i x _ t ok;unfold zbK at a;split at a
  ·cases a
  ·split at a
   ·rename_i t' B e;let⟨_,a⟩:=zb a;cases a;have:=h.oks_op x;rw[e] at this;exact⟨this,trivial,trivial⟩
   ·rename_i t' B e;let⟨_,a⟩:=zb a;cases a;have:=h.oks_op x;rw[e] at this;exact this
   ·split at a
    ·rename_i M _;cases a;refine⟨?_,trivial,trivial⟩;unfold zbF;split
     ·exact YT _
     ·exact(YT [_]).1
    ·cases a
   ·cases a
  ·cases a
 ·split at a<;>cases a;trivial
 ·split at a<;>cases a;trivial
 ·split at a<;>cases a;trivial
 ·unfold zbf at a;have ops:∀l:List Operand,AV.oks (λid=>(S.heap id).isSome=G) (l.map S.op):=λl=>AV.oks_iff.2 λA hA=>by
   obtain⟨x,_,rfl⟩:=Dw.1 hA;exact h.oks_op x
  split at a
  ·let⟨_,a⟩:=zb a;cases a;exact ops _
  ·split at a
   ·cases a;exact⟨ops _,trivial⟩
   ·cases a
 ·rename_i x i;have d:=h.oks_op x;split at a
  ·rename_i us e;rw[e] at d;let⟨B,K,a⟩:=gd a;cases a;exact zhl (AV.oks_iff.1 (show AV.oks _ us from d) B (UM K))
  ·cases a
 ·unfold WL at a;split at a
  ·split at a
   ·let⟨cs,j,a⟩:=gd a;cases a;exact zfn j (YT _) λq g=>by
     obtain⟨z,_,rfl⟩:=Dw.1 g;exact h.oks_op z.2
   ·cases a
  ·split at a
   ·let⟨cs,j,a⟩:=gd a;cases a;exact zfn j (YT _) λq g=>by
     obtain⟨z,_,rfl⟩:=Dw.1 g;exact h.oks_op z.2
   ·cases a
  ·cases a
 ·rename_i t x m;have d:=h.oks_op x;unfold zed at a;split at a
  ·rename_i fs cs _ e;rw[e] at d;split at a
   ·exact WN a d
   ·cases a
  ·cases a
 ·rename_i t x m;have d:=h.oks_op x;unfold zeb at a;split at a
  ·split at a
   ·split at a
    ·let⟨_,a⟩:=zb a;split at a<;>first | (cases a;done) | (rename_i e;rw[e] at d;cases a;exact d)
    ·cases a
   ·cases a
  ·cases a
 ·rename_i t x y;have d:=h.oks_op x;unfold XR at a;split at a
  ·split at a
   ·split at a
    ·let⟨_,a⟩:=zb a;let⟨_,_,a⟩:=gd a;cases a;trivial
    ·rename_i e _;rw[e] at d;split at a
     ·let⟨_,a⟩:=zb a;let⟨_,_,a⟩:=gd a;cases a;exact d
     ·let⟨_,a⟩:=zb a;let⟨_,_,a⟩:=gd a;cases a;exact d
     ·cases a
    ·rename_i e _;rw[e] at d;let⟨U,u,a⟩:=YA a;let⟨_,a⟩:=zb a;let⟨_,_,a⟩:=gd a;cases a;exact d
    ·rename_i e _;rw[e] at d;let⟨U,u,a⟩:=YA a;let⟨_,a⟩:=zb a;let⟨_,_,a⟩:=gd a;let⟨_,_,a⟩:=gd a;cases a;exact d
    ·cases a
   ·cases a
  ·split at a
   ·split at a
    ·rename_i e _;rw[e] at d;let⟨_,a⟩:=zb a;obtain⟨_,_,_,rfl⟩:=zhk a;exact d
    ·cases a
   ·cases a
  ·cases a
 ·rename_i t x;unfold x8 at a;split at a
  ·split at a
   ·rename_i cs o;exact WN a (h.livec _ cs o)
   ·cases a
  ·exact WN a zbh
  ·split at a
   ·let⟨_,a⟩:=zb a;let⟨_,_,a⟩:=gd a;exact WN a zbh
   ·rename_i hs;let⟨_,a⟩:=zb a;let⟨_,_,a⟩:=gd a;exact WN a (zsx (by rw[hs];rfl))
   ·cases a
  ·let⟨U,u,a⟩:=YA a;let⟨_,a⟩:=zb a;let⟨_,_,a⟩:=gd a;exact WN a zbh
  ·cases a
 ·unfold zbd at a;split at a
  ·let⟨_,_,a⟩:=gd a;cases a;trivial
  ·split at a
   ·let⟨_,v⟩:=zb a;rcases zss (p:=λid=>(S.heap id).isSome=G) v with⟨s,rfl⟩ | ⟨k,m,rfl⟩<;>trivial
   ·cases a
  ·cases a
 ·unfold Ys at a;split at a
  ·split at a
   ·let⟨_,_,a⟩:=gd a;cases a;trivial
   ·cases a
  ·split at a
   ·let⟨_,a⟩:=zb a;let⟨_,_,a⟩:=gd a;cases a;trivial
   ·cases a
  ·rename_i e;split at a
   ·let⟨U,u,a⟩:=YA a;split at a
    ·let⟨_,a⟩:=zb a;let⟨_,_,a⟩:=gd a;cases a;have H:∀x A,S.op x=A->A.ok λid=>(S.heap id).isSome=true:=λx A hA=>hA ▸ h.oks_op x
     exact(show AV.ok _ (AV.nx _ _ _ NX.whole) from H _ _ e)
    ·cases a
   ·cases a
  ·cases a
 ·split at a
  ·unfold w8 at a;split at a
   ·cases a;trivial
   ·cases a;trivial
   ·cases a;trivial
   ·split at a<;>cases a<;>trivial
   ·let⟨U,u,a⟩:=YA a;cases a;trivial
   ·let⟨U,u,a⟩:=YA a;let⟨_,a⟩:=zb a;let⟨_,_,a⟩:=gd a;cases a;trivial
   ·cases a
  ·cases a
 ·split at a
  ·split at a
   ·let⟨_,a⟩:=zb a;cases a;trivial
   ·cases a
  ·cases a
 ·split at a
  ·split at a
   ·let⟨_,a⟩:=zb a;cases a;trivial
   ·cases a
  ·cases a
 ·cases a
def Yb(P:Program)(S:St C)(d:Nat)(t:TypeId)(x:Operand)(hi:Uv Operand):Uv (Out C):=
 match P.underlying t with
 |some (.slice e)=>(match P.info? e with
  |some ti=>(match S.op x with
   | .row id=>(match S.heap id with
    |some (.row T s)=>chk (I ti.size (C.size T) && isNone (S.heap (nid d 0))) (match Zn S s.len hi with
     |some j=>(z8 s 0 j).bind λs'=>E (.go {env:=upd (S.sub id .und).env d (.row (nid d 0)),heap:=upd (S.sub id .und).heap (nid d 0) (E (.row T s'))})
     |none=>F)
    |_=>F)
   |_=>F)
  |none=>F)
 |_=>F
theorem zmy(h:AbsL κ S ν vs ids L b Z PV)(H:O d n=G){hi:Uv Operand}:OpA κ P n w0 σ0 ⟨E d,.slice t x F hi F,ty,ps,af,g⟩ (Yb P S d t x hi) L b Z PV:=by
 intro out a;unfold Yb at a;split at a
 ·rename_i e y;split at a
  ·rename_i ti i;have p:=h.op x;split at a
   ·rename_i id K;rw[K] at p;split at a
    ·rename_i T s hs;let⟨k,c⟩:=zb a;simp only[gf] at k;have u:ti.size=(zC C T).o.size:=ge k.1;have h0:=Zf k.2;let⟨m,D,hid⟩:=h.at hs;split at c
     ·rename_i j A;let⟨q,f⟩:=h.front (w0:=w0) (σ0:=σ0) hid D;refine OpA.pv f ?_ out c;refine OpA.of2 (zkd (T:=(zC C T).o) (s:=s) (e':=T) (v:=ν.hdr id) 0 H y i u p rfl rfl (xO h.toAbs A) λs' M B l r z=>⟨_,(W.inj z).symm,?_⟩);let⟨w,l⟩:=l;exact q.renew h0 (yP κ d 0) (wr l)
     ·cases c
    ·cases a
   ·cases a
  ·cases a
 ·cases a
end
section
variable {P:Program}{w0:Start}{σ0 Z:FS}{PV:List Priv}{w:World}{n:Nat}{L:List (Nat×Value)}{b:Nat->Value}{ρ:Type}{p:Uv ρ}
variable {H:Uv ρ->List (Nat×Value)->FS->List Priv->Prop}{d:Nat}{v:Value}{mt kt et ty:TypeId}{ps:String}{af:Array Edge}{g:Uv (Nat×Bool)}{x y z:Operand}
variable [Dfr]
theorem zn6(l:O d n=G)(h:∀r,H p ((d,.map (E r))::L) Z (.mp (.map (E r)) []::PV)):Xk P n w0 σ0 ⟨E d,.makeMap mt F,ty,ps,af,g⟩ p L b Z PV H:=by
 intro r hp a w hi c K Q q;unfold qc;have f:(execOp a.eval ⟨E d,.makeMap mt F,ty,ps,af,g⟩).run P w = .ok (.value (.map (E w.heap.size))) (w.alloc (.map #[] 0)):=by
  simp[execOp,Instr.makeMap,qb]
 rw[f,qA];have h1:=hi.newObj (o :=.map #[] 0) rfl;refine q p _ Z (.mp (.map (E w.heap.size)) []::PV) _ _ hp (h1.sub_own λt kk=>?_) (c.put (by simpa[UT] using l) _) (h _);let⟨k,g2,j,s,e,i,m⟩:=kk.uncons;exact .cons (h1:=k) ⟨_,_,_,rfl,j,rfl⟩ s e i m
theorem Inv.alike{m:Nat}{q q':Priv}(d:PV[m]?=E q)(hi:Inv w0 σ0 Z PV w)(h:∀g:zc,q.holds Z g->g.sub w->q'.holds Z g):Inv w0 σ0 Z (PV.set m q') w:=
 hi.change d λg c hs=>⟨g,h g c hs,hs,Ext.refl _ _,λb i a =>.inl a⟩
variable {α:Type}[DecidableEq α]{K:MKey α}{k:α}{xs:List (α×Value)}
theorem zqJ (m:Nat) {ti:TypeInfo}{o:Value}(U:O d n=G) (S:PV[m]?=E (.mp v (Yv K xs))) (z:opv L b x=v) (B:opv L b y=K.enc k) (A:P.underlying mt=E (.map kt et)) (u:P.underlying kt=E K.d) (q:P.info? et=E ti) (D:ti.zero=E o)
    (h:H p ((d,(yl k xs).getD o)::L) Z PV):Xk P n w0 σ0 ⟨E d,.lookup mt x y N,ty,ps,af,g⟩ p L b Z PV H:=by
 intro r hp a w c C K' Q M;obtain⟨h1,⟨r0,es,f,rfl,R,T⟩,l⟩:=c.held.get S;have hb:w.heap[r0]?=E (.map es f):=(l r0 0 _ R).1;have i:(execOp a.eval ⟨E d,.lookup mt x y N,ty,ps,af,g⟩).run P w = .ok (.value ((yl k xs).getD o)) w:=by
  rw[C.eval];have c1:=Dx (P:=P) hb;have c2:=λe=>qG (P:=P) (w:=w) u (K.key k) e 9999
  rcases vU K k es.toList xs 0 T with⟨t,s,_,_⟩ | ⟨X,j,e',t,s,f3,f4,_,_⟩
  ·have c3:=qk (P:=P) (w:=w) u s;simp[execOp,qZ,z,B,UO A,c1,c2,c3,t,qb,zeroValue,typeInfo,q,D]
  ·have c3:=qk (P:=P) (w:=w) u s;simp[execOp,qZ,z,B,UO A,c1,c2,c3,t,qb]
 unfold qc;rw[i,qA];exact M p _ Z PV _ _ hp c (C.put (by simpa[UT] using U) _) h
theorem zkp (m:Nat) (hm:PV[m]?=E (.mp v (Yv K xs))) (hx:opv L b x=v) (hy:opv L b y=K.enc k) (hu:P.underlying mt=E (.map kt et)) (hk:P.underlying kt=E K.d)
    (h:H p L Z (PV.set m (.mp v (Yv K (Z8 k (opv L b z) xs))))):Xk P n w0 σ0 ⟨F,.mapUpdate mt x y z,ty,ps,af,g⟩ p L b Z PV H:=by
 intro r hp a w hinv hf K' Q hK;obtain⟨h1,⟨r0,es,clock,rfl,e2,e3⟩,hsub⟩:=hinv.held.get hm;have hb:w.heap[r0]?=E (.map es clock):=(hsub r0 0 _ e2).1;have hml:m < PV.length:=(U5.1 hm).1;have hI:=hinv.alike hm (q' :=.obj r0 (.map es clock)) λg hg hs=>by
  let⟨r1,es1,c1,q1,q2,q3⟩:=hg;cases q1;have:=(hs r0 0 _ q2).1;rw[hb] at this;cases this;exact q2
 have c1:=Dx (P:=P) hb;have c2:=qG (P:=P) (w:=w) hk (K.key k) N 9999;obtain⟨es',clock',hrun,hes⟩:∃es' clock',(execOp a.eval ⟨F,.mapUpdate mt x y z,ty,ps,af,g⟩).run P w = .ok .skip {w with heap:=w.heap.setIfInBounds r0 (.map es' clock')}/\es'.toList.map (λe=>(e.key,e.val))=Yv K (Z8 k (opv L b z) xs):=by
  rw[hf.eval];rcases vU K k es.toList xs 0 e3 with⟨f1,f2,f3,_⟩ | ⟨v',j,e',f1,f2,f3,f4,f5,_⟩
  ·have c3:=qk (P:=P) (w:=w) hk f2;have c4:=qC (P:=P) (.map (es.push {key:=K.enc k,val:=opv L b z,born:=clock}) (clock+1)) hb;refine⟨es.push {key:=K.enc k,val:=opv L b z,born:=clock},clock+1,by simp[execOp,qY,hx,hy,UO hu,c1,c2,c3,c4,qb],?_⟩;rw[f3];simp[Yv] at e3 |-;exact e3
  · have c3:=qk (P:=P) (w:=w) hk f2;have hj:es[j]?=E e':=by simpa using f3
    have c5:(q0 (K.enc k) (K.enc k)).run P w = .ok (K.enc k) w:=by simp[q0,K.bits]
    have c4:=λo=>qC (P:=P) o hb
    refine⟨es.modify j λe=>{e with key:=K.enc k,val:=opv L b z},clock,by simp[execOp,qY,hx,hy,UO hu,c1,c2,c3,c4,c5,hj,f4,qb],?_⟩;rw[f5];have:(es.modify j λe=>{e with key:=K.enc k,val:=opv L b z}).toList=es.toList.set j {e' with val:=opv L b z}:=by
     rw[Array.toList_modify];apply UA;intro i;rw[List.getElem?_modify,UB];by_cases hij:j=i
     ·subst hij;grind
     ·simp[hij]
    rw[this]
 unfold qc;rw[hrun];have h2:=hI.setObj (o :=.map es clock) (o' :=.map es' clock') rfl rfl (m:=m) (by rw[qT hml]);rw[qD] at h2;have h3:=h2.alike (m:=m) (q :=.obj r0 (.map es' clock')) (q' :=.mp (.map (E r0)) (Yv K (Z8 k (opv L b z) xs))) (by grind) λg hg _=>⟨r0,es',clock',rfl,hg,hes⟩
 rw[qD] at h3;exact hK p _ Z _ a _ hp h3 hf h
theorem zqK (m:Nat) {ts:Array TypeId}(ht:ts[0]?=E mt) (hm:PV[m]?=E (.mp v (Yv K xs))) (hx:opv L b x=v) (hy:opv L b y=K.enc k) (hu:P.underlying mt=E (.map kt et)) (hk:P.underlying kt=E K.d)
    (h:H p L Z (PV.set m (.mp v (Yv K (yN k xs))))):Xk P n w0 σ0 ⟨F,.call ⟨.builtin .delete, #[x,y],ts⟩,ty,ps,af,g⟩ p L b Z PV H:=by
 intro r hp a w hinv hf K' Q hK;obtain⟨h1,⟨r0,es,clock,rfl,e2,e3⟩,hsub⟩:=hinv.held.get hm;have hb:w.heap[r0]?=E (.map es clock):=(hsub r0 0 _ e2).1;have hml:m < PV.length:=(U5.1 hm).1;have hI:=hinv.alike hm (q' :=.obj r0 (.map es clock)) λg hg hs=>by
  let⟨r1,es1,c1,q1,q2,q3⟩:=hg;cases q1;have:=(hs r0 0 _ q2).1;rw[hb] at this;cases this;exact q2
 have c1:=Dx (P:=P) hb;have c2:=λe=>qG (P:=P) (w:=w) hk (K.key k) e 9999
 obtain⟨es',clock',hrun,hes⟩:∃es' clock',(execOp a.eval ⟨F,.call ⟨.builtin .delete, #[x,y],ts⟩,ty,ps,af,g⟩).run P w = .ok (.value (.tuple #[])) {w with heap:=w.heap.setIfInBounds r0 (.map es' clock')}/\es'.toList.map (λe=>(e.key,e.val))=Yv K (yN k xs):=by
  rw[hf.eval];rcases vU K k es.toList xs 0 e3 with⟨f1,f2,f3,f6⟩ | ⟨v',j,e',f1,f2,f3,f4,f5,f6⟩
  ·have c3:=qk (P:=P) (w:=w) hk f2;have c4:=qC (P:=P) (.map es clock) hb;refine⟨es,clock,by simp[execOp,resolve,invoke,builtin,Builtin.delete_,ht,hx,hy,UO hu,c1,c2,c3,c4,qb],?_⟩;grind
  ·have c3:=qk (P:=P) (w:=w) hk f2;have c4:=qC (P:=P) (.map (es.eraseIdxIfInBounds j) clock) hb;refine⟨es.eraseIdxIfInBounds j,clock,by simp[execOp,resolve,invoke,builtin,Builtin.delete_,ht,hx,hy,UO hu,c1,c2,c3,c4,qb],?_⟩;rw[f6];congr 1;let⟨hl,_⟩:=U5.1 f3;simp[Array.eraseIdxIfInBounds,show j < es.size by simpa using hl]
 unfold qc;rw[hrun];have h2:=hI.setObj (o :=.map es clock) (o' :=.map es' clock') rfl rfl (m:=m) (by rw[qT hml]);rw[qD] at h2;have h3:=h2.alike (m:=m) (q :=.obj r0 (.map es' clock')) (q' :=.mp (.map (E r0)) (Yv K (yN k xs))) (by grind) λg hg _=>⟨r0,es',clock',rfl,hg,hes⟩
 rw[qD] at h3;exact hK p _ Z _ a _ hp h3 hf h
end
variable [Dfr]
section
variable {κ:Kp}{C:Cod}{S:St C}{ν:Val}{vs:Nat->List Value}{ids:List Nat}{L:List (Nat×Value)}{b:Nat->Value}{Z:FS}{PV:List Priv}{P:Program}
variable {t t' ty:TypeId}{x y z:Operand}{d:Nat}{ps:String}{af:Array Edge}{g:Uv (Nat×Bool)}{A:AV C.D}{n:Nat}{w0:Start}{σ0:FS}{o:Oper}{X:Uv (Out C)}
theorem AbsL.setObj (h:AbsL κ S ν vs ids L b Z PV) {id m q T:Nat}{b0:ByteArray}{s s':Sl (C.D T)}(u:S.heap id=E (.obj q T b0 s)) (l:ids[m]?=E id) :
    AbsL κ {S with heap:=upd S.heap id (E (.obj q T b0 s'))} ν vs ids L b Z (PV.set m (C.opv q T (ν.hdr id) (ν.adr id).a b0 s')):=by
 have f:∀j,(S.heap j).isSome=(upd S.heap id (E (.obj q T b0 s')) j).isSome:=λj=>by
  by_cases e:j=id
  ·subst e;rw[zp,u];rfl
  ·rw[zq e]
 have n:=(U5.1 l).1;have hid:=(U5.1 l).2;refine⟨⟨h.nd,λj=>?_,?_,λj c d=>?_,h.env,h.one⟩,λt=>?_,λj c d=>?_,λk i hs=>have q:=h.keep k i jE;⟨q.1,q.2.1,λo=>q.2.2 (zbM (λh=>by cases h) o)⟩⟩
 ·show _↔(upd S.heap id (E (.obj q T b0 s')) j).isSome=G;rw[<- f];exact h.dom j
 · apply UA;intro k;rw[UB,U3,h.pv,Dt];by_cases e:m=k
   ·subst e;rw[jv rfl,jv n,l,U4];show _=E (zK C ν vs id (upd S.heap id (E (.obj q T b0 s')) id));rw[zp];rfl
   · rw[jx e,U3];cases i:ids[k]? with
     |none=>rfl
     |some j=>
      have g:j≠id:=λe'=>by
       have hp:=qx.1 (U6.1 h.nd);let⟨r,v⟩:=U5.1 i;rcases Nat.lt_or_gt_of_ne e with q | q
       all_goals grind
      simp only[U4];show E (zK C ν vs j (S.heap j))=E (zK C ν vs j (upd S.heap id (E (.obj q T b0 s')) j));rw[zq g]
 · have d:upd S.heap id (E (.obj q T b0 s')) j=_:=d;by_cases e:j=id
   ·subst e;rw[zp] at d;cases d
   ·rw[zq e] at d;exact h.cell j c d
 ·exact AV.ok_mono (λj d=>jE) (h.live t)
 · have d:upd S.heap id (E (.obj q T b0 s')) j=_:=d;refine AV.oks_mono (p:=λid=>(S.heap id).isSome=G) (λj d=>jE) ?_;by_cases e:j=id
   ·subst e;rw[zp] at d;cases d
   ·rw[zq e] at d;exact h.livec j c d
end
section
variable {κ:Kp}{C:Cod}{S:St C}{ν:Val}{vs:Nat->List Value}{ids:List Nat}{L:List (Nat×Value)}{b:Nat->Value}{Z:FS}{PV:List Priv}{P:Program}
variable {x y z:Operand}{d:Nat}{ps:String}{af:Array Edge}{g:Uv (Nat×Bool)}{n:Nat}{w0:Start}{σ0:FS}{mt kt et ty:TypeId}
variable {T id:Nat}{b0:ByteArray}{s:Sl (C.D T)}
def VK.a{D:Nat->Type}:(v:VK)->v.ty->AV D
 | .i =>.int .i64
 | .b =>.bool
def VK.dec{D:Nat->Type}:(v:VK)->AV D->Uv v.ty
 | .i=>λA=>match A with
  | .int .i64 x=>E x
  |_=>F
 | .b=>λA=>match A with
  | .bool x=>E x
  |_=>F
def KK.dec{D:Nat->Type}:(k:KK)->AV D->Uv k.ty
 | .s=>λA=>match A with
  | .str x=>E x
  |_=>F
 | .i=>λA=>match A with
  | .int .i64 x=>E x
  |_=>F
theorem VK.dec_ok{Z:FS}{u:Value}{A:AV C.D}(h:VR C Z ν u A):∀{v:VK}{x:v.ty},v.dec A=E x->u=v.e x:=by
 intro v x e;cases v<;>(unfold VK.dec at e;simp only at e;split at e<;>cases e)
 ·exact h.int_inv
 ·exact h.bool_inv
theorem KK.dec_ok{Z:FS}{u:Value}{A:AV C.D}(h:VR C Z ν u A):∀{k:KK}{x:k.ty},k.dec A=E x->u=k.K.enc x:=by
 intro k x e;cases k<;>(unfold KK.dec at e;simp only at e;split at e<;>cases e)
 ·exact h.str_inv
 ·exact h.int_inv
variable [Dfr]
theorem zqL (M:MapR C.D C.opv T) {k:M.k.ty}(h:AbsL κ S ν vs ids L b Z PV) (B:O d n=G) (t:S.op x = .row id) (hs:S.heap id=E (.obj M.q T b0 s)) (u:opv L b y=M.k.K.enc k)
    (o:P.underlying mt=E (.map kt et)) (w:P.underlying kt=E M.k.K.d) {ti:TypeInfo} (hi:P.info? et=E ti) (j:ti.zero=E (M.v.e M.v.z)) :
    OpA κ P n w0 σ0 ⟨E d,.lookup mt x y N,ty,ps,af,g⟩ (E (.go (S.put d (M.v.a (zX k M.v.z (M.l s)))))) L b Z PV:=by
 have c:=h.op x;rw[t] at c;have c:opv L b x=ν.hdr id:=c;let⟨m,f,hid⟩:=h.at hs;have f:PV[m]?=E (C.opv M.q T (ν.hdr id) (ν.adr id).a b0 s):=f;rw[M.opv] at f;refine OpA.of (zqJ (K:=M.k.K) (k:=k) m B f c u o w hi j λr p=>⟨_,(W.inj p).symm,?_⟩);have e:(yl k (asV M.v.e (cast (congrArg List M.e) s.xs))).getD (M.v.e M.v.z)=M.v.e (zX k M.v.z (M.l s)):=by
  rw[zj3];unfold zX MapR.l;cases yl k (cast (congrArg List M.e) s.xs)<;>rfl
 rw[e];generalize zX k M.v.z (M.l s)=r;have:∀(v:VK) (r:v.ty),zD κ (S.put d (v.a r)) ((d,v.e r)::L) b Z PV:=by
  intro v r;cases v with
  |i=>exact⟨ν,vs,ids,h.put (A :=.int .i64 r) Rv.int trivial⟩
  |b=>exact⟨ν,vs,ids,h.put (A :=.bool r) Rv.bool trivial⟩
 exact this _ _
theorem zqM (M:MapR C.D C.opv T) {k:M.k.ty}{v:M.v.ty}(h:AbsL κ S ν vs ids L b Z PV) (p:S.op x = .row id) (hs:S.heap id=E (.obj M.q T b0 s)) (t:opv L b y=M.k.K.enc k) (i:opv L b z=M.v.e v)
    (j:P.underlying mt=E (.map kt et)) (u:P.underlying kt=E M.k.K.d) :
    OpA κ P n w0 σ0 ⟨F,.mapUpdate mt x y z,ty,ps,af,g⟩ (E (.go {S with heap:=upd S.heap id (E (.obj M.q T b0 (M.s (Z8 k v (M.l s)))))})) L b Z PV:=by
 have c:=h.op x;rw[p] at c;have c:opv L b x=ν.hdr id:=c;let⟨m,f,hid⟩:=h.at hs;have f:PV[m]?=E (C.opv M.q T (ν.hdr id) (ν.adr id).a b0 s):=f;rw[M.opv] at f;refine OpA.of (zkp (K:=M.k.K) (k:=k) m f c t j u λr o=>⟨_,(W.inj o).symm,?_⟩);rw[i,zj4];have h2:=h.setObj (s':=M.s (Z8 k v (M.l s))) hs hid;rw[M.opv] at h2;have e:cast (congrArg List M.e) (M.s (Z8 k v (M.l s))).xs=Z8 k v (M.l s):=M.ls _;rw[e] at h2;exact⟨ν,vs,ids,h2⟩
theorem zqN (M:MapR C.D C.opv T) {k:M.k.ty}{ts:Array TypeId}(i:ts[0]?=E mt) (h:AbsL κ S ν vs ids L b Z PV) (p:S.op x = .row id) (hs:S.heap id=E (.obj M.q T b0 s)) (t:opv L b y=M.k.K.enc k)
    (j:P.underlying mt=E (.map kt et)) (u:P.underlying kt=E M.k.K.d) :
    OpA κ P n w0 σ0 ⟨F,.call ⟨.builtin .delete, #[x,y],ts⟩,ty,ps,af,g⟩ (E (.go {S with heap:=upd S.heap id (E (.obj M.q T b0 (M.s (yN k (M.l s)))))})) L b Z PV:=by
 have c:=h.op x;rw[p] at c;have c:opv L b x=ν.hdr id:=c;let⟨m,f,hid⟩:=h.at hs;have f:PV[m]?=E (C.opv M.q T (ν.hdr id) (ν.adr id).a b0 s):=f;rw[M.opv] at f;refine OpA.of (zqK (K:=M.k.K) (k:=k) m i f c t j u λr o=>⟨_,(W.inj o).symm,?_⟩);rw[zj5];have h2:=h.setObj (s':=M.s (yN k (M.l s))) hs hid;rw[M.opv] at h2;have e:cast (congrArg List M.e) (M.s (yN k (M.l s))).xs=yN k (M.l s):=M.ls _;rw[e] at h2;exact⟨ν,vs,ids,h2⟩
theorem zwj (M:MapR C.D C.opv T) (h:AbsL κ S ν vs ids L b Z PV) (i:O d n=G) (h0:S.heap (nid d 0)=F) :
    OpA κ P n w0 σ0 ⟨E d,.makeMap mt F,ty,ps,af,g⟩ (E (.go {env:=upd S.env d (.row (nid d 0)),heap:=upd S.heap (nid d 0) (E (.obj M.q T default (M.s [])))})) L b Z PV:=by
 refine OpA.of (zn6 i λr0 r f=>⟨_,(W.inj f).symm,?_⟩);refine h.new (e :=.obj M.q T default (M.s [])) (v :=.map (E r0)) (a:=default) (us:=[]) (A :=.row (nid d 0)) h0 (yP κ d 0) (λν' h1 h2=>⟨?_,rfl⟩) ?_ ?_ (λcs c=>by cases c) rfl
 ·show Value.map (E r0)=ν'.hdr (nid d 0);rw[h1];rfl
 ·rfl
 ·show _=C.opv M.q T (.map (E r0)) _ default (M.s []);rw[M.opv];have e:cast (congrArg List M.e) (M.s []).xs=[]:=M.ls [];rw[e];rfl
end
section
variable {κ:Kp}{C:Cod}{S:St C}{ν:Val}{vs:Nat->List Value}{ids:List Nat}{L:List (Nat×Value)}{b:Nat->Value}{Z:FS}{PV:List Priv}{P:Program}
variable {x y z:Operand}{d:Nat}{ps:String}{af:Array Edge}{g:Uv (Nat×Bool)}{n:Nat}{w0:Start}{σ0:FS}{t ty:TypeId}
def zsy:VK->Uv Value->Bool
 | .i,E (.int .i64 0)=>G
 | .b,E (.bool N)=>G
 |_,_=>N
theorem zwk{v:VK}{z:Uv Value}(h:zsy v z=G):z=E (v.e v.z):=by
 unfold zsy at h;split at h<;>first | rfl | cases h
def zsz:KK->TypeDesc->Bool
 | .s,.string=>G
 | .i,.int .i64=>G
 |_,_=>N
theorem zwl{k:KK}{d:TypeDesc}(h:zsz k d=G):d=k.K.d:=by
 unfold zsz at h;split at h<;>first | rfl | cases h
def zal{β:Type}(P:Program)(S:St C)(t:TypeId)(x y:Operand)(f:(et id q T:Nat)->(b:ByteArray)->(s:Sl (C.D T))->(M:MapR C.D C.opv T)->M.k.ty->Uv β):Uv β:=match P.underlying t with
 |some (.map kt et)=>(match P.underlying kt,S.op x with
  |some a,.row id=>(match S.heap id with
   |some (.obj q T b s)=>(match C.mp T with
    |some M=>(match M.k.dec (S.op y) with
     |some k=>chk (I q M.q && zsz M.k a) (f et id q T b s M k)
     |none=>F)
    |none=>F)
   |_=>F)
  |_,_=>F)
 |_=>F
theorem WO {β:Type}{t:TypeId}{f:(et id q T:Nat)->(b:ByteArray)->(s:Sl (C.D T))->(M:MapR C.D C.opv T)->M.k.ty->Uv β}{r:β}(h:zal P S t x y f=E r) :
    ∃(kt et id T:Nat) (b:ByteArray) (s:Sl (C.D T)) (M:MapR C.D C.opv T) (k:M.k.ty),P.underlying t=E (.map kt et)/\P.underlying kt=E M.k.K.d/\S.op x = .row id/\S.heap id=E (.obj M.q T b s)/\M.k.dec (S.op y)=E k/\f et id M.q T b s M k=E r:=by
 unfold zal at h;split at h
 · rename_i kt et h1;split at h
   · rename_i g id h2 j;split at h
     · rename_i q T b s a;split at h
       · rename_i M l;split at h
         ·rename_i k i;let⟨c,e⟩:=zb h;simp only[gf] at c;obtain rfl:=ge c.1;obtain rfl:=zwl c.2;grind
         ·cases h
       ·cases h
     ·cases h
   ·cases h
 ·cases h
def zf8(P:Program)(S:St C)(d:Nat)(t:TypeId)(x y:Operand):Uv (Out C):=zal P S t x y λet _ _ _ _ s M k=>match P.info? et with
 |some ti=>chk (zsy M.v ti.zero) (E (.go (S.put d (M.v.a (zX k M.v.z (M.l s))))))
 |none=>F
def zbQ(P:Program)(S:St C)(t:TypeId)(x y z:Operand):Uv (Out C):=zal P S t x y λ_ id q T b s M k=>match M.v.dec (S.op z) with
 |some v=>E (.go {S with heap:=upd S.heap id (E (.obj q T b (M.s (Z8 k v (M.l s)))))})
 |none=>F
def wI(P:Program)(S:St C)(ts:Array TypeId)(x y:Operand):Uv (Out C):=match ts[0]? with
 |some t=>zal P S t x y λ_ id q T b s M k=>E (.go {S with heap:=upd S.heap id (E (.obj q T b (M.s (yN k (M.l s)))))})
 |none=>F
def Xy(S:St C)(d:Nat)(t:TypeId):Uv (Out C):=match C.mp t with
 |some M=>chk (isNone (S.heap (nid d 0))) (E (.go {env:=upd S.env d (.row (nid d 0)),heap:=upd S.heap (nid d 0) (E (.obj M.q t default (M.s [])))}))
 |none=>F
variable [Dfr]
theorem zkq(h:AbsL κ S ν vs ids L b Z PV)(e:O d n=G):OpA κ P n w0 σ0 ⟨E d,.makeMap t F,ty,ps,af,g⟩ (Xy S d t) L b Z PV:=by
 intro out a;unfold Xy at a;split at a
 ·rename_i M _;let⟨c0,c⟩:=zb a;exact zwj M h e (Zf c0) out c
 ·cases a
theorem zqO(h:AbsL κ S ν vs ids L b Z PV)(f:O d n=G):OpA κ P n w0 σ0 ⟨E d,.lookup t x y N,ty,ps,af,g⟩ (zf8 P S d t x y) L b Z PV:=by
 intro out a;let⟨kt,et,id,T,b0,s,M,k,h1,h2,i,e,j,a⟩:=WO a;split at a
 ·rename_i ti hi;let⟨c,a⟩:=zb a;exact zqL M h f i e (KK.dec_ok (h.op y) j) h1 h2 hi (zwk c) out a
 ·cases a
theorem zmz(h:AbsL κ S ν vs ids L b Z PV):OpA κ P n w0 σ0 ⟨F,.mapUpdate t x y z,ty,ps,af,g⟩ (zbQ P S t x y z) L b Z PV:=by
 intro out a;let⟨kt,et,id,T,b0,s,M,k,h1,h2,d,c,e,a⟩:=WO a;split at a
 ·rename_i v f;exact zqM M h d c (KK.dec_ok (h.op y) e) (VK.dec_ok (h.op z) f) h1 h2 out a
 ·cases a
theorem zmA(h:AbsL κ S ν vs ids L b Z PV){ts:Array TypeId}:OpA κ P n w0 σ0 ⟨F,.call ⟨.builtin .delete, #[x,y],ts⟩,ty,ps,af,g⟩ (wI P S ts x y) L b Z PV:=by
 intro out a;unfold wI at a;split at a
 ·rename_i t d;let⟨kt,et,id,T,b0,s,M,k,h1,h2,e,c,f,a⟩:=WO a;exact zqN M d h e c (KK.dec_ok (h.op y) f) h1 h2 out a
 ·cases a
end
variable [Dfr]
theorem Ext.of_below{w w':World}(h:qy w.heap.size w w'):Ext w zc.none w':=
 ⟨h.os,h.output,h.tape,h.size,λb =>.same λhb=>h.block b hb,λa c _=>h.frozen c⟩
theorem Inv.gain{w0:Start}{σ0 Z τ:FS}{PV:List Priv}{w w':World}(hi:Inv w0 σ0 Z PV w)(hb:qy w.heap.size w w')(k:Z.le τ)(g:∀b o v,τ b o=E v->Z b o=E v\/w.heap.size<=b/\w'.cell? ⟨b,o,F⟩=E v):Inv w0 σ0 τ PV w':=by
 have d:=Ext.of_below hb;let⟨h,hs,c⟩:=hi.own;have j:∀b,b < w.heap.size->w'.heap[b]?=w.heap[b]?:=hb.block
 refine⟨λb o v a=>?_,hi.le.trans k,λb o v a=>?_,⟨h,hs.mono k (.refl _),⟨?_,λb o e=>?_,c.mine⟩⟩,hi.ext.trans d λb i _ e=>by cases e⟩
 ·rcases g b o v a with q | q
  ·exact d.held (λb o e=>by cases e) hi.sub b o v q
  ·exact q.2
 ·rcases g b o v a with q | q
  ·exact hi.fresh b o v q
  ·have:=hi.ext.size;grind
 ·exact d.frag (zc.none_disj _) c.sub
 ·cases a:τ b o with
  |none=>rfl
  |some v=>
   rcases g b o v a with q | q
   ·rw[c.apart b o e] at q;cases q
   ·let⟨x,f⟩:=UG.1 e;have:=Bit.at_lt (c.sub b (o+1) x f);omega
theorem Inv.below{w0:Start}{σ0 Z:FS}{PV:List Priv}{w w':World}(hi:Inv w0 σ0 Z PV w)(hb:qy w.heap.size w w'):Inv w0 σ0 Z PV w':=
 hi.gain hb (λ_ _ _ h=>h) λb o v h =>.inl h
section
variable {κ:Kp}{C:Cod}{S:St C}{ν:Val}{vs:Nat->List Value}{ids:List Nat}{L:List (Nat×Value)}{b:Nat->Value}{Z τ:FS}{PV:List Priv}{P:Program}
variable {t t' ty:TypeId}{x y z:Operand}{d:Nat}{ps:String}{af:Array Edge}{g:Uv (Nat×Bool)}{A:AV C.D}{n:Nat}{w0:Start}{σ0:FS}{o:Oper}{X:Uv (Out C)}
omit [Dfr] in
theorem AbsL.le(h:AbsL κ S ν vs ids L b Z PV)(l:Z.le τ):AbsL κ S ν vs ids L b τ PV:=
 ⟨⟨h.nd,h.dom,h.pv,λid cs e=>(h.cell id cs e).mono l,λt=>(h.env t).mono l,h.one⟩,h.live,h.livec,h.keep⟩
theorem zfo(w:World)(e:TypeId)(s:ByteArray):qy w.heap.size w (Lib.bytesWorld w e s):=by
 refine⟨?_,?_,?_,by rw[Lib.bytesWorld_size];omega,λk a=>Lib.bytesWorld_at_old w e s k a⟩<;>
  (unfold Lib.bytesWorld World.freeze;split<;>rfl)
def yF(P:Program)(S:St C)(d:Nat)(ty t:TypeId)(x:Operand)(lo hi:Uv Operand):Uv (Out C):=match S.op x with
 | .row id=>(yE P (S.frz1 id) ty (.slice t x lo hi F)).bind λA=>E (.go ((S.frz1 id).put d A))
 |_=>F
theorem ze1(h:AbsL κ S ν vs ids L b Z PV)(k:O d n=G){lo hi:Uv Operand}:OpA κ P n w0 σ0 ⟨E d,.slice t x lo hi F,ty,ps,af,g⟩ (yF P S d ty t x lo hi) L b Z PV:=by
 intro out a;unfold yF at a;split at a
 ·rename_i id e;let⟨A,i,a⟩:=gd a;cases a;refine OpA.frz [id] ⟨ν,vs,ids,h⟩ (λl PV' c=>?_) (X:=E (.go ((S.frz1 id).put d A))) _ rfl;let⟨ν',j,f,c⟩:=c;exact zaj c k i (zak c i)
 ·cases a
def zqP(S:St C)(d t:Nat)(cs:List (AV C.D)):Uv (Out C):=(C.imp t cs).bind λq=>E (.go (S.put d (.pz t q 0)))
theorem zqQ(h:AbsL κ S ν vs ids L b Z PV)(U:O d n=G)(hs:YS (S.op x)=G):OpA κ P n w0 σ0 ⟨E d,.box t x,ty,ps,af,g⟩ (zqP S d t (zt (S.op x))) L b Z PV:=by
 intro out r;let⟨q,C,r⟩:=gd r;cases r;let⟨T,_⟩:=ZE (h.op x) hs h.one;intro a w hi R K Q B X;refine zqv (H:=λ_ z l PV'=>∃c:Addr,z=(d,.pointer (E (c.add 0)))::L/\l=Z/\PV' = .cell c (opv L b x).cells.toList::PV) U rfl (λc=>⟨c,rfl,rfl,rfl⟩) (E ()) rfl a w hi R K Q ?_;intro p' z l PV' a' w' hp k s D;obtain⟨c,rfl,rfl,rfl⟩:=D;let⟨h1,i,y,f,o⟩:=k.freeze (m:=0) rfl;have i:Z3 c (opv L b x).cells.toList h1:=i;refine B _ rfl _ _ _ a' w' o s ⟨ν,vs,ids,AbsL.put (h.le f) (A :=.pz t q 0) ?_ trivial⟩;have e:=WM (ν:=ν) (T.mono f) C;refine Rv.pz (λj=>((opv L b x).cells.toList[j]?).getD default) (λj A p=>?_) (λj A p=>?_)
 ·let⟨u,v,M⟩:=e.2 j A p;rw[v,Addr.add_eq _ i.1];simpa[FS.cell] using Xw (Z:=l) _ _ _ (i.2 j u v)
 ·let⟨u,v,M⟩:=e.2 j A p;grind
end
variable [Dfr]
section
variable {C:Cod}{S:St C}{P:Program}{ρ:Type}
def zhm(P:Program)(S:St C)(t:TypeId)(A:AV C.D)(K:AV C.D->Uv ρ):Uv ρ:=match A with
 | .pr id T i off=>match S.heap id with
  |some (.row T' s)=>chk (I T T') ((za s i).bind λx=>(Yy P t (C.emb T' x) off).bind K)
  |some (.orow T' s g)=>chk (I T T') ((za s i).bind λx=>(Yy P t (zfl C T' x id i) off).bind K)
  |_=>F
 | .nx id T i (.elem U k off)=>zM S id T i λa u=>chk (I U a) ((za u k).bind λy=>(Yy P t (C.emb a y) off).bind K)
 |A=>(x8 P S t A).bind K
theorem zx{α β:Type}{c:Bool}{x:Uv α}{k:α->Uv β}:(chk c x).bind k=chk c (x.bind k):=by cases c<;>rfl
theorem YB{α β:Type}{id T:Nat}{i:Int}{K:(U:Nat)->Sl (C.D U)->Uv α}{k:α->Uv β}:(zM S id T i K).bind k=zM S id T i λU u=>(K U u).bind k:=by
 unfold zM;split
 ·rw[zx,gh];grind
 ·rfl
theorem zn7{t:TypeId}{A:AV C.D}{K:AV C.D->Uv ρ}:zhm P S t A K=(x8 P S t A).bind K:=by
 unfold zhm;split
 ·rename_i id T i off;simp only[x8];cases S.heap id with
  |none=>rfl
  |some e=>
   cases e with
   |cell cs=>rfl
   |row T' s=>simp only[zx,gh]
   |obj q T b s=>rfl
   |orow T' s g=>simp only[zx,gh]
 ·rename_i id T i U k off;simp only[x8,YB,zx,gh]
 ·rfl
def zfp(P:Program)(S:St C)(t:TypeId)(A B:AV C.D)(K:AV C.D->Uv ρ):Uv ρ:=match P.underlying t with
 |some (.slice e)=>(match P.info? e with
  |some ti=>(match A,B with
   | .sl T s _,.int _ i=>chk (I ti.size (C.size T)) ((za s i).bind λq=>K (.pz T q 0))
   | .row id,.int _ i=>(match S.heap id with
    |some (.row T s)=>chk (I ti.size (C.size T)) ((za s i).bind λ_=>K (.pr id T i 0))
    |some (.orow T s g)=>chk (I ti.size (C.size T)) ((za s i).bind λ_=>K (.pr id T i 0))
    |_=>F)
   | .nx id T i .whole,.int _ k=>zM S id T i λU u=>chk (I ti.size (C.size U)) ((za u k).bind λ_=>K (.nx id T i (.elem U k 0)))
   | .nx id T i (.part U lo hi),.int _ k=>zM S id T i λa u=>chk (I U a && I ti.size (C.size U)) ((z8 u lo hi).bind λb=>(za b k).bind λ_=>K (.nx id T i (.elem U (lo+k) 0)))
   |_,_=>F)
  |none=>F)
 |some (.array n e)=>(match P.info? e with
  |some ti=>(match A,B with
   | .pc id off,.int .i64 i=>chk (!I ti.size 0) (zdd ti.size id off i n K)
   |_,_=>F)
  |none=>F)
 |_=>F
theorem zmB{t:TypeId}{A B:AV C.D}{K:AV C.D->Uv ρ}:zfp P S t A B K=(XR P S t A B).bind K:=by
 unfold zfp XR;cases P.underlying t with
 |none=>rfl
 |some a=>
  cases a with
  |slice e=>
   simp only;cases P.info? e with
   |none=>rfl
   |some ti=>
    simp only;cases A<;>first | rfl | skip
    ·cases B<;>first | rfl | (simp only[zx,gh,jj])
    ·rename_i id;cases B<;>first | rfl | skip
     simp only;cases S.heap id with
     |none=>rfl
     |some c=>
      cases c with
      |cell cs=>rfl
      |row T s=>simp only[zx,gh,jj]
      |obj q T b s=>rfl
      |orow T s g=>simp only[zx,gh,jj]
    ·rename_i id T i x;cases x<;>cases B<;>first | rfl | simp only[YB,zx,gh,jj]
  |array n e=>
   simp only;cases P.info? e with
   |none=>rfl
   |some ti=>
    simp only;cases A<;>first | rfl | skip
    cases B<;>first | rfl | skip
    rename_i kk i;cases kk<;>first | rfl | (simp only[zx,zii,jj])
  |_=>rfl
def zkr(n:Nat)(cs:List (AV C.D))(i:Int)(K:AV C.D->Uv ρ):Uv ρ:=chk (I n cs.length) (match zbI cs with
 |some l=>(vL l i).bind λs=>K (.str s)
 |none=>(match cs with
  | .int k _::_=>(zec k cs).bind λl=>(vL l i).bind λm=>K (.int k m)
  |_=>F))
theorem zqR{n:Nat}{cs:List (AV C.D)}{i:Int}{K:AV C.D->Uv ρ}:zkr n cs i K=(zf4 n cs i).bind K:=by
 unfold zkr zf4;rw[zx];congr 1;cases zbI cs with
 |some l=>grind
 |none=>
  grind
def zhn(P:Program)(t:TypeId)(A B:AV C.D)(K:AV C.D->Uv ρ):Uv ρ:=match P.underlying t,A,B with
 |some .string,.str s,.int _ i=>(Zh s i).bind λc=>K (.int .u8 c)
 |some (.array n e),.agg cs,.int _ i=>(match P.underlying e,P.info? e with
  |some b,E a=>chk (!Zi b && I a.size 1) (zkr n cs i K)
  |_,_=>F)
 |_,_,_=>F
theorem zn8{t:TypeId}{A B:AV C.D}{K:AV C.D->Uv ρ}:zhn P t A B K=(zbd P t A B).bind K:=by
 unfold zhn zbd;cases P.underlying t with
 |none=>rfl
 |some a=>
  cases a<;>first | rfl | skip
  ·grind
  ·rename_i n e;cases A<;>first | rfl | skip
   cases B<;>first | rfl | skip
   simp only;cases P.underlying e with
   |none=>rfl
   |some a=>cases P.info? e with
    |none=>rfl
    |some b=>simp only[zx,zqR]
def zfq(P:Program)(S:St C)(t:TypeId)(A:AV C.D)(lo hi:Uv Operand)(K:AV C.D->Uv ρ):Uv ρ:=match P.underlying t,A with
 |some .string,.str s=>(match Zn S 0 lo,Zn S s.size hi with
  |some i,E j=>(ZI s i j).bind λu=>K (.str u)
  |_,_=>F)
 |some (.slice e),.sl T s _=>(match P.info? e,Zn S 0 lo,Zn S s.len hi with
  |some ti,E i,E j=>chk (I ti.size (C.size T)) ((z8 s i j).bind λu=>K (.sl T u N))
  |_,_,_=>F)
 |some (.slice e),.nx id T k .whole=>(match P.info? e,Zn S 0 lo with
  |some ti,E i=>zM S id T k λU u=>(match Zn S u.len hi with
   |some j=>chk (I ti.size (C.size U)) ((z8 u i j).bind λ_=>K (.nx id T k (.part U i j)))
   |none=>F)
  |_,_=>F)
 |_,_=>F
theorem zmC{t:TypeId}{A:AV C.D}{lo hi:Uv Operand}{K:AV C.D->Uv ρ}:zfq P S t A lo hi K=(Ys P S t A lo hi).bind K:=by
 unfold zfq Ys;cases P.underlying t with
 |none=>rfl
 |some a=>
  cases a<;>first | rfl | skip
  ·cases A<;>first | rfl | skip
   grind
  ·rename_i e;cases A<;>first | rfl | skip
   ·rename_i T s c;simp only;cases P.info? e with
    |none=>rfl
    |some ti=>cases Zn S 0 lo with
     |none=>rfl
     |some i=>cases Zn S s.len hi with
      |none=>rfl
      |some j=>simp only[zx,gh,jj]
   ·rename_i id T k x;cases x<;>first | rfl | skip
    simp only;cases P.info? e with
    |none=>rfl
    |some ti=>cases Zn S 0 lo with
     |none=>rfl
     |some i=>
      simp only[YB];congr 1;funext U u;cases Zn S u.len hi with
      |none=>rfl
      |some j=>simp only[zx,gh,jj]
def zks(P:Program)(S:St C)(t:TypeId)(bo:BinOp)(x y:Operand)(K:AV C.D->Uv ρ):Uv ρ:=match bo,S.op x,S.op y with
 | .quo,.int k i,.int k' j=>chk (!Ye y && decide (k=k')) ((zj6 k i j).bind λq=>K (.int k q))
 | .rem,.int k i,.int k' j=>chk (!Ye y && decide (k=k')) ((zj7 k i j).bind λq=>K (.int k q))
 | .add,.str s,.str u=>chk (!Ye y && decide (s.size+u.size<=9223372036854775807)) (K (.str (s++u)))
 | .eql,.nx id T i .whole,.nils=>(match P.underlying t with
  |some (.slice _)=>chk (!Ye y) (zM S id T i λ_ s=>K (.bool !s.nn))
  |_=>F)
 | .neq,.nx id T i .whole,.nils=>(match P.underlying t with
  |some (.slice _)=>chk (!Ye y) (zM S id T i λ_ s=>K (.bool s.nn))
  |_=>F)
 |bo,_,_=>(x9 P S t bo x y).bind K
theorem Wa{α:Type}{id T:Nat}{i:Int}:zM S id T i (λ_ _=>(none:Uv α))=none:=by
 unfold zM;split
 ·rename_i T' s g hs;cases a:(I T T' && g.rd) with
  |false=>rfl
  |true=>
   show(za s i).bind _=F;cases za s i with
   |none=>rfl
   |some q=>grind
 ·rfl
theorem zqS{t:TypeId}{bo:BinOp}{x y:Operand}{K:AV C.D->Uv ρ}:zks P S t bo x y K=(x9 P S t bo x y).bind K:=by
 unfold zks;split
 ·rename_i k i e j c a;unfold x9;cases b:Ye y with
  |true=>
   have:=wP b;subst this;cases a
  |false=>
   simp only[U0,Dy,qM,c,a,wq,wA,zea];rw[zx,gh];rfl
 ·rename_i k i e j c a;unfold x9;cases b:Ye y with
  |true=>
   have:=wP b;subst this;cases a
  |false=>
   simp only[U0,Dy,qM,c,a,wq,wA,zea];rw[zx,gh];rfl
 ·rename_i s u c a;unfold x9;cases b:Ye y with
  |true=>
   have:=wP b;subst this;cases a
  |false=>
   simp only[U0,Dy,qM,c,a,wq,wA];rw[zx];rfl
 ·rename_i id T i c a;unfold x9;cases b:Ye y with
  |true=>
   have:=wP b;subst this;cases a
  |false=>
   simp only[U0,Dy,c,a,wq,YB];cases P.underlying t with
   |none=>exact(Wa (S:=S) (id:=id) (T:=T) (i:=i)).symm
   |some d=>cases d<;>first | exact(Wa (S:=S) (id:=id) (T:=T) (i:=i)).symm | rfl
 ·rename_i id T i c a;unfold x9;cases b:Ye y with
  |true=>
   have:=wP b;subst this;cases a
  |false=>
   simp only[U0,Dy,c,a,wq,YB];cases P.underlying t with
   |none=>exact(Wa (S:=S) (id:=id) (T:=T) (i:=i)).symm
   |some d=>cases d<;>first | exact(Wa (S:=S) (id:=id) (T:=T) (i:=i)).symm | rfl
 ·rfl
def zkt(P:Program)(S:St C)(t:TypeId)(A:AV C.D)(K:AV C.D->Uv ρ):Uv ρ:=match P.underlying t,A with
 |some (.slice _),.nx id T i .whole=>zM S id T i λ_ u=>K (.int .i64 u.len)
 |some (.slice _),.nx id T k (.part U i j)=>zM S id T k λa u=>chk (I U a) ((z8 u i j).bind λ_=>K (.int .i64 (j - i)))
 |_,A=>(w8 P S t A).bind K
theorem zqT{t:TypeId}{A:AV C.D}{K:AV C.D->Uv ρ}:zkt P S t A K=(w8 P S t A).bind K:=by
 unfold zkt;split
 ·rename_i a;unfold w8;rw[a];simp only[YB,jj]
 ·rename_i a;unfold w8;rw[a];simp only[YB,zx,gh,jj]
 ·rfl
def zeg(P:Program)(S:St C)(ty:TypeId)(op:Op)(K:AV C.D->Uv ρ):Uv ρ:=match op with
 | .load t x=>zhm P S t (S.op x) K
 | .indexAddr t x y=>zfp P S t (S.op x) (S.op y) K
 | .index t x y=>zhn P t (S.op x) (S.op y) K
 | .slice t x lo hi F=>zfq P S t (S.op x) lo hi K
 | .binOp bo t x y _=>zks P S t bo x y K
 | .call ⟨.builtin .len,args,ts⟩=>(match args.toList,ts.toList with
  |[x],[t]=>zkt P S t (S.op x) K
  |_,_=>F)
 |op=>(yE P S ty op).bind K
theorem zbR{ty:TypeId}{op:Op}{K:AV C.D->Uv ρ}:zeg P S ty op K=(yE P S ty op).bind K:=by
 unfold zeg;split
 ·exact zn7
 ·exact zmB
 ·exact zn8
 ·exact zmC
 ·exact zqS
 ·rename_i args ts;unfold yE;dsimp only;cases args.toList with
  |nil=>rfl
  |cons x l=>cases l with
   |nil=>cases ts.toList with
    |nil=>rfl
    |cons t r=>cases r with
     |nil=>exact zqT
     |cons=>rfl
   |cons=>rfl
 ·rfl
end
end
end Go.Px
