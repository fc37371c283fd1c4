/- Part A3. -/
import Derived.Test.YtnkjgenigoecjaaGreatDoorA2
import Derived.Below
import Derived.Lib.ConvBytes
import Derived.Laws.BytesString
set_option linter.unusedSectionVars false
set_option linter.unusedVariables false
set_option linter.unusedSimpArgs false
namespace Go.Px
open Bool renaming true->G,false->N,true_and->qN
open Go.Instr renaming typeAssert->qL,fill->qM,sureAddr->qX,sliceAt->qY,mapUpdate->qZ,lookup->q0,keyThatStays->q5,index->zE,build->z0
open Go.MapKept renaming run_findKey->qk,run_setObj_map->qC,run_checkKey->qH
open Go.Op renaming equalIn->qv,equal->qQ
open Go.Oper renaming wp->qc,upon_value->qA
open Go.Result renaming andThen->qb,ok->qP
open Go.RowKit renaming Below->qy
open Go.Value renaming pointer->V,cells->qo,oneCell'->qO
open List renaming range->Y,pairwise_iff_getElem->qx,set_set->qD,map->qE,getElem?_set_self->qF,mem_iff_getElem?->qI,mem_eraseIdx_iff_getElem->qJ,getElem?_range->qK,take->qS,nodup_cons->qT,getElem_of_mem->qU,eraseIdx_sublist->qV,drop->qW
open Nat renaming beq->I,blt->O,ble->qB,mul_comm->qG,add_assoc->qR
open _root_.Option renaming some->E,none->F,some->W
section
theorem D8:(!N)=true:=@Bool.not_false
theorem D7:∀{P:Program}{w:World}{r:Nat}{es:Array MapEntry}{clock:Nat},w.heap[r]? =E (Obj.map es clock)->Sem.run P (getObj r) w=qP (Obj.map es clock) w:=@MapKept.run_getObj_map
theorem D6:∀{α:Type _}{β:Type _}{b:β}{f:α->β}{l:List α},b∈qE f l↔∃a,a∈l/\f a=b:=@List.mem_map
theorem D5:∀{α:Type _}(y:α){a:α}{l:List α},a∈l->a∈y::l:=@List.mem_cons_of_mem
theorem D4:∀{α:Type _}{β:Type _}{«as»:List α}(f:α->β),(qE f «as»).length=«as».length:=@List.length_map
theorem D3:∀{α:Type _}{l:List α}{α_1:Type _}{f g:α->α_1},(∀(a:α),a∈l->f a=g a)->qE f l=qE g l:=@List.map_congr_left
theorem D2:∀{α:Type _}{a b:α},a∈[b]↔a=b:=@List.mem_singleton
theorem D1:∀{α:Sort _}(a b:α),(bif G then a else b)=a:=@cond_true
theorem D0:∀{α:Type _}{p:α->Bool}{l:List α},l.all p=G↔∀(x:α),x∈l->p x=true:=@List.all_eq_true
theorem Dz:∀(b:Bool),((!b)=G)=(b=N):=@Bool.not_eq_true'
theorem Dy:∀{p:Prop}[inst:Decidable p],decide p=G->p:=@of_decide_eq_true
theorem Dx:∀{α:Type _}{α_1:Type _}{f:Nat->α->α_1}{l:List α}{i:Nat},(List.mapIdx f l)[i]? =Option.map (f i) l[i]?:=@List.getElem?_mapIdx
variable [Dfr]
inductive NX where
 |whole
 |part (U:Nat) (lo hi:Int)
 |elem (U:Nat) (k:Int) (off:Nat)
inductive AV(D:Nat->Type) where
 |int (k:IntKind) (n:Int)
 |bool (b:Bool)
 |str (s:ByteArray)
 |agg (cs:List (AV D))
 |tup (vs:List (AV D))
 |sl (T:Nat) (s:Sl (D T)) (clip:Bool)
 |row (id:Nat)
 |pc (id off:Nat)
 |pr (id T:Nat) (i:Int) (off:Nat)
 |nx (id T:Nat) (i:Int) (x:NX)
 |pz (T:Nat) (x:D T) (off:Nat)
 |pnil
 |nils
 |clo (f:Nat) (caps:List (AV D))
 |nilf
 |ifc (t:Nat) (v:AV D)
 |nili
 |und
def AV.leaf{D:Nat->Type}:AV D->Bool
 | .agg _=>N
 | .tup _=>N
 | .und=>N
 |_=>G
def AV.base{D:Nat->Type}:AV D->Bool
 | .int _ _=>G
 | .bool _=>G
 | .str _=>G
 | .sl _ _ c=> !c
 | .pz _ _ _=>G
 | .pnil=>G
 | .clo _ cs=>cs.isEmpty
 | .nilf=>G
 | .ifc _ A=>A.base
 | .nili=>G
 |_=>N
def AV.num{D:Nat->Type}:AV D->Bool
 | .int _ _=>G
 | .bool _=>G
 | .str _=>G
 |_=>N
def leA{D:Nat->Type}(A B:AV D):Prop:=A=B\/(∃T s c,A = .sl T s c/\B = .sl T s N)\/∃T c,A = .nils/\B = .sl T ⟨[],N⟩ c
def zfl{D:Nat->Type}:List (AV D)->List (AV D)->Prop
 |[],[]=>True
 |a::as,b::bs=>leA a b/\zfl as bs
 |_,_=>False
structure Cod where
 D:Nat->Type
 size:Nat->Nat
 agg:Nat->Bool
 emb:(T:Nat)->D T->List (AV D)
 imp:(T:Nat)->List (AV D)->U7 (D T)
 len:∀T x,(emb T x).length=size T
 base:∀T x A,A∈emb T x->A.base=G
 sz:∀T,agg T=N->size T=1
 imp_ok:∀T cs x,imp T cs=E x->zfl cs (emb T x)
 gl:World->FS->Prop
 opv:Nat->(T:Nat)->Value->Addr->ByteArray->Sl (D T)->Priv
 oal:Nat->List Value->U7 (Nat×Nat)
 oal_ok:∀t zs k T,oal t zs=E (k,T)->∀(q:Nat) (hdr:Value) (Z:FS) (h:zc),(Za q t zs.toArray).le h->(opv k T hdr ⟨q,0,F⟩ ⟨#[]⟩ ⟨[],N⟩).holds Z h
 mp:(T:Nat)->U7 (MapR D opv T)
 lfs:Nat->List (U7 Nat)
 lfs_ok:∀(T:Nat) (x:D T) (j:Nat) (A:AV D),(emb T x)[j]?=E A->A.num=G\/(∃U s,A = .sl U s N/\(lfs T)[j]?=E (E U))\/∃U x,A = .pz U x 0/\(lfs T)[j]?=E (E U)
 nst:Nat->Nat
 own:Nat->Bool
 bz:Nat->Bool
 glm:∀{Z τ:FS} {w w':World} {h:zc},Z.le τ->Ext w h w'->gl w Z->gl w' τ
section
variable {C:Cod}
inductive Rv(C:Cod)(Z:FS):Value->AV C.D->Prop where
 |int {k n}:Rv C Z (.int k n) (.int k n)
 |bool {b}:Rv C Z (.bool b) (.bool b)
 |str {s}:Rv C Z (.string s) (.str s)
 |sl {T} {s:Sl (C.D T)} {clip:Bool} {a:U7 Addr} {n c:Nat} (cell:Nat->Nat->Value):n=s.xs.length->a.isSome=s.nn->n<=c->c<=maxLen->(a=F->n=0/\c=0)->(clip=G->c=n)->
     (∀(i:Nat) x (j:Nat) A,s.xs[i]?=E x->(C.emb T x)[j]?=E A->∃ad:Addr,a=E ad/\Z.cell (ad.add (i * C.size T+j))=E (cell i j))->
     (∀(i:Nat) x (j:Nat) A,s.xs[i]?=E x->(C.emb T x)[j]?=E A->Rv C Z (cell i j) A)->Rv C Z (.slice a n c) (.sl T s clip)
 |pz {T} {x:C.D T} {off:Nat} {ad:Addr} (cell:Nat->Value):(∀(j:Nat) A,(C.emb T x)[j]?=E A->Z.cell (ad.add j)=E (cell j))->
     (∀(j:Nat) A,(C.emb T x)[j]?=E A->Rv C Z (cell j) A)->Rv C Z (.pointer (E (ad.add off))) (.pz T x off)
 |pnil:Rv C Z (.pointer F) .pnil
 |clo {f}:Rv C Z (.func (.func f) #[] #[]) (.clo f [])
 |nilf:Rv C Z .nilFunc .nilf
 |ifc {t u A}:Rv C Z u A->Rv C Z (.iface t u) (.ifc t A)
 |nili:Rv C Z .nilIface .nili
variable {Z τ:FS}
omit [Dfr] in
theorem Rv.mono(l:Z.le τ){v:Value}{A:AV C.D}(h:Rv C Z v A):Rv C τ v A:=by
 induction h with
 |int=>exact .int
 |bool=>exact .bool
 |str=>exact .str
 |sl cell h1 h2 h3 h4 h5 h6 h7 h8 ih=>
  refine .sl cell h1 h2 h3 h4 h5 h6 (λi x j A hi hj=>?_) ih;let⟨ad,e,hc⟩:=h7 i x j A hi hj;exact⟨ad,e,l.cell hc⟩
 |pz cell h1 h2 ih=>exact .pz cell (λj A hj=>l.cell (h1 j A hj)) ih
 |pnil=>exact .pnil
 |clo=>exact .clo
 |nilf=>exact .nilf
 |ifc _ ih=>exact .ifc ih
 |nili=>exact .nili
omit [Dfr] in
theorem Rv.one{v:Value}{A:AV C.D}(h:Rv C Z v A):v.oneCell'=true:=by cases h<;>rfl
omit [Dfr] in
def zx(C:Cod)(T:Nat):Ty (C.D T) where
 size:=C.size T
 agg:=C.agg T
 rel Z cs x:=cs.length=C.size T/\∀(j:Nat) A,(C.emb T x)[j]?=E A->∃u,cs[j]?=E u/\Rv C Z u A
 len h:=h.1
 mono l h:=⟨h.1,λj A hj=>let⟨u,h1,h2⟩:=h.2 j A hj;⟨u,h1,h2.mono l⟩⟩
 one:=by
  intro Z cs x h u hu;let⟨j,hj⟩:=qI.1 hu;have hlt:=(UG.1 hj).1;have:j < (C.emb T x).length:=by rw[C.len,<- h.1];exact hlt
  let⟨w,h1,h2⟩:=h.2 j _ (UM this);rw[hj] at h1;cases h1;exact h2.one
 sz:=C.sz T
theorem zin{T:Nat}{xs:List (C.D T)}{cs:List Value}:(zx C T).rels Z cs xs↔cs.length=xs.length * C.size T/\∀(i:Nat) x (j:Nat) A,xs[i]?=E x->(C.emb T x)[j]?=E A->∃u,cs[i * C.size T+j]?=E u/\Rv C Z u A:=by
 constructor
 ·intro r;refine⟨(zx C T).rels_len r,λi x j A hi hj=>?_⟩;let⟨_,h⟩:=(zx C T).rels_get i r hi;let⟨u,h1,h2⟩:=h j A hj;refine⟨u,?_,h2⟩;have hjl:j < C.size T:=by grind
  rw[Dk (show j < (zx C T).size from hjl),Dl] at h1;exact h1
 ·rintro⟨hl,h⟩;refine Ty.rels_of hl λi x hi=>?_
  have hil:=(UG.1 hi).1;refine⟨?_,λj A hj=>?_⟩
  ·show(qS (C.size T) (qW (i * C.size T) cs)).length=C.size T;simp only[Do,UU,hl];have:(i+1) * C.size T<=xs.length * C.size T:=Dn _ hil;grind
  ·let⟨u,h1,h2⟩:=h i x j A hi hj;have hjl:j < C.size T:=by rw[<- C.len T x];grind
   refine⟨u,?_,h2⟩;show(qS (C.size T) (qW (i * C.size T) cs))[j]?=E u;grind
omit [Dfr] in
theorem Rv.slAt{T:Nat}{s:Sl (C.D T)}{clip:Bool}{v:Value}(h:Rv C Z v (.sl T s clip)):∃a n c,v = .slice a n c/\slAt (zx C T) Z a n c s/\(clip=G->c=n):=by
 cases h with
 | @sl _ _ _ a n c cell h1 h2 h3 h4 h5 h6 h7 h8=>
  refine⟨a,n,c,rfl,⟨h1,h2,h3,h4,h5,?_⟩,h6⟩
  let cells:List Value:=(Y (s.xs.length * C.size T)).map λk=>cell (k / C.size T) (k % C.size T)
  have key:∀(i:Nat) x (j:Nat) A,s.xs[i]?=E x->(C.emb T x)[j]?=E A->cells[i * C.size T+j]?=E (cell i j):=by
   intro i x j A hi hj;have hjl:j < C.size T:=by rw[<- C.len T x];grind
   have hil:=(UG.1 hi).1;have hlt:i * C.size T+j < s.xs.length * C.size T:=by
    have:(i+1) * C.size T<=s.xs.length * C.size T:=Dn _ hil;grind
   have hd:(i * C.size T+j) / C.size T=i:=by rw[qG,Nat.mul_add_div (by omega),Nat.div_eq_of_lt hjl];rfl
   have hm:(i * C.size T+j) % C.size T=j:=by rw[qG,Nat.mul_add_mod,Nat.mod_eq_of_lt hjl]
   show((Y (s.xs.length * C.size T)).map λk=>cell (k / C.size T) (k % C.size T))[i * C.size T+j]?=E (cell i j);grind
  refine⟨cells,zin.2 ⟨by simp[cells],λi x j A hi hj=>⟨_,key i x j A hi hj,h8 i x j A hi hj⟩⟩,λk u hk=>?_⟩;have hkl:k < s.xs.length * C.size T:=by grind
  have h0:0 < C.size T:=by
   grind
  have hi:k / C.size T < s.xs.length:=by rw[Nat.div_lt_iff_lt_mul h0];exact hkl
  have hm:=Nat.mod_lt k h0;have hdm:k / C.size T * C.size T+k % C.size T=k:=by rw[qG];exact Nat.div_add_mod k _
  have hj:k % C.size T < (C.emb T s.xs[k / C.size T]).length:=by rw[C.len];exact hm
  have e1:=key _ _ _ _ (UM hi) (UM hj);let⟨ad,ha,hc⟩:=h7 _ _ _ _ (UM hi) (UM hj);grind
theorem Rv.of_slAt{T:Nat}{s:Sl (C.D T)}{clip:Bool}{a:U7 Addr}{n c:Nat}(h:Px.slAt (zx C T) Z a n c s)(hc:clip=G->c=n):Rv C Z (.slice a n c) (.sl T s clip):=by
 let⟨h1,h2,h3,h4,h5,cells,h6,h7⟩:=h;let⟨hl,h8⟩:=zin.1 h6;refine .sl (λi j=>(cells[i * C.size T+j]?).getD default) h1 h2 h3 h4 h5 hc (λi x j A hi hj=>?_) (λi x j A hi hj=>?_)
 ·grind
 grind
omit [Dfr] in
theorem Rv.vrel{T:Nat}{s:Sl (C.D T)}{clip:Bool}{v:Value}(h:Rv C Z v (.sl T s clip)):(tSl (zx C T)).vrel Z v s:=by
 obtain⟨a,n,c,rfl,h,_⟩:=h.slAt;exact YN.2 ⟨a,n,c,rfl,h⟩
theorem Rv.of_vrel{T:Nat}{s:Sl (C.D T)}{v:Value}(h:(tSl (zx C T)).vrel Z v s):Rv C Z v (.sl T s N):=by
 obtain⟨a,n,c,rfl,k⟩:=YN.1 h;exact .of_slAt k (by simp)
structure Loc where
 a:Addr
 sub:Nat->Value
instance:Inhabited Loc:=⟨⟨default,λ_ =>.slice F 0 0⟩⟩
abbrev Loc.add(l:Loc)(o:Nat):Addr:=l.a.add o
structure Val where
 hdr:Nat->Value
 adr:Nat->Loc
def NX.val(C:Cod)(h:Value):NX->Value
 | .whole=>h
 | .part U lo hi=>vu h lo hi (C.size U)
 | .elem U k off =>.pointer (E (zh h (k.toNat * C.size U+off)))
def zaV(f:Nat):List Value->Value
 |[.tuple a] =>.func (.func f) a #[]
 |vs =>.func (.func f) #[] vs.toArray
theorem znk(f:Nat){vs:List Value}(h:∀v∈vs,v.oneCell'=G):zaV f vs = .func (.func f) #[] vs.toArray:=by
 unfold zaV;split
 ·rename_i a;have:=h (.tuple a) (by simp);cases this
 ·rfl
theorem ztd(f:Nat)(vs:List Value):(zaV f vs).oneCell'=true:=by
 unfold zaV;split<;>rfl
mutual
def VR(C:Cod)(Z:FS)(ν:Val):Value->AV C.D->Prop
 |v,.row id=>v=ν.hdr id
 |v,.pc id off=>v = .pointer (E ((ν.adr id).add off))
 |v,.pr id T i off=>v = .pointer (E (zh (ν.hdr id) (i.toNat * C.size T+off)))
 |v,.nx id _ i x=>v=x.val C ((ν.adr id).sub i.toNat)/\v.oneCell'=G
 |v,.agg cs=>∃vs:List Value,v = .agg vs.toArray/\VRs C Z ν vs cs
 |v,.tup cs=>∃vs:List Value,v = .tuple vs.toArray/\VRs C Z ν vs cs
 |v,.clo f caps=>∃vs:List Value,v=zaV f vs/\VRs C Z ν vs caps
 |v,.ifc t A=>∃u,v = .iface t u/\VR C Z ν u A
 |_,.und=>True
 |v,.nils=>v = .slice F 0 0
 |v,A=>Rv C Z v A
def VRs(C:Cod)(Z:FS)(ν:Val):List Value->List (AV C.D)->Prop
 |[],[]=>True
 |v::vs,A::As=>VR C Z ν v A/\VRs C Z ν vs As
 |_,_=>False
end
variable {ν:Val}
omit [Dfr] in
theorem VR.mono(l:Z.le τ):∀{A:AV C.D}{v:Value},VR C Z ν v A->VR C τ ν v A
 | .row _,_,h=>h
 | .pc _ _,_,h=>h
 | .pr _ _ _ _,_,h=>h
 | .nx _ _ _ _,_,h=>h
 | .agg cs,_,⟨vs,e,h⟩=>⟨vs,e,go vs cs h⟩
 | .tup cs,_,⟨vs,e,h⟩=>⟨vs,e,go vs cs h⟩
 | .clo _ cs,_,⟨vs,e,h⟩=>⟨vs,e,go vs cs h⟩
 | .ifc _ A,_,⟨u,e,h⟩=>⟨u,e,VR.mono l h⟩
 | .und,_,_=>trivial
 | .nils,_,h=>h
 | .int _ _,_,h=>Rv.mono l h
 | .bool _,_,h=>Rv.mono l h
 | .str _,_,h=>Rv.mono l h
 | .sl _ _ _,_,h=>Rv.mono l h
 | .pz _ _ _,_,h=>Rv.mono l h
 | .pnil,_,h=>Rv.mono l h
 | .nilf,_,h=>Rv.mono l h
 | .nili,_,h=>Rv.mono l h
where go:∀(vs:List Value) (cs:List (AV C.D)),VRs C Z ν vs cs->VRs C τ ν vs cs
 |[],[],_=>trivial
 |_::vs,_::cs,⟨h,k⟩=>⟨VR.mono l h,go vs cs k⟩
 |[],_::_,h=>h.elim
 |_::_,[],h=>h.elim
omit [Dfr] in
theorem VRs.mono(l:Z.le τ){vs:List Value}{cs:List (AV C.D)}(h:VRs C Z ν vs cs):VRs C τ ν vs cs:=VR.mono.go l vs cs h
theorem Rv.vr:∀{A:AV C.D}{v:Value},Rv C Z v A->VR C Z ν v A
 |_,_,h=>by
  induction h with
  |int=>exact .int
  |bool=>exact .bool
  |str=>exact .str
  |sl cell h1 h2 h3 h4 h5 h6 h7 h8 ih=>exact Rv.sl cell h1 h2 h3 h4 h5 h6 h7 h8
  |pz cell h1 h2 ih=>exact Rv.pz cell h1 h2
  |pnil=>exact .pnil
  |clo=>exact⟨[],rfl,trivial⟩
  |nilf=>exact .nilf
  |ifc _ ih=>exact⟨_,rfl,ih⟩
  |nili=>exact .nili
omit [Dfr] in
theorem VR.rv:∀{A:AV C.D}{v:Value},A.base=G->VR C Z ν v A->Rv C Z v A
 | .int _ _,_,_,h=>h
 | .bool _,_,_,h=>h
 | .str _,_,_,h=>h
 | .sl _ _ _,_,_,h=>h
 | .pz _ _ _,_,_,h=>h
 | .pnil,_,_,h=>h
 | .nilf,_,_,h=>h
 | .nili,_,_,h=>h
 | .clo f [],_,_,⟨vs,e,h⟩=>by
  cases vs with
  |nil=>rw[e];exact .clo
  |cons=>exact h.elim
 | .ifc t A,_,hb,⟨u,e,h⟩=>by rw[e];exact .ifc (VR.rv (A:=A) hb h)
omit [Dfr] in
theorem VR.one:∀{A:AV C.D}{v:Value},VR C Z ν v A->A.leaf=G->(∀i,(ν.hdr i).oneCell'=G)->v.oneCell'=G
 | .row _,_,h,_,hh=>by rw[h];exact hh _
 | .pc _ _,_,h,_,_=>by rw[h];rfl
 | .pr _ _ _ _,_,h,_,_=>by rw[h];rfl
 | .nx _ _ _ _,_,h,_,_=>h.2
 | .clo _ cs,_,⟨vs,e,h⟩,_,_=>by rw[e];exact ztd _ _
 | .ifc _ A,_,⟨u,e,h⟩,_,_=>by rw[e];rfl
 | .nils,_,h,_,_=>by rw[h];rfl
 | .int _ _,_,h,_,_=>Rv.one h
 | .bool _,_,h,_,_=>Rv.one h
 | .str _,_,h,_,_=>Rv.one h
 | .sl _ _ _,_,h,_,_=>Rv.one h
 | .pz _ _ _,_,h,_,_=>Rv.one h
 | .pnil,_,h,_,_=>Rv.one h
 | .nilf,_,h,_,_=>Rv.one h
 | .nili,_,h,_,_=>Rv.one h
omit [Dfr] in
theorem VRs.len:∀{vs:List Value}{cs:List (AV C.D)},VRs C Z ν vs cs->vs.length=cs.length
 |[],[],_=>rfl
 |_::vs,_::cs,⟨_,k⟩=>by simp[VRs.len k]
 |[],_::_,h=>h.elim
 |_::_,[],h=>h.elim
omit [Dfr] in
theorem VRs.get:∀{vs:List Value}{cs:List (AV C.D)},VRs C Z ν vs cs->∀(j:Nat) A,cs[j]?=E A->∃u,vs[j]?=E u/\VR C Z ν u A
 |[],[],_,j,A,h=>by simp at h
 |v::vs,B::cs,⟨h,k⟩,0,A,e=>by grind
 |v::vs,B::cs,⟨h,k⟩,j+1,A,e=>by simpa using k.get j A (by simpa using e)
 |[],_::_,h,_,_,_=>h.elim
 |_::_,[],h,_,_,_=>h.elim
omit [Dfr] in
theorem VRs.of:∀{vs:List Value}{cs:List (AV C.D)},vs.length=cs.length->(∀(j:Nat) u A,vs[j]?=E u->cs[j]?=E A->VR C Z ν u A)->VRs C Z ν vs cs
 |[],[],_,_=>trivial
 |v::vs,B::cs,hl,h=>⟨h 0 v B rfl rfl,VRs.of (by simpa using hl) λj u A h1 h2=>h (j+1) u A (by simpa using h1) (by simpa using h2)⟩
 |[],_::_,hl,_=>by simp at hl
 |_::_,[],hl,_=>by simp at hl
omit [Dfr] in
theorem VRs.rel{vs:List Value}{cs:List (AV C.D)}(h:VRs C Z ν vs cs){j:Nat}{u:Value}{A:AV C.D}(h1:vs[j]?=E u)(h2:cs[j]?=E A):VR C Z ν u A:=by
 let⟨w,e,k⟩:=h.get j A h2;grind
omit [Dfr] in
theorem VRs.drop{vs:List Value}{cs:List (AV C.D)}(h:VRs C Z ν vs cs)(m:Nat):VRs C Z ν (vs.drop m) (cs.drop m):=
 .of (by simp[h.len]) λj u A h1 h2=>h.rel (j:=m+j) (by simpa using h1) (by simpa using h2)
omit [Dfr] in
theorem VRs.take{vs:List Value}{cs:List (AV C.D)}(h:VRs C Z ν vs cs)(m:Nat):VRs C Z ν (vs.take m) (cs.take m):=
 .of (by simp[h.len]) λj u A h1 h2=>by
  rw[List.getElem?_take] at h1 h2;split at h1
  ·rename_i hlt;rw[jv hlt] at h2;exact h.rel h1 h2
  ·cases h1
omit [Dfr] in
theorem VRs.append:∀{vs us:List Value}{cs ds:List (AV C.D)},VRs C Z ν vs cs->VRs C Z ν us ds->VRs C Z ν (vs++us) (cs++ds)
 |[],_,[],_,_,k=>k
 |_::vs,_,_::cs,_,⟨h,h'⟩,k=>⟨h,VRs.append h' k⟩
 |[],_,_::_,_,h,_=>h.elim
 |_::_,_,[],_,h,_=>h.elim
def zr{D:Nat->Type}:AV D->List (AV D)
 | .agg cs=>cs
 |v=>[v]
def zbB{D:Nat->Type}(agg:Bool)(cs:List (AV D)):AV D:=bif agg then .agg cs else match cs with
 |[c]=>c
 |_ =>.und
omit [Dfr] in
theorem VRs.val{vs:List Value}{cs:List (AV C.D)}{agg:Bool}(h:VRs C Z ν vs cs):VR C Z ν (yA agg vs) (zbB agg cs):=by
 cases agg with
 |true=>exact⟨vs,rfl,h⟩
 |false=>
  match vs,cs,h with
  |[],[],_=>trivial
  |[u],[A],h=>exact h.1
  |_::_::_,_::_::_,h=>trivial
omit [Dfr] in
theorem VR.cells:∀{A:AV C.D}{v:Value},VR C Z ν v A->A.leaf=G\/(∃cs,A = .agg cs)->(∀i,(ν.hdr i).oneCell'=G)->VRs C Z ν v.cells.toList (zr A):=by
 intro A v h hl hh;rcases hl with hl | ⟨cs,rfl⟩
 ·have:=h.one hl hh;have e:v.cells.toList=[v]:=by cases v<;>simp_all[qO,qo]
  have e2:zr A=[A]:=by cases A<;>first | rfl | cases hl
  rw[e,e2];exact⟨h,trivial⟩
 ·obtain⟨vs,rfl,h⟩:=h;simpa[qo,zr] using h
end
end
section
variable [Dfr]
inductive Own where
 |all
 |out (i:Int)
 |upto (k:Int)
 |fix
def Own.fl:Own->Nat->Nat
 | .all,_=>1
 | .out i,j=>if j=i.toNat then 2 else 1
 | .upto k,j=>if j < k.toNat then 1 else 0
 | .fix,_=>1
section
variable {C:Cod}{Z τ:FS}{ν:Val}
def Zn(C:Cod)(T:Nat)(x:C.D T):AV C.D:=((C.emb T x)[C.nst T]?).getD .und
def yW(C:Cod)(T:Nat)(Z:FS)(h:zc)(cs:List Value)(p:C.D T×Nat×Value):Prop:=
 cs.length=C.size T/\(∀u∈cs,u.oneCell'=G)/\(∀(j:Nat) A,(C.emb T p.1)[j]?=E A->j≠C.nst T->∃u,cs[j]?=E u/\Rv C Z u A)/\cs[C.nst T]?=E p.2.2/\
 (p.2.1=0->Rv C Z p.2.2 (Zn C T p.1))/\(p.2.1=1->∃U s,Zn C T p.1 = .sl U s N/\zn (zx C U).o U p.2.2 s Z h)
omit [Dfr] in
theorem yW.mono{T:Nat}{h g:zc}{cs:List Value}{p:C.D T×Nat×Value}(l:Z.le τ)(m:h.le g)(r:yW C T Z h cs p):yW C T τ g cs p:=by
 let⟨h1,h2,h3,h4,h5,h6⟩:=r;refine⟨h1,h2,λj A hj hn=>?_,h4,λe=>(h5 e).mono l,λe=>?_⟩
 ·let⟨u,k1,k2⟩:=h3 j A hj hn;exact⟨u,k1,k2.mono l⟩
 ·let⟨U,s,k1,k2⟩:=h6 e;exact⟨U,s,k1,k2.mono l m⟩
def Zd(C:Cod)(T:Nat):OTy (C.D T×Nat×Value) where
 size:=C.size T
 agg:=C.agg T
 rel Z h cs p:=yW C T Z h cs p
 len h:=h.1
 mono l m r:=r.mono l m
 one r:=r.2.1
 sz:=C.sz T
theorem yW.nlt{T:Nat}{h:zc}{cs:List Value}{p:C.D T×Nat×Value}(r:yW C T Z h cs p):C.nst T < C.size T:=by
 have:=(UG.1 r.2.2.2.1).1;rw[<- r.1];exact this
def zfm(C:Cod)(T:Nat)(x:C.D T)(id:Nat)(i:Int):List (AV C.D):=(C.emb T x).set (C.nst T) (.nx id T i .whole)
theorem yW.vrs{T id:Nat}{i:Int}{x:C.D T}{f:Nat}{h:zc}{cs:List Value}(r:yW C T Z h cs (x,f,(ν.adr id).sub i.toNat)):VRs C Z ν cs (zfm C T x id i):=by
 refine .of (by rw[r.1,zfm,List.length_set,C.len]) λj u A h1 h2=>?_
 unfold zfm at h2;rw[UL] at h2;split at h2
 ·rename_i e;subst e;split at h2
  ·cases h2;have h4:=r.2.2.2.1;rw[h1] at h4;refine⟨W.inj h4,?_⟩;exact r.2.1 u (UW h1)
  ·cases h2
 ·rename_i e;let⟨w,k1,k2⟩:=r.2.2.1 j A h2 (λe'=>e e'.symm);rw[h1] at k1;cases k1;exact k2.vr
def hpl(C:Cod)(T:Nat)(sub:Nat->Value)(s:Sl (C.D T))(g:Own):Sl (C.D T×Nat×Value):=⟨s.xs.mapIdx λj x=>(x,g.fl j,sub j),s.nn⟩
theorem WF{T:Nat}{sub:Nat->Value}{s:Sl (C.D T)}{g:Own}:(hpl C T sub s g).xs.length=s.xs.length:=by simp[hpl]
theorem zru{T:Nat}{sub:Nat->Value}{s:Sl (C.D T)}{g:Own}:(hpl C T sub s g).len=s.len:=by simp[hpl,Sl.len]
theorem WG{T:Nat}{sub:Nat->Value}{s:Sl (C.D T)}{g:Own}{i:Int}{q:C.D T}(h:za s i=E q):za (hpl C T sub s g) i=E (q,g.fl i.toNat,sub i.toNat):=by
 let⟨h0,h1⟩:=yK.1 h;exact yK.2 ⟨h0,by simp[hpl,h1]⟩
theorem zd6 {T:Nat}{sub sub':Nat->Value}{s:Sl (C.D T)}{g g':Own}{i:Int}{q':C.D T}(h1:∀j,j < s.xs.length->j≠i.toNat->g'.fl j=g.fl j/\sub' j=sub j) :
    (hpl C T sub s g).set i (q',g'.fl i.toNat,sub' i.toNat)=hpl C T sub' (s.set i q') g':=by
 unfold hpl Sl.set;congr 1;apply UK;intro j;rw[UL,Dx,Dx,UL];by_cases e:i.toNat=j
 ·grind
 · rw[jx e,jx e];cases hj:s.xs[j]? with
   |none=>rfl
   |some y=>
    grind
theorem zc7{T:Nat}{sub sub':Nat->Value}{s:Sl (C.D T)}{g g':Own}(h:∀j,j < s.xs.length->g.fl j=g'.fl j/\sub j=sub' j):hpl C T sub s g=hpl C T sub' s g':=by
 unfold hpl;congr 1;apply UK;intro j;rw[Dx,Dx];cases hj:s.xs[j]? with
 |none=>rfl
 |some y=>
  grind
def Own.rd:Own->Bool
 | .out _=>N
 |_=>G
theorem Own.rd_fl{g:Own}(h:g.rd=G)(j:Nat):g.fl j=0\/g.fl j=1:=by
 cases g with
 |all=>exact .inr rfl
 |out i=>cases h
 |upto k=>unfold Own.fl;grind
 |fix=>exact .inr rfl
def SlR(C:Cod)(Z:FS)(w:World)(v:Value)(U:Nat)(u:Sl (C.D U)):Prop:=(∃c,Rv C Z v (.sl U u c))\/∃h,zn (zx C U).o U v u Z h/\h.sub w
theorem yW.slr{T:Nat}{x:C.D T}{f:Nat}{v:Value}{h:zc}{cs:List Value}{w:World}{U:Nat}{u:Sl (C.D U)}{c:Bool}(r:yW C T Z h cs (x,f,v))(hf:f=0\/f=1)(hs:h.sub w)(hu:Zn C T x = .sl U u c):SlR C Z w v U u:=by
 let⟨_,_,_,_,h5,h6⟩:=r;rcases hf with e | e
 ·left;grind
 ·right;grind
theorem zio {T:Nat}{sub:Nat->Value}{s:Sl (C.D T)}{g:Own}{v:Value}{h:zc}{w:World}{i:Int}{q:C.D T}(hr:zn (Zd C T) T v (hpl C T sub s g) Z h) (hs:h.sub w) (hq:za s i=E q) :
    ∃cs k,yW C T Z k cs (q,g.fl i.toNat,sub i.toNat)/\k.sub w/\∀(j:Nat) (u:Value),cs[j]?=E u->w.cell? ((zh v (i.toNat * C.size T)).add j)=E u:=by
 let⟨h1,h2,m1,m2,n1,n2,d⟩:=(Vy (v:=v) (e:=T) (i:=i) hr (WG hq)).uncons;let⟨cs,c1,c2,p1,p2,p3,p4,p5⟩:=m2.one_of;have p5:yW C T Z c2 cs (q,g.fl i.toNat,sub i.toNat):=p5;refine⟨cs,c2,p5,hs.mono (p2.trans n2),λj u hj=>?_⟩;exact p4.cell (hs.mono (p1.trans n2)) hj
def zhr(C:Cod)(T:Nat):Ty (C.D T×Nat×Value) where
 size:=C.size T
 agg:=C.agg T
 rel Z cs p:=cs.length=C.size T/\(∀u∈cs,u.oneCell'=G)/\cs[C.nst T]?=E p.2.2/\(p.2.1=0\/p.2.1=1->(zx C T).rel Z cs p.1)
 len h:=h.1
 mono l h:=⟨h.1,h.2.1,h.2.2.1,λe=>(zx C T).mono l (h.2.2.2 e)⟩
 one h:=h.2.1
 sz:=C.sz T
omit [Dfr] in
theorem yW.fast{T:Nat}{h:zc}{cs:List Value}{p:C.D T×Nat×Value}(l:Z.le τ)(hh:∀b o v,h b (o+1)=E (.cell v)->τ b o=E v)(r:yW C T Z h cs p)(e:p.2.1=0\/p.2.1=1):(zx C T).rel τ cs p.1:=by
 let⟨h1,h2,h3,h4,h5,h6⟩:=r;refine⟨h1,λj A hj=>?_⟩;by_cases hn:j=C.nst T
 ·subst hn;refine⟨_,h4,?_⟩;have hA:Zn C T p.1=A:=by unfold Zn;rw[hj];rfl
  rcases e with e | e
  ·rw[<- hA];exact(h5 e).mono l
  ·let⟨U,s,k1,k2⟩:=h6 e;rw[<- hA,k1];exact Rv.of_vrel (k2.fast l hh)
 ·let⟨u,k1,k2⟩:=h3 j A hj hn;exact⟨u,k1,k2.mono l⟩
instance (T:Nat):Frz (Zd C T) (zhr C T):=⟨rfl,rfl,λl hh r=>⟨r.1,r.2.1,r.2.2.2.1,λe=>yW.fast l hh r e⟩⟩
theorem zkJ{T:Nat}{sub:Nat->Value}{s:Sl (C.D T)}{g:Own}{v:Value}(hg:g.rd=G)(h:(tSl (zhr C T)).vrel τ v (hpl C T sub s g)):(tSl (zx C T)).vrel τ v s:=by
 let⟨a,n,c,e,h1,h2,h3,h4,h5,cells,h6,h7⟩:=YN.1 h;rw[WF] at h1;refine YN.2 ⟨a,n,c,e,h1,h2,h3,h4,h5,cells,?_,h7⟩;refine Ty.rels_of (by rw[(zhr C T).rels_len h6,WF];rfl) λi x hx=>?_
 have:=(zhr C T).rels_get i h6 (x:=(x,g.fl i,sub i)) (by simp[hpl,hx]);exact this.2.2.2 (Own.rd_fl hg i)
theorem zxh{T:Nat}{sub:Nat->Value}{s:Sl (C.D T)}{g:Own}{v:Value}(hg:g.rd=G)(h:(tSl (zhr C T)).vrel τ v (hpl C T sub s g)){i:Int}{q:C.D T}(hq:za s i=E q){U:Nat}{u:Sl (C.D U)}{c:Bool}(hu:Zn C T q = .sl U u c):Rv C τ (sub i.toNat) (.sl U u c):=by
 let⟨a,n,c',e,h1,h2,h3,h4,h5,cells,h6,h7⟩:=YN.1 h;let⟨_,hx⟩:=yK.1 hq;have h8:=(zhr C T).rels_get i.toNat h6 (x:=(q,g.fl i.toNat,sub i.toNat)) (by simp[hpl,hx]);let⟨k1,k2,k3,k4⟩:=h8;have hr:=k4 (Own.rd_fl hg _);have hh:Zn C T q ≠.und:=by grind
 unfold Zn at hu hh;cases hgq:(C.emb T q)[C.nst T]? with
 |none=>grind
 |some A=>
  rw[hgq] at hu;have hu:A = .sl U u c:=hu;let⟨w,e1,e2⟩:=hr.2 _ _ hgq;grind
end
end
section
variable [Dfr]
inductive Ent(C:Cod) where
 |cell (cs:List (AV C.D))
 |row (T:Nat) (s:Sl (C.D T))
 |obj (k T:Nat) (b:ByteArray) (s:Sl (C.D T))
 |orow (T:Nat) (s:Sl (C.D T)) (g:Own)
def Own.isFix:Own->Bool
 | .fix=>G
 |_=>N
def Z0{C:Cod}:U7 (Ent C)->Bool
 |some (.orow _ _ g)=>g.isFix
 |_=>N
structure St(C:Cod) where
 env:Nat->AV C.D
 heap:Nat->U7 (Ent C)
def upd{α:Type}(f:Nat->α)(i:Nat)(v:α):Nat->α:=λj=>bif I j i then v else f j
theorem zp{α:Type}{f:Nat->α}{i:Nat}{v:α}:upd f i v i=v:=by simp[upd]
theorem zq{α:Type}{f:Nat->α}{i j:Nat}{v:α}(h:j≠i):upd f i v j=f j:=by
 unfold upd;cases e:I j i with
 |true=>exact absurd (ge e) h
 |false=>rfl
def chk{α:Type}(b:Bool)(x:U7 α):U7 α:=bif b then x else F
theorem zb{α:Type}{b:Bool}{x:U7 α}{y:α}(h:chk b x=E y):b=G/\x=E y:=by
 cases b with
 |true=>exact⟨rfl,h⟩
 |false=>cases h
section
variable {C:Cod}
def St.put(S:St C)(d:Nat)(v:AV C.D):St C:={S with env:=upd S.env d v}
def ZY{D:Nat->Type}:Value->AV D
 | .int k n =>.int k n
 | .bool b =>.bool b
 | .string s =>.str s
 | .pointer F =>.pnil
 | .slice F 0 0 =>.nils
 | .nilFunc =>.nilf
 | .nilIface =>.nili
 |_ =>.und
def zbC{D:Nat->Type}:Value->AV D
 | .agg a =>.agg (a.toList.map ZY)
 |v=>ZY v
def St.op(S:St C):Operand->AV C.D
 | .tmp t=>S.env t
 | .const v=>zbC v
 | .func f =>.clo f []
 | .global _ =>.und
omit [Dfr] in
def zH(C:Cod)(ν:Val)(vs:Nat->List Value)(id:Nat):U7 (Ent C)->Priv
 |some (.cell _) =>.cell (ν.adr id).a (vs id)
 |some (.row T s) =>.row (zx C T).o T (ν.hdr id) s
 |some (.obj k T b s)=>C.opv k T (ν.hdr id) (ν.adr id).a b s
 |some (.orow T s g) =>.row (Zd C T) T (ν.hdr id) (hpl C T (ν.adr id).sub s g)
 |none =>.cell default []
omit [Dfr] in
structure Abs(S:St C)(ν:Val)(vs:Nat->List Value)(ids:List Nat)(L:List (Nat×Value))(b:Nat->Value)(Z:FS)(PV:List Priv):Prop where
 nd:ids.Nodup
 dom:∀id,id∈ids↔(S.heap id).isSome=G
 pv:PV=ids.map λid=>zH C ν vs id (S.heap id)
 cell:∀id cs,S.heap id=E (.cell cs)->VRs C Z ν (vs id) cs
 env:∀t,VR C Z ν (look L b t) (S.env t)
 one:∀i,(ν.hdr i).oneCell'=G
variable {S:St C}{ν:Val}{vs:Nat->List Value}{ids:List Nat}{L:List (Nat×Value)}{b:Nat->Value}{Z:FS}{PV:List Priv}{P:Program}
omit [Dfr] in
theorem Abs.at(h:Abs S ν vs ids L b Z PV){id:Nat}{e:Ent C}(he:S.heap id=E e):∃m:Nat,PV[m]?=E (zH C ν vs id (E e))/\ids[m]?=E id:=by
 let⟨m,hm⟩:=qI.1 ((h.dom id).2 (by rw[he];rfl));exact⟨m,by rw[h.pv,UE,hm,UF,he],hm⟩
theorem zbD:∀v:Value,VR C Z ν v (ZY v)
 | .int _ _=>Rv.int
 | .bool _=>Rv.bool
 | .string _=>Rv.str
 | .pointer F=>Rv.pnil
 | .slice F 0 0=>by unfold ZY VR;rfl
 | .nilFunc=>Rv.nilf
 | .nilIface=>Rv.nili
 | .float .. | .complex .. | .pointer (E _) | .map _ | .chan _ | .func .. | .iface .. | .agg _ | .tuple _=>by unfold ZY;trivial
 | .slice (E _) _ _=>by unfold ZY;trivial
 | .slice F (n+1) _=>by unfold ZY;trivial
 | .slice F 0 (n+1)=>by unfold ZY;trivial
theorem xL:∀l:List Value,VRs C Z ν l (l.map ZY)
 |[]=>trivial
 |v::l=>⟨zbD v,xL l⟩
theorem zkK(v:Value):VR C Z ν v (zbC v):=by
 cases v<;>first | exact zbD _ | exact⟨_,rfl,xL _⟩
omit [Dfr] in
theorem Abs.op(h:Abs S ν vs ids L b Z PV)(x:Operand):VR C Z ν (opv L b x) (S.op x):=by
 cases x with
 |tmp t=>exact h.env t
 |const v=>exact zkK v
 |global g=>trivial
 |func f=>exact⟨[],rfl,trivial⟩
def Yl(P:Program)(Z:FS)(PV:List Priv)(L:List (Nat×Value))(b:Nat->Value)(o:Oper)(R:Value->Prop):Prop:=
 ∀w,Y4 Z PV w->∃v,(execOp (opv L b) o).run P w = .ok (.value v) w/\R v
omit [Dfr] in
theorem Yl.of{o:Oper}{R:Value->Prop}{v:Value}(h:z8 P Z PV L b o v)(hr:R v):Yl P Z PV L b o R:=λw hw=>⟨v,h w hw,hr⟩
theorem Yl.ok{ρ:Type}{n:Nat}{w0:Start}{σ0:FS}{p:U7 ρ}{H:U7 ρ->List (Nat×Value)->FS->List Priv->Prop}{o:Oper}{R:Value->Prop}{d:Nat}(hn:O d n=G)(hd:o.dst=E d)(h:Yl P Z PV L b o R)(hH:∀v,R v->H p ((d,v)::L) Z PV):Xl P n w0 σ0 o p L b Z PV H:=by
 intro r hp a w hi hf K Q hK;let⟨v,h1,h2⟩:=h w hi.held;unfold qc;rw[hf.eval,h1,qA,hd];exact hK p _ Z PV _ w hp hi (hf.put (by simpa[Dd] using hn) v) (hH v h2)
theorem VR.int_inv{v:Value}{k:IntKind}{n:Int}(h:VR C Z ν v (.int k n)):v = .int k n:=by
 have:Rv C Z v (.int k n):=h;cases this;rfl
theorem VR.bool_inv{v:Value}{e:Bool}(h:VR C Z ν v (.bool e)):v = .bool e:=by
 have:Rv C Z v (.bool e):=h;cases this;rfl
theorem VR.str_inv{v:Value}{s:ByteArray}(h:VR C Z ν v (.str s)):v = .string s:=by
 have:Rv C Z v (.str s):=h;cases this;rfl
theorem VR.pnil_inv{v:Value}(h:VR C Z ν v .pnil):v = .pointer none:=by
 have:Rv C Z v .pnil:=h;cases this;rfl
theorem VR.nili_inv{v:Value}(h:VR C Z ν v .nili):v = .nilIface:=by
 have:Rv C Z v .nili:=h;cases this;rfl
theorem VR.sl_vrel{v:Value}{T:Nat}{s:Sl (C.D T)}{c:Bool}(h:VR C Z ν v (.sl T s c)):(tSl (zx C T)).vrel Z v s:=Rv.vrel (show Rv C Z v (.sl T s c) from h)
theorem VR.pz_inv{v:Value}{T:Nat}{x:C.D T}{off:Nat}(h:VR C Z ν v (.pz T x off)):∃(ad:Addr) (cell:Nat->Value),v = .pointer (E (ad.add off))/\(∀(j:Nat) A,(C.emb T x)[j]?=E A->Z.cell (ad.add j)=E (cell j))/\∀(j:Nat) A,(C.emb T x)[j]?=E A->Rv C Z (cell j) A:=by
 have:Rv C Z v (.pz T x off):=h;cases this with
 |pz cell h1 h2=>exact⟨_,cell,rfl,h1,h2⟩
def zd7(b:BinOp)(k:IntKind)(i j:Int):U7 (AV C.D):=
 match b with
 | .add=>E (.int k (k.wrap (i+j)))
 | .sub=>E (.int k (k.wrap (i - j)))
 | .mul=>E (.int k (k.wrap (i * j)))
 | .quo=>(zkx k i j).bind λq=>E (.int k q)
 | .rem=>(zky k i j).bind λq=>E (.int k q)
 | .lss=>E (.bool (decide (i < j)))
 | .leq=>E (.bool (decide (i<=j)))
 | .gtr=>E (.bool (decide (j < i)))
 | .geq=>E (.bool (decide (j<=i)))
 | .eql=>E (.bool (decide (i=j)))
 | .neq=>E (.bool (decide (i≠j)))
 |_=>F
theorem zte {bo:BinOp}{k:IntKind}{i j:Int}{A:AV C.D}{t t' ty:TypeId}{x y:Operand}{d:Nat}{ps:String}{af:Array Edge}{g:U7 (Nat×Bool)}(h:zd7 bo k i j=E A) (hx:opv L b x = .int k i) (hy:opv L b y = .int k j) :
    Yl P Z PV L b ⟨E d,.binOp bo t x y t',ty,ps,af,g⟩ (λv=>VR C Z ν v A):=by
 cases bo<;>simp only[zd7] at h<;>try (cases h;done)
 case add=>cases h;exact .of (zAS hx hy) Rv.int
 case sub=>cases h;exact .of (zAT hx hy) Rv.int
 case mul=>cases h;exact .of (zAU hx hy) Rv.int
 case quo=>
   cases hq:zkx k i j with
   |none=>grind
   |some q=>rw[hq] at h;cases h;exact .of (zA1 hx hy hq) Rv.int
 case rem=>
   cases hq:zky k i j with
   |none=>grind
   |some q=>rw[hq] at h;cases h;exact .of (zA2 hx hy hq) Rv.int
 case lss=>cases h;exact .of (zAV hx hy) Rv.bool
 case leq=>cases h;exact .of (zAW hx hy) Rv.bool
 case gtr=>cases h;exact .of (zAX hx hy) Rv.bool
 case geq=>cases h;exact .of (zAY hx hy) Rv.bool
 case eql=>cases h;exact .of (zAZ hx hy) Rv.bool
 case neq=>cases h;exact .of (zA0 hx hy) Rv.bool
def zoe(P:Program)(eq:TypeId->AV C.D->AV C.D->U7 Bool)(xs ys:List (AV C.D)):List Field->U7 Bool
 |[]=>E G
 |fd::fs=>match P.underlying fd.type,P.info? fd.type with
  | some td, E ti => chk (fd.name != "_" && (I ((xs.drop fd.offset).take ti.size).length ti.size && (I ((ys.drop fd.offset).take ti.size).length ti.size && (Zh td || I ti.size 1)))) <|
   match eq fd.type (zbB (Zh td) ((xs.drop fd.offset).take ti.size)) (zbB (Zh td) ((ys.drop fd.offset).take ti.size)),zoe P eq xs ys fs with
   |some r1,E r2=>E (r1 && r2)
   |_,_=>F
  |_,_=>F
def eqA(P:Program):Nat->TypeId->AV C.D->AV C.D->U7 Bool
 |0,_,_,_=>F
 |f+1,t,A,B=>match P.underlying t,A,B with
  |some (.int _),.int k1 i,.int k2 j=>chk (decide (k1=k2)) (E (decide (i=j)))
  |some .bool,.bool i,.bool j=>E (decide (i=j))
  |some .string,.str i,.str j=>E (decide (i=j))
  |some (.struct fs),.agg xs,.agg ys=>chk (!P.stoodInHeld t) (zoe P (eqA P f) xs ys fs.toList)
  |_,_,_=>F
theorem zxi{t:TypeId}{k k1:IntKind}{i j:Int}(hu:P.underlying t=E (.int k))(f:Nat):Yf P t (f+1) (.int k1 i) (.int k1 j) (decide (i=j)):=λm w=>by
 have:(i == j)=decide (i=j):=by grind
 rw[show m+(f+1)=(m+f)+1 by omega];simp[qv,UY hu,this]
theorem zrv:∀{f:Nat}{t:TypeId}{A B:AV C.D}{r:Bool},eqA P f t A B=E r->∀{u v:Value},VR C Z ν u A->VR C Z ν v B->Yf P t f u v r:=by
 intro f
 induction f with
 |zero=>intro t A B r h;simp[eqA] at h
 |succ f ih=>
  intro t A B r h u v hu hv;unfold eqA at h;split at h
  ·rename_i e;let⟨hk,h⟩:=zb h;cases h;obtain rfl:=Dy hk;rw[hu.int_inv,hv.int_inv];exact zxi e f
  ·rename_i e;cases h;rw[hu.bool_inv,hv.bool_inv];exact(Yf.bool e).mono (by omega)
  ·rename_i e;cases h;rw[hu.str_inv,hv.str_inv];exact(Yf.str e).mono (by omega)
  ·rename_i fs xs ys e;let⟨hh,h'⟩:=zb h;clear h;simp only[Dz] at hh;obtain⟨us,rfl,hus⟩:=hu;obtain⟨ws,rfl,hws⟩:=hv;refine Yf.struct e hh ?_;generalize fs.toList=l at h';clear e
   induction l generalizing r with
   |nil=>simp only[zoe] at h';cases h';rfl
   |cons fd l ihl=>
    simp only[zoe] at h';split at h'
    ·rename_i td ti hud hi;let⟨hc,h⟩:=zb h';split at h
     ·rename_i r1 r2 e1 e2;cases h;simp only[gf,bne_iff_ne,UR] at hc;let⟨h1,h2,h3,h4⟩:=hc;have h2:=ge h2;have h3:=ge h3;have h5:Zh td=N->ti.size=1:=λh=>by rw[h] at h4;exact ge (by simpa using h4)
      exact⟨_,_,r1,r2,zkG hud hi rfl (by rw[<- h2];simp[hus.len]) h5 rfl,zkG hud hi rfl (by rw[<- h3];simp[hws.len]) h5 rfl,h1,ih e1 ((hus.drop _).take _).val ((hws.drop _).take _).val,ihl e2,rfl⟩
     ·cases h
    ·cases h'
  ·cases h
end
end
section
variable [Dfr]
section
variable {C:Cod}{S:St C}{ν:Val}{vs:Nat->List Value}{ids:List Nat}{L:List (Nat×Value)}{b:Nat->Value}{Z:FS}{PV:List Priv}{P:Program}
variable {t t' ty:TypeId}{x y z:Operand}{d:Nat}{ps:String}{af:Array Edge}{g:U7 (Nat×Bool)}{A:AV C.D}
def zc8(P:Program)(ty:TypeId)(A:AV C.D):AV C.D:=A
theorem zkL{T:Nat}:VR C Z ν (.slice F 0 0) (.sl T ⟨[],N⟩ G):=
 Rv.sl (λ_ _=>default) rfl rfl (UN _) (UO _) (λ_=>⟨rfl,rfl⟩) (λ_=>rfl) (λi x j A h=>by simp at h) (λi x j A h=>by simp at h)
theorem zc9{v:Value}(h:VR C Z ν v A):VR C Z ν v (zc8 P ty A):=h
def Yv(P:Program)(t:TypeId)(cs:List (AV C.D))(off:Nat):U7 (AV C.D):=
 match P.underlying t,P.info? t with
 |some td,E ti=>chk (I ((cs.drop off).take ti.size).length ti.size && (Zh td || I ti.size 1)) (E (zbB (Zh td) ((cs.drop off).take ti.size)))
 |_,_=>F
theorem zac{cs:List (AV C.D)}{off:Nat}(h:Yv P t cs off=E A):∃td ti,P.underlying t=E td/\P.info? t=E ti/\((cs.drop off).take ti.size).length=ti.size/\(Zh td=N->ti.size=1)/\A=zbB (Zh td) ((cs.drop off).take ti.size):=by
 unfold Yv at h;split at h
 ·rename_i td ti hu hi;let⟨hc,h⟩:=zb h;simp only[gf,UR] at hc;cases h;exact⟨td,ti,hu,hi,ge hc.1,λe=>by have:=hc.2;rw[e] at this;exact ge (by grind),rfl⟩
 ·cases h
theorem wZ {a:Addr}{off:Nat}{vcs:List Value}{cs:List (AV C.D)}(h:Yv P t cs off=E A) (hl:vcs.length=cs.length) (hx:opv L b x = .pointer (E (a.add off))) {w:World}
    (hw:∀(j:Nat) (u:Value),vcs[j]?=E u->w.cell? (a.add j)=E u) (hv:∀agg,VR C Z ν (yA agg ((vcs.drop off).take (match P.info? t with | some ti=>ti.size | none=>0))) (zbB agg ((cs.drop off).take (match P.info? t with | some ti=>ti.size | none=>0)))) :
    ∃v,(execOp (opv L b) ⟨E d,.load t x,ty,ps,af,g⟩).run P w = .ok (.value v) w/\VR C Z ν v A:=by
 obtain⟨td,ti,hu,hi,h1,h2,rfl⟩:=zac h;rw[hi] at hv;have hl2:((vcs.drop off).take ti.size).length=ti.size:=by grind
 refine⟨_,?_,hv (Zh td)⟩
 have:=vM (P:=P) (w:=w) (a.add off) ((vcs.drop off).take ti.size) hu hi hl2.symm (λe=>by grind) (λj u hj=>by
  have hj':j < ti.size:=by
   grind
  rw[Dk hj',Dl] at hj
  rw[Addr.add_add];grind)
 simp[execOp,hx,Instr.loadAt,qX,this]
def zJ{α:Type}(S:St C)(id T:Nat)(i:Int)(K:(U:Nat)->Sl (C.D U)->U7 α):U7 α:=match S.heap id with
 |some (.orow T' s g)=>chk (I T T' && g.rd) ((za s i).bind λq=>match Zn C T' q with
  | .sl U u _=>K U u
  |_=>F)
 |_=>F
theorem xN {α:Type}(hA:Abs S ν vs ids L b Z PV) {id T:Nat}{i:Int}{K:(U:Nat)->Sl (C.D U)->U7 α}{a:α}(h:zJ S id T i K=E a) :
    ∃U u,K U u=E a/\∀w,Y4 Z PV w->SlR C Z w ((ν.adr id).sub i.toNat) U u:=by
 unfold zJ at h;split at h
 · rename_i T' s g hs;let⟨hc,h⟩:=zb h;simp only[gf] at hc;let⟨q,hq,h⟩:=gd h;split at h
   ·rename_i U u c hu;refine⟨U,u,h,λw hw=>?_⟩;let⟨m,hm,_⟩:=hA.at hs;let⟨hh,hr,hsub⟩:=hw.get hm;have hr:zn (Zd C T') T' (ν.hdr id) (hpl C T' (ν.adr id).sub s g) Z hh:=hr;let⟨cs,k,k1,k2,_⟩:=zio (w:=w) hr hsub hq;exact k1.slr (Own.rd_fl hc.2 _) k2 hu
   ·cases h
 ·cases h
omit [Dfr] in
theorem SlR.cases{w:World}{v:Value}{U:Nat}{u:Sl (C.D U)}(h:SlR C Z w v U u)(hw:Y4 Z PV w):(tSl (zx C U)).vrel Z v u\/Y4 Z [.row (zx C U).o U v u] w:=by
 rcases h with⟨c,h⟩ | ⟨h,h1,h2⟩
 ·exact .inl h.vrel
 ·exact .inr ⟨hw.1,h,Sep.one h1,h2⟩
omit [Dfr] in
theorem SlR.form{w:World}{v:Value}{U:Nat}{u:Sl (C.D U)}(h:SlR C Z w v U u)(hw:Y4 Z PV w):∃a c,v = .slice a u.xs.length c/\(a=F->u.xs.length=0)/\u.xs.length<=c:=by
 rcases h.cases hw with hv | hv
 ·obtain⟨a,n,c,rfl,k1,k2,k3,k4,k5,_⟩:=YN.1 hv;grind
 ·let⟨hh,hr,_⟩:=hv.get (m:=0) rfl;obtain⟨a,c,rfl,k2,k3,k3',k4,k5⟩:=zn.form hr;grind
def x8(P:Program)(S:St C)(t:TypeId):AV C.D->U7 (AV C.D)
 | .pc id off=>match S.heap id with
  |some (.cell cs)=>Yv P t cs off
  |_=>F
 | .pz T x off=>Yv P t (C.emb T x) off
 | .pr id T i off=>match S.heap id with
  |some (.row T' s)=>chk (I T T') ((za s i).bind λx=>Yv P t (C.emb T' x) off)
  |some (.orow T' s g)=>chk (I T T') ((za s i).bind λx=>Yv P t (zfm C T' x id i) off)
  |_=>F
 | .nx id T i (.elem U k off)=>zJ S id T i λU' u=>chk (I U U') ((za u k).bind λy=>Yv P t (C.emb U' y) off)
 |_=>F
theorem zf2{T:Nat}{q:C.D T}{cell:Nat->Value}(h:∀(j:Nat) A,(C.emb T q)[j]?=E A->Rv C Z (cell j) A):VRs C Z ν ((Y (C.size T)).map cell) (C.emb T q):=by
 refine .of (by simp[C.len]) λj u A h1 h2=>?_
 have hj:j < C.size T:=by grind
 rw[UE,qK hj,UF] at h1;cases h1;exact(h j A h2).vr
theorem zbE{T:Nat}{q:C.D T}{cs:List Value}(h:(zx C T).rel Z cs q):VRs C Z ν cs (C.emb T q):=
 .of (by rw[h.1,C.len]) λj u A h1 h2=>by
  let⟨w,e,r⟩:=h.2 j A h2;rw[h1] at e;cases e;exact r.vr
omit [Dfr] in
theorem SlR.elem {w:World}{v:Value}{U:Nat}{u:Sl (C.D U)}(h:SlR C Z w v U u) (hw:Y4 Z PV w) {k:Int}{y:C.D U}(hy:za u k=E y) :
    ∃cs,VRs C Z ν cs (C.emb U y)/\∀(j:Nat) (q:Value),cs[j]?=E q->w.cell? ((zh v (k.toNat * C.size U)).add j)=E q:=by
 rcases h with⟨c,h⟩ | ⟨h,h1,h2⟩
 · let⟨hy0,hyi⟩:=yK.1 hy;cases h with
   | @sl _ _ _ a n cc cell h1 h2 h3 h4 h5 h6 h7 h8=>
    refine⟨(Y (C.size U)).map (cell k.toNat),zf2 λj A hj=>h8 _ _ _ _ hyi hj,λj q hj=>?_⟩;rw[UE] at hj;have hjl:j < C.size U:=by
     cases hr:(Y (C.size U))[j]? with
     |none=>grind
     |some z=>grind
    rw[qK hjl,UF] at hj;cases hj;have:j < (C.emb U y).length:=by rw[C.len];exact hjl
    let⟨ad,ha,hc⟩:=h7 _ _ _ _ hyi (UM this);subst ha;have:=hw.1.cell hc;show w.cell? (((zh (.slice (E ad) n cc) _)).add j)=_;rw[show zh (.slice (E ad) n cc) (k.toNat * C.size U)=ad.add (k.toNat * C.size U) from rfl,Addr.add_add];exact this
 ·let⟨cs,e1,e2⟩:=za8 (w:=w) h1 h2 hy (ZZ.of (XR.self (zx C U))) (by show 0+C.size U<=C.size U;omega);exact⟨cs,zbE e1,λj q hj=>by have:=e2 j q hj;rw[Di] at this;exact this⟩
theorem zrw(hA:Abs S ν vs ids L b Z PV)(h:x8 P S t (S.op x)=E A):Yl P Z PV L b ⟨E d,.load t x,ty,ps,af,g⟩ (λv=>VR C Z ν v A):=by
 intro w hw;have hop:=hA.op x;unfold x8 at h;split at h
 ·rename_i id off e;rw[e] at hop;have hop:opv L b x = .pointer (E ((ν.adr id).add off)):=hop;split at h
  ·rename_i cs hcs;let⟨m,hm,_⟩:=hA.at hcs;let⟨hh,hr,hsub⟩:=hw.get hm;have hr:Z2 (ν.adr id).a (vs id) hh:=hr;have hc:=hA.cell id cs hcs;exact wZ h hc.len hop (λj u hj=>hr.cell hsub hj) λagg=>((hc.drop off).take _).val
  ·cases h
 ·rename_i T q off e;rw[e] at hop;let⟨ad,cell,hv,h1,h2⟩:=hop.pz_inv;have hc:=zf2 (ν:=ν) h2;refine wZ h hc.len hv (λj u hj=>?_) λagg=>((hc.drop off).take _).val
  rw[UE] at hj;have hjl:j < C.size T:=by
   cases hr:(Y (C.size T))[j]? with
   |none=>grind
   |some z=>grind
  rw[qK hjl,UF] at hj;cases hj;have:j < (C.emb T q).length:=by rw[C.len];exact hjl
  exact hw.1.cell (h1 j _ (UM this))
 ·rename_i id T i off e;rw[e] at hop;have hop:opv L b x = .pointer (E (zh (ν.hdr id) (i.toNat * C.size T+off))):=hop;split at h
  ·rename_i T' s hs;let⟨hT,h⟩:=zb h;obtain rfl:=ge hT;cases hq:za s i with
   |none=>grind
   |some q=>
    rw[hq] at h;have h:Yv P t (C.emb T q) off=E A:=h;let⟨m,hm,_⟩:=hA.at hs;let⟨hh,hr,hsub⟩:=hw.get hm;have hr:zn (zx C T).o T (ν.hdr id) s Z hh:=hr;let⟨cs,h1,h2⟩:=za8 (w:=w) hr hsub hq (ZZ.of (XR.self (zx C T))) (by show 0+C.size T<=C.size T;omega);have hc:=zbE (ν:=ν) h1;rw[<- Yt] at hop;exact wZ (a:=zh (ν.hdr id) (i.toNat * C.size T)) h hc.len hop (λj u hj=>by have:=h2 j u hj;rw[Di] at this;exact this) λagg=>((hc.drop off).take _).val
  ·rename_i T' s gg hs;let⟨hT,h⟩:=zb h;obtain rfl:=ge hT;let⟨q,hq,h⟩:=gd h;let⟨m,hm,_⟩:=hA.at hs;let⟨hh,hr,hsub⟩:=hw.get hm;have hr:zn (Zd C T) T (ν.hdr id) (hpl C T (ν.adr id).sub s gg) Z hh:=hr;let⟨cs,kf,k1,k2,k3⟩:=zio (w:=w) hr hsub hq;have hc:=k1.vrs (ν:=ν);rw[<- Yt] at hop;exact wZ h hc.len hop k3 λagg=>((hc.drop off).take _).val
  ·cases h
 ·rename_i id T i U k off e;rw[e] at hop;have hop:opv L b x = .pointer (E (zh ((ν.adr id).sub i.toNat) (k.toNat * C.size U+off))):=hop.1;let⟨U',u,h,hS⟩:=xN hA h;let⟨hU,h⟩:=zb h;obtain rfl:=ge hU;let⟨y,hy,h⟩:=gd h;let⟨cs,hc,k3⟩:=(hS w hw).elem (ν:=ν) hw hy;rw[<- Yt] at hop;exact wZ h hc.len hop k3 λagg=>((hc.drop off).take _).val
 ·cases h
def wz(P:Program)(t:TypeId)(bo:BinOp)(A B:AV C.D):U7 (AV C.D):=
 match A,B with
 | .int k i,.int k' j=>chk (decide (k=k')) (zd7 bo k i j)
 | .str s,.str u=>match bo with
  | .eql=>E (.bool (decide (s=u)))
  | .neq=>E (.bool (decide (s≠u)))
  | .add=>chk (decide (s.size+u.size<=9223372036854775807)) (E (.str (s++u)))
  |_=>F
 | .bool e,.bool q=>match P.underlying t,bo with
  |some .bool,.eql=>E (.bool (e == q))
  |some .bool,.neq=>E (.bool (e != q))
  |_,_=>F
 | .sl _ s _,.nils=>match P.underlying t,bo with
  |some (.slice _),.eql=>E (.bool !s.nn)
  |some (.slice _),.neq=>E (.bool s.nn)
  |_,_=>F
 | .nils,.nils=>match P.underlying t,bo with
  |some (.slice _),.eql=>E (.bool G)
  |some (.slice _),.neq=>E (.bool N)
  |_,_=>F
 | .pnil,.pnil=>evPtr P t bo G
 | .pc _ _,.pnil=>evPtr P t bo N
 | .pr _ _ _ _,.pnil=>evPtr P t bo N
 | .nx _ _ _ (.elem _ _ _),.pnil=>evPtr P t bo N
 | .pz _ _ _,.pnil=>evPtr P t bo N
 | .agg xs,.agg ys=>match bo with
  | .eql=>chk (!P.eqGuardType P.depth t) ((eqA P 8 t (.agg xs) (.agg ys)).bind λr=>E (.bool r))
  | .neq=>chk (!P.eqGuardType P.depth t) ((eqA P 8 t (.agg xs) (.agg ys)).bind λr=>E (.bool !r))
  |_=>F
 |_,_=>F
where
 evPtr (P:Program) (t:TypeId) (bo:BinOp) (r:Bool):U7 (AV C.D):=match P.underlying t,bo with
  |some (.pointer _),.eql=>E (.bool r)
  |some (.pointer _),.neq=>E (.bool !r)
  |_,_=>F
theorem Vz{bo:BinOp}{r:Bool}{a:U7 Addr}(h:wz.evPtr P t bo r=E A)(hx:opv L b x = .pointer a)(hr:a.isNone=r)(hy:opv L b y = .pointer F):Yl P Z PV L b ⟨E d,.binOp bo t x y t',ty,ps,af,g⟩ (λv=>VR C Z ν v A):=by
 unfold wz.evPtr at h;split at h
 ·rename_i e hu;cases h;exact .of (zmN hu hx hy hr) Rv.bool
 ·rename_i e hu;cases h;exact .of (zmO hu hx hy (by rw[hr])) Rv.bool
 ·cases h
theorem zyV{s u:ByteArray}(hx:opv L b x = .string s)(hy:opv L b y = .string u)(hl:s.size+u.size<=9223372036854775807):z8 P Z PV L b ⟨E d,.binOp .add t x y t',ty,ps,af,g⟩ (.string (s++u)):=λw _=>by
 have h2:¬ (((s.size+u.size:Nat):Int) > IntKind.i64.max):=by
  have:IntKind.i64.max=9223372036854775807:=by decide
  grind
 simp only[execOp,hx,hy,eqGuard,binOp,Op.stringOp,jx h2];rfl
theorem zf3{w:World}{ms:Array (String×TypeId)}{u:TypeId}{a:Value}(hu:P.underlying t=E (.interface ms)):(qQ t (.iface u a) .nilIface).run P w = .ok N w:=by
 show(qv (9999+1) t (.iface u a) .nilIface).run P w = .ok N w;unfold qv;simp only[UZ,UY hu,Da];rfl
theorem zf4{w:World}{ms:Array (String×TypeId)}(hu:P.underlying t=E (.interface ms)):(qQ t .nilIface .nilIface).run P w = .ok G w:=by
 show(qv (9999+1) t .nilIface .nilIface).run P w = .ok G w;unfold qv;simp only[UZ,UY hu,Da];rfl
theorem ztf(hA:Abs S ν vs ids L b Z PV){bo:BinOp}(h:wz P t bo (S.op x) (S.op y)=E A):Yl P Z PV L b ⟨E d,.binOp bo t x y t',ty,ps,af,g⟩ (λv=>VR C Z ν v A):=by
 have hx:=hA.op x;have hy:=hA.op y;unfold wz at h;split at h
 all_goals try (cases h;done)
 all_goals try (rename_i e1 e2;rw[e1] at hx;rw[e2] at hy)
 ·let⟨hk,h2⟩:=zb h;obtain rfl:=Dy hk;exact zte h2 hx.int_inv hy.int_inv
 ·split at h
  ·cases h;exact .of (zyT hx.str_inv hy.str_inv) Rv.bool
  ·cases h;exact .of (zyU hx.str_inv hy.str_inv) Rv.bool
  ·let⟨hk,h2⟩:=zb h;cases h2;exact .of (zyV hx.str_inv hy.str_inv (Dy hk)) Rv.str
  ·cases h
 ·split at h
  ·rename_i hu;cases h;exact .of (zyR hu hx.bool_inv hy.bool_inv) Rv.bool
  ·rename_i hu;cases h;exact .of (zyS hu hx.bool_inv hy.bool_inv) Rv.bool
  ·cases h
 ·have hy:opv L b y = .slice F 0 0:=hy;split at h
  ·rename_i hu;cases h;exact .of (WD hu rfl hy hx.sl_vrel) Rv.bool
  ·rename_i hu;cases h;exact .of (WE hu rfl hy hx.sl_vrel) Rv.bool
  ·cases h
 ·have hy:opv L b y = .slice F 0 0:=hy;have hx:VR C Z ν (opv L b x) (.sl 0 ⟨[],N⟩ G):=by rw[show opv L b x = .slice F 0 0 from hx];exact zkL
  split at h
  ·rename_i hu;cases h;exact .of (WD hu rfl hy hx.sl_vrel) Rv.bool
  ·rename_i hu;cases h;exact .of (WE hu rfl hy hx.sl_vrel) Rv.bool
  ·cases h
 ·exact Vz h hx.pnil_inv rfl hy.pnil_inv
 ·have hx:opv L b x = .pointer (E _):=hx;exact Vz h hx rfl hy.pnil_inv
 ·have hx:opv L b x = .pointer (E _):=hx;exact Vz h hx rfl hy.pnil_inv
 ·have hx:opv L b x = .pointer (E _):=hx.1;exact Vz h hx rfl hy.pnil_inv
 ·let⟨ad,cell,hv,_⟩:=hx.pz_inv;exact Vz h hv rfl hy.pnil_inv
 ·have hx':=hx;have hy':=hy;let⟨us,e3,_⟩:=hx';let⟨ws,e4,_⟩:=hy';split at h
  ·let⟨hg,h⟩:=zb h;simp only[Dz] at hg;let⟨r,hq,h⟩:=gd h;cases h;have:=zrv hq hx hy;rw[e3,e4] at this;exact .of (zkH hg e3 e4 (by decide) this) Rv.bool
  ·let⟨hg,h⟩:=zb h;simp only[Dz] at hg;let⟨r,hq,h⟩:=gd h;cases h;have:=zrv hq hx hy;rw[e3,e4] at this;exact .of (zkI hg e3 e4 (by decide) this) Rv.bool
  ·cases h
def zd8(P:Program)(t:TypeId)(m:Nat)(A:AV C.D):U7 (AV C.D):=
 match P.underlying t with
 |some (.struct fs)=>(match fs[m]? with
  |some f=>(match P.info? f.type with
   |some ti=>chk (!I ti.size 0) (match A with
    | .pc id off=>E (.pc id (off+f.offset))
    | .pr id T i off=>E (.pr id T i (off+f.offset))
    | .nx id T i (.elem U k off)=>E (.nx id T i (.elem U k (off+f.offset)))
    | .pz T q off=>E (.pz T q (off+f.offset))
    |_=>F)
   |none=>F)
  |none=>F)
 |_=>F
theorem zof(hA:Abs S ν vs ids L b Z PV){m:Nat}(h:zd8 P t m (S.op x)=E A):Yl P Z PV L b ⟨E d,.fieldAddr t x m,ty,ps,af,g⟩ (λv=>VR C Z ν v A):=by
 have hx:=hA.op x;unfold zd8 at h;split at h
 ·rename_i fs hu;split at h
  ·rename_i f hf;split at h
   ·rename_i ti hi;let⟨hz,h⟩:=zb h;have hz:ti.size≠0:=λe=>by rw[e] at hz;cases hz
    split at h
    ·rename_i id off e;rw[e] at hx;cases h;exact .of (vb hu hf hi hz (show opv L b x = .pointer (E _) from hx) rfl) (by show _=V (E _);rw[Addr.add_add])
    ·rename_i id T i off e;rw[e] at hx;cases h;exact .of (vb hu hf hi hz (show opv L b x = .pointer (E _) from hx) rfl) (by show _=V (E _);rw[Yt,qR])
    ·rename_i id T i U k off e;rw[e] at hx;cases h;exact .of (vb hu hf hi hz (show opv L b x = .pointer (E _) from hx.1) rfl) ⟨by show _=V (E _);rw[Yt,qR],rfl⟩
    ·rename_i T q off e;rw[e] at hx;cases h;let⟨ad,cell,hv,h1,h2⟩:=hx.pz_inv;exact .of (vb hu hf hi hz hv rfl) (by rw[Addr.add_add];exact Rv.pz cell h1 h2)
    ·cases h
   ·cases h
  ·cases h
 ·cases h
def zda{D:Nat->Type}{β:Type}(sz id off:Nat)(i:Int):Nat->(AV D->U7 β)->U7 β
 |0,_=>F
 |j+1,K=>bif decide (i=(j:Int)) then K (.pc id (off+j * sz)) else zda sz id off i j K
theorem zip{D:Nat->Type}{β γ:Type}{sz id off:Nat}{i:Int}{K:AV D->U7 β}{L:β->U7 γ}:∀{n:Nat},(zda sz id off i n K).bind L=zda sz id off i n λA=>(K A).bind L
 |0=>rfl
 |j+1=>by
  unfold zda;cases decide (i=(j:Int)) with
  |true=>rfl
  |false=>exact zip
theorem zhs{D:Nat->Type}{sz id off:Nat}{i:Int}{A:AV D}:∀{n:Nat},zda sz id off i n E=E A->∃j,j < n/\i=(j:Int)/\A = .pc id (off+j * sz)
 |0,h=>by cases h
 |j+1,h=>by
  unfold zda at h;cases hd:decide (i=(j:Int)) with
  |true=>
   grind
  |false=>
   rw[hd] at h;let⟨k,h1,h2,h3⟩:=zhs h;grind
def XU(P:Program)(S:St C)(t:TypeId)(A B:AV C.D):U7 (AV C.D):=
 match P.underlying t with
 |some (.slice e)=>(match P.info? e with
  |some ti=>(match A,B with
   | .sl T s _,.int _ i=>chk (I ti.size (C.size T)) ((za s i).bind λq=>E (.pz T q 0))
   | .row id,.int _ i=>(match S.heap id with
    |some (.row T s)=>chk (I ti.size (C.size T)) ((za s i).bind λ_=>E (.pr id T i 0))
    |some (.orow T s g)=>chk (I ti.size (C.size T)) ((za s i).bind λ_=>E (.pr id T i 0))
    |_=>F)
   | .nx id T i .whole,.int _ k=>zJ S id T i λU u=>chk (I ti.size (C.size U)) ((za u k).bind λ_=>E (.nx id T i (.elem U k 0)))
   | .nx id T i (.part U lo hi),.int _ k=>zJ S id T i λU' u=>chk (I U U' && I ti.size (C.size U)) ((z7 u lo hi).bind λu'=>(za u' k).bind λ_=>E (.nx id T i (.elem U (lo+k) 0)))
   |_,_=>F)
  |none=>F)
 |some (.array n e)=>(match P.info? e with
  |some ti=>(match A,B with
   | .pc id off,.int .i64 i=>chk (!I ti.size 0) (zda ti.size id off i n E)
   |_,_=>F)
  |none=>F)
 |_=>F
theorem zxj{T:Nat}{s:Sl (C.D T)}{cl:Bool}{v:Value}(h:VR C Z ν v (.sl T s cl)){i:Int}{q:C.D T}(hq:za s i=E q):VR C Z ν (.pointer (E (zh v (i.toNat * C.size T)))) (.pz T q 0):=by
 have hr:Rv C Z v (.sl T s cl):=h;let⟨h0,hg⟩:=yK.1 hq;cases hr with
 | @sl _ _ _ a n c cell h1 h2 h3 h4 h5 h6 h7 h8=>
  cases a with
  |none=>
   grind
  |some ad=>
   have e:zh (.slice (E ad) n c) (i.toNat * C.size T)=(ad.add (i.toNat * C.size T)).add 0:=by
    rw[Addr.add_add];rfl
   rw[e];refine Rv.pz (cell i.toNat) (λj B hj=>?_) (λj B hj=>h8 _ _ _ _ hg hj);let⟨ad',ha,hc⟩:=h7 _ _ _ _ hg hj;cases ha;rw[Addr.add_add];exact hc
theorem zog(hA:Abs S ν vs ids L b Z PV)(h:XU P S t (S.op x) (S.op y)=E A):Yl P Z PV L b ⟨E d,.indexAddr t x y,ty,ps,af,g⟩ (λv=>VR C Z ν v A):=by
 have hx:=hA.op x;have hy:=hA.op y;unfold XU at h;split at h
 ·rename_i e hu;split at h
  ·rename_i ti hi;split at h
   ·rename_i T s cl k i e1 e2;rw[e1] at hx;rw[e2] at hy;obtain⟨hz,h⟩:=zb h;have hz:ti.size=(zx C T).size:=ge hz;let⟨q,hq,h⟩:=gd h;cases h;exact .of (za7 hu hi hz rfl hy.int_inv hx.sl_vrel hq) (zxj hx hq)
   ·rename_i id k i e1 e2;rw[e1] at hx;rw[e2] at hy;split at h
    ·rename_i T s hs;let⟨hz,h⟩:=zb h;have hz:ti.size=(zx C T).o.size:=ge hz;let⟨q,hq,h⟩:=gd h;cases h;let⟨m,hm,_⟩:=hA.at hs;have hx:opv L b x=ν.hdr id:=hx;exact .of (zaU m hu hi hz hx hy.int_inv hm hq) (by show _=V (E _);rw[Di];rfl)
    ·rename_i T s gg hs;obtain⟨hz,h⟩:=zb h;have hz:ti.size=(Zd C T).size:=ge hz;let⟨q,hq,h⟩:=gd h;cases h;let⟨m,hm,_⟩:=hA.at hs;have hx:opv L b x=ν.hdr id:=hx;exact .of (zaU m hu hi hz hx hy.int_inv hm (WG hq)) (by show _=V (E _);rw[Di];rfl)
    ·cases h
   ·rename_i id T i k0 k e1 e2;rw[e1] at hx;rw[e2] at hy;let⟨U,u,h,hS⟩:=xN hA h;obtain⟨hz,h⟩:=zb h;have hz:ti.size=(zx C U).size:=ge hz;let⟨q,hq,h⟩:=gd h;cases h;have hx:opv L b x=(ν.adr id).sub i.toNat:=hx.1;intro w hw;refine⟨.pointer (E (zh ((ν.adr id).sub i.toNat) (k.toNat * C.size U))),?_,by show _=V (E _);grind,rfl⟩;rcases(hS w hw).cases hw with hv | hv
    ·exact za7 (PV:=PV) hu hi hz hx hy.int_inv hv hq w hw
    ·exact zaU (PV:=[.row (zx C U).o U ((ν.adr id).sub i.toNat) u]) (T:=(zx C U).o) 0 hu hi hz hx hy.int_inv rfl hq w hv
   ·rename_i id T i U lo hi2 k0 k e1 e2;rw[e1] at hx;rw[e2] at hy;let⟨U',u,h,hS⟩:=xN hA h;let⟨hz,h⟩:=zb h;simp only[gf] at hz;obtain rfl:=ge hz.1;have hz:ti.size=C.size U:=ge hz.2;let⟨u',hq,h⟩:=gd h;let⟨y0,hq2,h⟩:=gd h;cases h;obtain⟨g1,g2,g3,rfl⟩:=wn hq;have hk:=za6 hq2;simp only[UU,Do] at hk;have hy:=hy.int_inv;have hx:opv L b x=vu ((ν.adr id).sub i.toNat) lo hi2 (C.size U):=hx.1;intro w hw;let⟨a,c,hv,k1,k2⟩:=(hS w hw).form hw;rw[hv] at hx;refine⟨.pointer (E (zh ((ν.adr id).sub i.toNat) ((lo+k).toNat * C.size U))),?_,by show _=V (E _);grind,rfl⟩;cases a with
    |none=>grind
    |some ad=>
     have hc:¬ (c:Int)=lo:=by omega
     have hkl:¬ max (hi2 - lo) 0<=k:=by omega
     have hs:(lo+k).toNat=lo.toNat+k.toNat:=by omega
     simp[execOp,hx,hy,Instr.indexAt,asIntOf,UY hu,sizeOf,typeInfo,hi,hz,zh,vu,hc,hk.1,hkl,hv,hs,Addr.add_add,UV]
   ·cases h
  ·cases h
 ·rename_i n e hu;split at h
  ·rename_i ti hi;split at h
   ·rename_i id off i e1 e2;rw[e1] at hx;rw[e2] at hy;let⟨hz,h⟩:=zb h;have hz:ti.size≠0:=λe=>by rw[e] at hz;cases hz
    obtain⟨j,hj,hij,rfl⟩:=zhs h;subst hij;exact .of (zmM hu hi hz hx hy.int_inv hj rfl) (by show _=V (E _);rw[Addr.add_add])
   ·cases h
  ·cases h
 ·cases h
def Zm(S:St C)(dflt:Int):U7 Operand->U7 Int
 |none=>E dflt
 |some x=>match S.op x with
  | .int _ i=>E i
  |_=>F
theorem xO(hA:Abs S ν vs ids L b Z PV){dflt i:Int}{o:U7 Operand}(h:Zm S dflt o=E i):YP L b o dflt i:=by
 cases o with
 |none=>simp only[Zm] at h;cases h;exact rfl
 |some x=>
  have hx:=hA.op x;simp only[Zm] at h;split at h
  ·rename_i k j e;rw[e] at hx;cases h;exact⟨k,hx.int_inv⟩
  ·cases h
def Yp(P:Program)(S:St C)(t:TypeId)(A:AV C.D)(lo hi:U7 Operand):U7 (AV C.D):=
 match P.underlying t,A with
 |some .string,.str s=>(match Zm S 0 lo,Zm S s.size hi with
  |some i,E j=>(ZH s i j).bind λu=>E (.str u)
  |_,_=>F)
 |some (.slice e),.sl T s _=>(match P.info? e,Zm S 0 lo,Zm S s.len hi with
  |some ti,E i,E j=>chk (I ti.size (C.size T)) ((z7 s i j).bind λu=>E (.sl T u N))
  |_,_,_=>F)
 |some (.slice e),.nx id T k .whole=>(match P.info? e,Zm S 0 lo with
  |some ti,E i=>zJ S id T k λU u=>(match Zm S u.len hi with
   |some j=>chk (I ti.size (C.size U)) ((z7 u i j).bind λ_=>E (.nx id T k (.part U i j)))
   |none=>F)
  |_,_=>F)
 |_,_=>F
theorem zkM {e:TypeId}{ti:TypeInfo}{lo hi:U7 Operand}{i j:Int}{a:U7 Addr}{m c z:Nat}(hu:P.underlying t=E (.slice e)) (hi':P.info? e=E ti) (hz:ti.size=z)
    (hx:opv L b x = .slice a m c) (hmc:m<=c) (hl:YP L b lo 0 i) (hh:YP L b hi (m:Int) j) (h1:0<=i) (h2:i<=j) (h3:j<=m) :
    z8 P Z PV L b ⟨E d,.slice t x lo hi F,ty,ps,af,g⟩ (vu (.slice a m c) i j z):=λw hw=>by
 have hb:=YC (P:=P) (w:=w) (isS:=true) (m:=m) (c:=c) hl hh h1 h2 (by omega);have hs2:(qY t (.slice a m c) (lo.map (opv L b)) (hi.map (opv L b)) F).run P w = .ok (.slice (if(c:Int)=i then a else a.map (·.add (i.toNat * z))) (j - i).toNat (c - i.toNat)) w:=by
  unfold qY Instr.slice;simp only[UZ,UY hu,Da];simp only[UZ,Da,hb,sizeOf,typeInfo,Db,hi',UX,hz];rw[show j.toNat - i.toNat=(j - i).toNat by omega];grind
 simp only[execOp,hx,UZ,hs2,Da,UX,Option.map_none,vu]
theorem zoh(hA:Abs S ν vs ids L b Z PV){lo hi:U7 Operand}(h:Yp P S t (S.op x) lo hi=E A):Yl P Z PV L b ⟨E d,.slice t x lo hi F,ty,ps,af,g⟩ (λv=>VR C Z ν v A):=by
 have hx:=hA.op x;unfold Yp at h;split at h
 ·rename_i s hu e;rw[e] at hx;split at h
  ·rename_i i j h1 h2;let⟨u,hq,h⟩:=gd h;cases h;exact .of (zhq hu hx.str_inv (xO hA h1) (xO hA h2) hq) Rv.str
  ·cases h
 ·rename_i e T s cl hu e1;rw[e1] at hx;split at h
  ·rename_i ti i j hi h1 h2;obtain⟨hz,h⟩:=zb h;have hz:ti.size=(zx C T).size:=ge hz;obtain⟨u,hq,h⟩:=gd h;cases h;obtain⟨v,hv,hr⟩:=zho (P:=P) (PV:=PV) (d:=d) (ty:=ty) (ps:=ps) (af:=af) (g:=g) hu hi hz rfl hx.sl_vrel (xO hA h1) (xO hA h2) hq;exact .of hr (Rv.of_vrel hv).vr
  ·cases h
 ·rename_i e id T k hu e1;rw[e1] at hx;split at h
  ·rename_i ti i hi h1;let⟨U,u,h,hS⟩:=xN hA h;split at h
   ·rename_i j h2;let⟨hz,h⟩:=zb h;have hz:ti.size=C.size U:=ge hz;let⟨u',hq,h⟩:=gd h;cases h;let⟨g1,g2,g3,_⟩:=wn hq;have hx:opv L b x=(ν.adr id).sub k.toNat:=hx.1;intro w hw;let⟨a,c,hv,k1,k2⟩:=(hS w hw).form hw;have hx2:opv L b x = .slice a u.xs.length c:=by rw[hx,hv]
    refine⟨_,zkM (PV:=PV) hu hi hz hx2 k2 (xO hA h1) (xO hA h2) g1 g2 g3 w hw,?_,rfl⟩;show _=vu ((ν.adr id).sub k.toNat) i j (C.size U);rw[hv]
   ·cases h
  ·cases h
 ·cases h
def w5(P:Program)(S:St C)(t:TypeId)(A:AV C.D):U7 (AV C.D):=
 match P.underlying t,A with
 |some .string,.str s=>E (.int .i64 s.size)
 |some (.slice _),.sl _ s _=>E (.int .i64 s.len)
 |some (.slice _),.nils=>E (.int .i64 0)
 |some (.slice _),.row id=>(match S.heap id with
  |some (.row _ s)=>E (.int .i64 s.len)
  |some (.orow _ s _)=>E (.int .i64 s.len)
  |_=>F)
 |some (.slice _),.nx id T i .whole=>zJ S id T i λ_ u=>E (.int .i64 u.len)
 |some (.slice _),.nx id T k (.part U i j)=>zJ S id T k λU' u=>chk (I U U') ((z7 u i j).bind λ_=>E (.int .i64 (j - i)))
 |_,_=>F
theorem ztg(hA:Abs S ν vs ids L b Z PV)(h:w5 P S t (S.op x)=E A):Yl P Z PV L b ⟨E d,.call {callee :=.builtin .len,args:= #[x],argTypes:= #[t]},ty,ps,af,g⟩ (λv=>VR C Z ν v A):=by
 have hx:=hA.op x;unfold w5 at h;split at h
 ·rename_i hu e;rw[e] at hx;cases h;exact .of (zkz hu hx.str_inv) Rv.int
 ·rename_i hu e;rw[e] at hx;cases h;exact .of (Vv hu rfl hx.sl_vrel) Rv.int
 ·rename_i hu e;rw[e] at hx;cases h;have hx:VR C Z ν (opv L b x) (.sl 0 ⟨[],N⟩ G):=by rw[show opv L b x = .slice F 0 0 from hx];exact zkL
  exact .of (Vv hu rfl hx.sl_vrel) Rv.int
 ·rename_i id hu e;rw[e] at hx;split at h
  ·rename_i T s hs;cases h;let⟨m,hm,_⟩:=hA.at hs;exact .of (zc3 m hu (show opv L b x=ν.hdr id from hx) hm) Rv.int
  ·rename_i T s gg hs;cases h;let⟨m,hm,_⟩:=hA.at hs;rw[<- zru (sub:=(ν.adr id).sub) (g:=gg)];exact .of (zc3 m hu (show opv L b x=ν.hdr id from hx) hm) Rv.int
  ·cases h
 ·rename_i id T i hu e;rw[e] at hx;let⟨U,u,h,hS⟩:=xN hA h;cases h;have hx:opv L b x=(ν.adr id).sub i.toNat:=hx.1;intro w hw;refine⟨.int .i64 u.len,?_,Rv.int⟩;rcases(hS w hw).cases hw with hv | hv
  ·exact Vv (PV:=PV) hu hx hv w hw
  ·exact zc3 (PV:=[.row (zx C U).o U ((ν.adr id).sub i.toNat) u]) (T:=(zx C U).o) 0 hu hx rfl w hv
 ·rename_i id T k U i j hu e;rw[e] at hx;let⟨U',u,h,hS⟩:=xN hA h;let⟨hz,h⟩:=zb h;obtain rfl:=ge hz;let⟨u',hq,h⟩:=gd h;cases h;let⟨g1,g2,g3,_⟩:=wn hq;have hx:opv L b x=vu ((ν.adr id).sub k.toNat) i j (C.size U):=hx.1;intro w hw;refine⟨.int .i64 (j - i),?_,Rv.int⟩;let⟨a,c,hv,k1,k2⟩:=(hS w hw).form hw;rw[hv] at hx;have hji:(((j - i).toNat:Nat):Int)=j - i:=by omega
  simp[execOp,resolve,invoke,builtin,hx,vu,Builtin.len_,UY hu,goInt,hji]
 ·cases h
end
end
section
variable [Dfr]
section
variable {C:Cod}{S:St C}{ν:Val}{vs:Nat->List Value}{ids:List Nat}{L:List (Nat×Value)}{b:Nat->Value}{Z:FS}{PV:List Priv}{P:Program}
variable {t t' ty:TypeId}{x y z:Operand}{d:Nat}{ps:String}{af:Array Edge}{g:U7 (Nat×Bool)}{A:AV C.D}
def YQ{D:Nat->Type}:AV D->Bool
 | .agg cs=>cs.all AV.leaf
 |v=>v.leaf
def vQ{D:Nat->Type}(pls:List (Nat×Nat)):List (AV D)->List (Nat×AV D)->U7 (List (AV D))
 |cs,[]=>E cs
 |cs,(i,c)::r=>match pls[i]? with
  |none=>F
  |some (off,size)=>chk (YQ c && (I (zr c).length size && qB (off+(zr c).length) cs.length)) (vQ pls (cs.take off++zr c++cs.drop (off+(zr c).length)) r)
theorem zdb{D:Nat->Type}{A:AV D}(h:YQ A=G):A.leaf=G\/∃cs,A = .agg cs/\cs.all AV.leaf=true:=by
 cases A
 case agg cs=>exact .inr ⟨cs,rfl,h⟩
 all_goals exact .inl h
theorem ZD{v:Value}(h:VR C Z ν v A)(hs:YQ A=G)(hh:∀i,(ν.hdr i).oneCell'=G):VRs C Z ν v.cells.toList (zr A)/\∀u∈v.cells.toList,u.oneCell'=true:=by
 rcases zdb hs with hl | ⟨cs,rfl,hs⟩
 ·refine⟨h.cells (.inl hl) hh,λu hu=>?_⟩;have h1:=h.one hl hh;have e:v.cells.toList=[v]:=by cases v<;>simp_all[qO,qo]
  grind
 ·obtain⟨us,rfl,k⟩:=h;refine⟨by simpa[qo,zr] using k,λu hu=>?_⟩;have hu:u∈us:=by simpa[qo] using hu
  let⟨j,hj⟩:=qI.1 hu;have hl:=k.len;have hjl:=(UG.1 hj).1;have hc:=UM (show j < cs.length by omega);exact(k.rel hj hc).one (D0.1 hs _ (UW hc)) hh
theorem zfn (hh:∀i,(ν.hdr i).oneCell'=G) (pls:List (Nat×Nat)):∀(ps:List (Nat×AV C.D)) (us:List (Nat×Value)) (cs r:List (AV C.D)) (ws:List Value),us.map (·.1)=ps.map (·.1)->(∀(j:Nat) u B,us[j]?=E u->ps[j]?=E B->VR C Z ν u.2 B.2)->VRs C Z ν ws cs->vQ pls cs ps=E r->
    ∃rs,zab pls ws (us.map λu=>(u.1,u.2.cells.toList))=E rs/\VRs C Z ν rs r
 |[],us,cs,r,ws,h1,h2,h3,h4=>by
   simp only[vQ] at h4;cases h4;have:us=[]:=by simpa using h1
   subst this;exact⟨ws,rfl,h3⟩
 |(i,c)::ps,[],cs,r,ws,h1,h2,h3,h4=>by simp at h1
 |(i,c)::ps,(j,u)::us,cs,r,ws,h1,h2,h3,h4=>by
   simp only[UI,List.cons.injEq] at h1;obtain⟨rfl,h1⟩:=h1;simp only[vQ] at h4;simp only[UI,zab];cases hp:pls[j]? with
   |none=>grind
   |some q=>
    let⟨off,size⟩:=q;rw[hp] at h4;simp only at h4 |-
    let⟨hc,h5⟩:=zb h4;simp only[gf] at hc;let⟨c1,c2,c3⟩:=hc;have hcu:=(ZD (h2 0 (j,u) (j,c) rfl rfl) c1 hh).1;have hl:=hcu.len;have hl2:=h3.len;rw[<- hl] at c2 c3 h5;rw[<- hl2] at c3;rw[c2,c3];simp only[Bool.and_self,D1];exact zfn hh pls ps us _ r _ h1 (λk u B hu hB=>h2 (k+1) u B (by simpa using hu) (by simpa using hB)) (((h3.take off).append hcu).append (h3.drop _)) h5
def zf5(P:Program):List Field->U7 (List (Nat×Nat))
 |[]=>E []
 |f::fs=>match P.info? f.type,zf5 P fs with
  |some ti,E r=>E ((f.offset,ti.size)::r)
  |_,_=>F
theorem zkN:∀{fs:List Field}{pls:List (Nat×Nat)},zf5 P fs=E pls->fs.map (λf=>(P.info? f.type).map λi=>(f.offset,i.size))=pls.map E
 |[],pls,h=>by simp only[zf5] at h;cases h;rfl
 |f::fs,pls,h=>by
  simp only[zf5] at h;split at h
  ·rename_i ti r hi hr;cases h;simp[hi,zkN hr]
  ·cases h
def zdc(size n:Nat):List (Nat×Nat):=(Y n).map λi=>(i * size,size)
theorem ziq{p q:Nat->U7 (Nat×Nat)}(h:∀i x,p i=E x->q i=E x):∀(ps:List (Nat×Value)) (cs r:Array Value),qM p cs ps=E r->qM q cs ps=E r
 |[],cs,r,hf=>hf
 |(i,v)::ps,cs,r,hf=>by
  simp only[qM] at hf |-
  cases hp:p i with
  |none=>grind
  |some x=>
   rw[hp] at hf;rw[h i x hp];let⟨off,size⟩:=x;simp only at hf |-
   split at hf
   ·cases hf
   ·rename_i hc;rw[jx hc];exact ziq h ps _ r hf
theorem zoi {n:Nat}{e:TypeId}{ti te:TypeInfo}{zv:Value}{parts:Array (Nat×Operand)}{vs:List (Nat×Value)}{pcs:List (Nat×List Value)}{cs:List Value}(hu:P.underlying t=E (.array n e)) (hi:P.info? t=E ti) (he:P.info? e=E te) (hz:ti.zero=E zv)
    (hp:(parts.toList.map λq=>(q.1,opv L b q.2))=vs) (hc:zc6 vs pcs) (hf:zab (zdc te.size n) zv.cells.toList pcs=E cs) :
    z8 P Z PV L b ⟨E d,.build t parts,ty,ps,af,g⟩ (.agg cs.toArray):=λw _=>by
 have hpa:(parts.map λ(q:Nat×Operand)=>(q.1,opv L b q.2)).toList=vs:=by rw[Array.toList_map];exact hp
 have hfill:=ziq (q:=λi=>E (i * te.size,te.size)) (λi x hx=>by
  simp only[zdc,UE] at hx;cases hr:(Y n)[i]? with
  |none=>grind
  |some j=>
   rw[hr] at hx;have:j=i:=by
    grind
   grind) _ _ _ (zkD (zdc te.size n) vs pcs zv.cells cs hc hf)
 have:(z0 t (parts.map λq=>(q.1,opv L b q.2))).run P w = .ok (.agg cs.toArray) w:=by
  unfold z0;simp only[UZ,zeroValue,sizeOf,typeInfo,Db,Da,hi,he,UX,hz,UY hu,hpa,hfill]
 simp only[execOp,UZ,this,Da,UX]
def vF{α:Type}(l:List α)(i:Int):U7 α:=if 0<=i then l[i.toNat]? else F
def zbF{D:Nat->Type}:List (AV D)->U7 (List ByteArray)
 |[]=>E []
 | .str s::r=>(zbF r).bind λl=>E (s::l)
 |_=>F
def zd9{D:Nat->Type}(k:IntKind):List (AV D)->U7 (List Int)
 |[]=>E []
 | .int k' n::r=>chk (decide (k'=k)) ((zd9 k r).bind λl=>E (n::l))
 |_=>F
def zf6(n:Nat)(cs:List (AV C.D))(i:Int):U7 (AV C.D):=chk (I n cs.length) (match zbF cs with
 |some l=>(vF l i).bind λs=>E (.str s)
 |none=>(match cs with
  | .int k _::_=>(zd9 k cs).bind λl=>(vF l i).bind λm=>E (.int k m)
  |_=>F))
theorem zir{α:Type}{l:List α}{i:Int}{x:α}(h:vF l i=E x):0<=i/\l[i.toNat]?=E x:=by
 unfold vF at h;grind
theorem zis:∀{cs:List (AV C.D)}{l:List ByteArray},zbF cs=E l->∀{j:Nat}{s:ByteArray},l[j]?=E s->cs[j]?=E (.str s)
 |[],l,h,j,s,hj=>by simp only[zbF] at h;grind
 |A::r,l,h,j,s,hj=>by
  cases A<;>simp only[zbF] at h<;>try (cases h;done)
  let⟨l',h1,h2⟩:=gd h;cases h2;cases j with
  |zero=>grind
  |succ j=>simpa using zis h1 (by simpa using hj)
theorem zit{k:IntKind}:∀{cs:List (AV C.D)}{l:List Int},zd9 k cs=E l->∀{j:Nat}{m:Int},l[j]?=E m->cs[j]?=E (.int k m)
 |[],l,h,j,s,hj=>by simp only[zd9] at h;grind
 |A::r,l,h,j,s,hj=>by
  cases A<;>simp only[zd9] at h<;>try (cases h;done)
  let⟨hk,h⟩:=zb h;have:=Dy hk;subst this;let⟨l',h1,h2⟩:=gd h;cases h2;cases j with
  |zero=>grind
  |succ j=>simpa using zit h1 (by simpa using hj)
theorem zrx{n:Nat}{cs:List (AV C.D)}{i:Int}{A:AV C.D}(h:zf6 n cs i=E A):0<=i/\i < n/\cs[i.toNat]?=E A:=by
 let⟨hn,h⟩:=zb h;have hn:=ge hn
 have key:∀{A:AV C.D},0<=i->cs[i.toNat]?=E A->0<=i/\i < n/\cs[i.toNat]?=E A:=λh0 h1=>⟨h0,by
  grind,h1⟩
 split at h
 ·rename_i l hl;let⟨s,hs,h⟩:=gd h;cases h;let⟨h0,h1⟩:=zir hs;exact key h0 (zis hl h1)
 ·split at h
  ·let⟨l,hl,h⟩:=gd h;let⟨m,hm,h⟩:=gd h;cases h;let⟨h0,h1⟩:=zir hm;exact key h0 (zit hl h1)
  ·cases h
theorem zth{p:Nat->Prop}{n:Nat}{cs:List (AV C.D)}{i:Int}{A:AV C.D}(h:zf6 n cs i=E A):(∃s,A = .str s)\/∃k m,A = .int k m:=by
 let⟨_,h⟩:=zb h;split at h
 ·let⟨s,hs,h⟩:=gd h;grind
 ·split at h
  ·let⟨l,hl,h⟩:=gd h;let⟨m,hm,h⟩:=gd h;grind
  ·cases h
def za9(P:Program)(t:TypeId)(A B:AV C.D):U7 (AV C.D):=match P.underlying t,A,B with
 |some .string,.str s,.int _ i=>(Zg s i).bind λc=>E (.int .u8 c)
 |some (.array n e),.agg cs,.int _ i=>(match P.underlying e,P.info? e with
  |some td,E te=>chk (!Zh td && I te.size 1) (zf6 n cs i)
  |_,_=>F)
 |_,_,_=>F
theorem zoj {n:Nat}{e:TypeId}{td:TypeDesc}{te:TypeInfo}{cs:List Value}{k:IntKind}{i:Int}{v:Value}(hu:P.underlying t=E (.array n e)) (hud:P.underlying e=E td) (hi:P.info? e=E te) (hd:Zh td=N) (h1:te.size=1) (hx:opv L b x = .agg cs.toArray) (hy:opv L b y = .int k i) (h0:0<=i) (hn:i < n) (hv:cs[i.toNat]?=E v) :
    z8 P Z PV L b ⟨E d,.index t x y,ty,ps,af,g⟩ v:=λw _=>by
 have hagg:(Go.isAgg e).run P w=qP (Zh td) w:=by
  unfold Go.isAgg;rw[UZ,UY hud];cases td<;>rfl
 have:(zE t (.agg cs.toArray) (.int k i)).run P w = .ok v w:=by
  unfold zE;simp only[asIntOf,UZ,UX,Da,UY hu];rw[jv ⟨h0,hn⟩];simp only[part,sizeOf,typeInfo,Db,hi,h1,UZ,UX,Da,hagg,hd,Nat.mul_one,List.getElem?_toArray,hv];simp
 simp only[execOp,hx,hy,UZ,this,Da,UX]
theorem zry(hA:Abs S ν vs ids L b Z PV)(h:za9 P t (S.op x) (S.op y)=E A):Yl P Z PV L b ⟨E d,.index t x y,ty,ps,af,g⟩ (λv=>VR C Z ν v A):=by
 have hx:=hA.op x;have hy:=hA.op y;unfold za9 at h;split at h
 ·rename_i hu e1 e2;rw[e1] at hx;rw[e2] at hy;let⟨c,hc,h⟩:=gd h;cases h;exact .of (zhp hu hx.str_inv hy.int_inv hc) Rv.int
 ·rename_i hu e1 e2;rw[e1] at hx;rw[e2] at hy;split at h
  ·rename_i td te hud hi;let⟨hc,h2⟩:=zb h;simp only[gf,Dz] at hc;let⟨h0,hn,hcs⟩:=zrx h2;let⟨us,e3,hr⟩:=hx;let⟨u,hu1,hu2⟩:=hr.get _ A hcs;exact .of (zoj hu hud hi hc.1 (ge hc.2) e3 hy.int_inv h0 hn hu1) hu2
  ·cases h
 ·cases h
def WH(P:Program)(S:St C)(t:TypeId)(parts:List (Nat×Operand)):U7 (AV C.D):=
 match P.underlying t,P.info? t with
 |some (.struct fs),E ti=>(match ti.zero,zf5 P fs.toList with
  |some zv,E pls=>(vQ pls (zv.cells.toList.map ZY) (parts.map λq=>(q.1,S.op q.2))).bind λcs=>E (.agg cs)
  |_,_=>F)
 |some (.array n e),E ti=>(match ti.zero,P.info? e with
  |some zv,E te=>(vQ (zdc te.size n) (zv.cells.toList.map ZY) (parts.map λq=>(q.1,S.op q.2))).bind λcs=>E (.agg cs)
  |_,_=>F)
 |_,_=>F
theorem zbG:∀us:List (Nat×Value),zc6 us (us.map λu=>(u.1,u.2.cells.toList))
 |[]=>trivial
 |(i,v)::us=>⟨rfl,rfl,zbG us⟩
theorem zok(hA:Abs S ν vs ids L b Z PV){parts:Array (Nat×Operand)}(h:WH P S t parts.toList=E A):Yl P Z PV L b ⟨E d,.build t parts,ty,ps,af,g⟩ (λv=>VR C Z ν v A):=by
 unfold WH at h;split at h
 ·rename_i fs ti hu hi;split at h
  ·rename_i zv pls hz hp;let⟨cs,hf,h⟩:=gd h;cases h
   let⟨rs,h1,h2⟩:=zfn (Z:=Z) (ν:=ν) hA.one pls _ (parts.toList.map λq=>(q.1,opv L b q.2)) _ cs zv.cells.toList (by simp) (λj u B hu hB=>by
    rw[UE] at hu hB;cases hq:parts.toList[j]? with
    |none=>grind
    |some q=>rw[hq] at hu hB;cases hu;cases hB;exact hA.op q.2) (xL _) hf
   exact .of (zxf hu hi hz (zkN hp) rfl (zbG _) h1) ⟨rs,rfl,h2⟩
  ·cases h
 ·rename_i n e ti hu hi;split at h
  ·rename_i zv te hz he;let⟨cs,hf,h⟩:=gd h;cases h
   let⟨rs,h1,h2⟩:=zfn (Z:=Z) (ν:=ν) hA.one (zdc te.size n) _ (parts.toList.map λq=>(q.1,opv L b q.2)) _ cs zv.cells.toList (by simp) (λj u B hu hB=>by
    rw[UE] at hu hB;cases hq:parts.toList[j]? with
    |none=>grind
    |some q=>rw[hq] at hu hB;cases hu;cases hB;exact hA.op q.2) (xL _) hf
   exact .of (zoi hu hi he hz rfl (zbG _) h1) ⟨rs,rfl,h2⟩
  ·cases h
 ·cases h
def zea(P:Program)(t:TypeId)(m:Nat)(A:AV C.D):U7 (AV C.D):=
 match P.underlying t,A with
 |some (.struct fs),.agg cs=>(match fs[m]? with
  |some f=>Yv P f.type cs f.offset
  |none=>F)
 |_,_=>F
theorem zol(hA:Abs S ν vs ids L b Z PV){m:Nat}(h:zea P t m (S.op x)=E A):Yl P Z PV L b ⟨E d,.field t x m,ty,ps,af,g⟩ (λv=>VR C Z ν v A):=by
 have hx:=hA.op x;unfold zea at h;split at h
 ·rename_i fs cs hu e;rw[e] at hx;split at h
  ·rename_i f hf;obtain⟨td,ti,hud,hi,h1,h2,rfl⟩:=zac h;let⟨us,hv,k⟩:=hx;have hl2:((us.drop f.offset).take ti.size).length=ti.size:=by rw[<- h1];simp[k.len]
   exact .of (zxg hu hf hud hi hv rfl hl2 h2 rfl) ((k.drop _).take _).val
  ·cases h
 ·cases h
theorem zba(hA:Abs S ν vs ids L b Z PV):∀l:List Operand,VRs C Z ν (l.map (opv L b)) (l.map S.op)
 |[]=>trivial
 |x::l=>⟨hA.op x,zba hA l⟩
def wo(P:Program)(S:St C)(t:TypeId)(bo:BinOp)(A B:AV C.D):U7 (AV C.D):=match A with
 | .row id=>(match B,S.heap id with
  | .nils,E (.row _ s)=>(match P.underlying t,bo with
   |some (.slice _),.eql=>E (.bool !s.nn)
   |some (.slice _),.neq=>E (.bool s.nn)
   |_,_=>F)
  | .nils,E (.orow _ s _)=>(match P.underlying t,bo with
   |some (.slice _),.eql=>E (.bool !s.nn)
   |some (.slice _),.neq=>E (.bool s.nn)
   |_,_=>F)
  |_,_=>F)
 | .nx id T i .whole=>(match B with
  | .nils=>zJ S id T i λ_ s=>(match P.underlying t,bo with
   |some (.slice _),.eql=>E (.bool !s.nn)
   |some (.slice _),.neq=>E (.bool s.nn)
   |_,_=>F)
  |_=>F)
 |A=>wz P t bo A B
theorem zrz(hA:Abs S ν vs ids L b Z PV){bo:BinOp}(h:wo P S t bo (S.op x) (S.op y)=E A):Yl P Z PV L b ⟨E d,.binOp bo t x y t',ty,ps,af,g⟩ (λv=>VR C Z ν v A):=by
 have hx:=hA.op x;have hy:=hA.op y;unfold wo at h;split at h
 ·rename_i id ex;rw[ex] at hx;split at h
  ·rename_i T s ey hs;rw[ey] at hy;have hy:opv L b y = .slice F 0 0:=hy;have hx:opv L b x=ν.hdr id:=hx;let⟨m,hm,_⟩:=hA.at hs;split at h
   ·rename_i hu;cases h;exact .of (zaS m hu hx hy hm) Rv.bool
   ·rename_i hu;cases h;exact .of (zaT m hu hx hy hm) Rv.bool
   ·cases h
  ·rename_i T s gg ey hs;rw[ey] at hy;have hy:opv L b y = .slice F 0 0:=hy;have hx:opv L b x=ν.hdr id:=hx;let⟨m,hm,_⟩:=hA.at hs;split at h
   ·rename_i hu;cases h;exact .of (zaS m hu hx hy hm) Rv.bool
   ·rename_i hu;cases h;exact .of (zaT m hu hx hy hm) Rv.bool
   ·cases h
  ·cases h
 ·rename_i id T i ex;rw[ex] at hx;split at h
  ·rename_i ey;rw[ey] at hy;have hy:opv L b y = .slice F 0 0:=hy;have hx:opv L b x=(ν.adr id).sub i.toNat:=hx.1;let⟨U,u,h2,hS⟩:=xN hA h;clear h;split at h2
   ·rename_i hu;cases h2;intro w hw;refine⟨.bool !u.nn,?_,Rv.bool⟩;rcases(hS w hw).cases hw with hv | hv
    ·exact WD (PV:=PV) hu hx hy hv w hw
    ·exact zaS (PV:=[.row (zx C U).o U ((ν.adr id).sub i.toNat) u]) (T:=(zx C U).o) 0 hu hx hy rfl w hv
   ·rename_i hu;cases h2;intro w hw;refine⟨.bool u.nn,?_,Rv.bool⟩;rcases(hS w hw).cases hw with hv | hv
    ·exact WE (PV:=PV) hu hx hy hv w hw
    ·exact zaT (PV:=[.row (zx C U).o U ((ν.adr id).sub i.toNat) u]) (T:=(zx C U).o) 0 hu hx hy rfl w hv
   ·cases h2
  ·cases h
 ·exact ztf hA h
def Yb:Operand->Bool
 | .const .nilIface=>G
 |_=>N
def x9(P:Program)(S:St C)(t:TypeId)(bo:BinOp)(x y:Operand):U7 (AV C.D):=bif Yb y then
    (match P.underlying t,S.op x,bo with
    |some (.interface _),.ifc _ _,.eql=>E (.bool N)
    |some (.interface _),.ifc _ _,.neq=>E (.bool G)
    |some (.interface _),.nili,.eql=>E (.bool G)
    |some (.interface _),.nili,.neq=>E (.bool N)
    |_,_,_=>F)
 else wo P S t bo (S.op x) (S.op y)
theorem wO{y:Operand}(h:Yb y=G):y = .const .nilIface:=by
 unfold Yb at h;grind
theorem zrA(hA:Abs S ν vs ids L b Z PV){bo:BinOp}(h:x9 P S t bo x y=E A):Yl P Z PV L b ⟨E d,.binOp bo t x y t',ty,ps,af,g⟩ (λv=>VR C Z ν v A):=by
 unfold x9 at h;cases hy:Yb y with
 |false=>rw[hy] at h;exact zrz hA h
 |true=>
  rw[hy,D1] at h;have:=wO hy;subst this;have hx:=hA.op x;have hy:opv L b (.const .nilIface) = .nilIface:=rfl;split at h
  ·rename_i ms u B hu ex;rw[ex] at hx;cases h;let⟨v,e,_⟩:=hx;exact .of (v :=.bool N) (λw _=>by simp[execOp,e,hy,eqGuard,binOp,zf3 hu]) Rv.bool
  ·rename_i ms u B hu ex;rw[ex] at hx;cases h;let⟨v,e,_⟩:=hx;exact .of (v :=.bool G) (λw _=>by simp[execOp,e,hy,eqGuard,binOp,zf3 hu]) Rv.bool
  ·rename_i ms hu ex;rw[ex] at hx;cases h;exact .of (v :=.bool G) (λw _=>by simp[execOp,hx.nili_inv,hy,eqGuard,binOp,zf4 hu]) Rv.bool
  ·rename_i ms hu ex;rw[ex] at hx;cases h;exact .of (v :=.bool N) (λw _=>by simp[execOp,hx.nili_inv,hy,eqGuard,binOp,zf4 hu]) Rv.bool
  ·cases h
theorem zxk{t:TypeId}{td:TypeDesc}(hu:P.underlying t=E td)(hn:∀ms,td ≠.interface ms)(x:Operand):z8 P Z PV L b ⟨E d,.makeInterface t x,ty,ps,af,g⟩ (.iface t (opv L b x)):=λw _=>by
 simp only[execOp,Instr.makeInterface,UZ,UY hu,Da];cases td<;>first | rfl | exact absurd rfl (hn _)
def zf7(q:Bool)(A B:AV C.D):U7 (AV C.D):=match A,B with
 | .int k i,.int k' j=>chk (decide (k=k')) (E (.int k (bif q then i else j)))
 | .bool i,.bool j=>E (.bool (bif q then i else j))
 | .str i,.str j=>E (.str (bif q then i else j))
 | .sl T s _,.sl T' s' _=>if h:T'=T then E (.sl T (bif q then s else h ▸ s') N) else F
 | .pnil,.pnil=>E .pnil
 | .nils,.nils=>E .nils
 | .pc i o,.pc i' o'=>chk (I i i' && I o o') (E (.pc i o))
 | .row i,.row i'=>chk (I i i') (E (.row i))
 |_,_=>F
theorem VR.unclip{v:Value}{T:Nat}{s:Sl (C.D T)}{c:Bool}(h:VR C Z ν v (.sl T s c)):VR C Z ν v (.sl T s N):=(Rv.of_vrel h.sl_vrel).vr
theorem zti{q:Bool}{A B R:AV C.D}(h:zf7 q A B=E R){v:Value}(hv:VR C Z ν v (bif q then A else B)):VR C Z ν v R:=by
 unfold zf7 at h;split at h
 ·let⟨e,h2⟩:=zb h;grind
 ·grind
 ·grind
 ·split at h
  ·rename_i e;subst e;cases h;cases q<;>exact VR.unclip hv
  ·cases h
 ·grind
 ·grind
 ·let⟨e,h2⟩:=zb h;simp only[gf] at e;have e1:=ge e.1;have e2:=ge e.2;grind
 ·let⟨e,h2⟩:=zb h;have e1:=ge e;grind
 ·cases h
def zf8(q:Bool)(A B:AV C.D):U7 (AV C.D):=match zf7 q A B with
 |some R=>E R
 |none=>bif q then E A else E B
theorem zkO{q:Bool}{A B R:AV C.D}(h:zf8 q A B=E R){v:Value}(hv:VR C Z ν v (bif q then A else B)):VR C Z ν v R:=by
 unfold zf8 at h;split at h
 ·rename_i e;cases h;exact zti e hv
 grind
def zbH(P:Program)(A:AV C.D)(t:TypeId)(ok:Bool):U7 (AV C.D):=match P.underlying t,P.info? t with
 |some (.interface _),_=>F
 |some _,E ti=>(match ok,A with
  |true,.ifc t' A=>chk (I t' t) (E (.tup [A,.bool G]))
  |false,.ifc t' A=>chk (I t' t) (E A)
  |true,.nili=>(match ti.zero with
   |some zv=>E (.tup [zbC zv,.bool N])
   |none=>F)
  |_,_=>F)
 |_,_=>F
theorem zmU(hA:Abs S ν vs ids L b Z PV){x:Operand}{xt t:TypeId}{ok:Bool}(h:zbH P (S.op x) t ok=E A):Yl P Z PV L b ⟨E d,.typeAssert x xt t ok,ty,ps,af,g⟩ (λv=>VR C Z ν v A):=by
 unfold zbH at h;have hx:=hA.op x;split at h
 ·cases h
 ·rename_i td ti hn hu hi;split at h
  ·rename_i t' B e;rw[e] at hx;let⟨hc,h2⟩:=zb h;have hc:=ge hc;subst hc;cases h2;let⟨u,hu1,hu2⟩:=hx;refine .of (v :=.tuple #[u,.bool G]) (λw _=>?_) ⟨[u,.bool G],rfl,hu2,Rv.bool,trivial⟩;cases td<;>first | exact absurd rfl (hn _) | simp[execOp,qL,UY hu,hu1]
  ·rename_i t' B e;rw[e] at hx;let⟨hc,h2⟩:=zb h;have hc:=ge hc;subst hc;cases h2;let⟨u,hu1,hu2⟩:=hx;refine .of (v:=u) (λw _=>?_) hu2;cases td<;>first | exact absurd rfl (hn _) | simp[execOp,qL,UY hu,hu1]
  ·rename_i e;rw[e] at hx;split at h
   ·rename_i zv hz;cases h;refine .of (v :=.tuple #[zv,.bool N]) (λw _=>?_) ⟨[zv,.bool N],rfl,zkK zv,Rv.bool,trivial⟩;cases td<;>first | exact absurd rfl (hn _) | simp[execOp,qL,UY hu,hx.nili_inv,zeroValue,typeInfo,hi,hz]
   ·cases h
  ·cases h
 ·cases h
def zdd{D:Nat->Type}:List (AV D)->Bool
 |[.tup _]=>G
 |[A]=>A.leaf
 |_=>G
def zrB{D:Nat->Type}:List (AV D)->Bool
 |[A]=>A.leaf
 |_=>G
theorem zxl(f:Nat)(hone:∀i,(ν.hdr i).oneCell'=G){vals:List Value}{caps:List (AV C.D)}(hr:VRs C Z ν vals caps)(h:zrB caps=G):zaV f vals = .func (.func f) #[] vals.toArray:=by
 match vals,caps,hr with
 |[],_,_=>rfl
 |[v],[A],hr=>
  refine znk f λu hu=>?_
  rw[D2.1 hu];exact hr.1.one h hone
 |u::v::l,_,_=>cases u<;>rfl
def zbb(S:St C)(f:Nat)(fs caps:List Operand):U7 (AV C.D):=match fs with
 |[]=>chk (zrB (caps.map S.op)) (E (.clo f (caps.map S.op)))
 |fs=>match caps with
  |[]=>E (.clo f [.tup (fs.map S.op)])
  |_=>F
theorem zom(hA:Abs S ν vs ids L b Z PV){f:Nat}{fs caps:Array Operand}(h:zbb S f fs.toList caps.toList=E A):Yl P Z PV L b ⟨E d,.makeFunc (.func f) fs caps,ty,ps,af,g⟩ (λv=>VR C Z ν v A):=by
 unfold zbb at h;split at h
 ·rename_i e;let⟨hc,h2⟩:=zb h;cases h2;have hr:=zba hA caps.toList;exact .of (zfY (fs:=[]) (by rw[e];rfl) rfl) ⟨_,(zxl f hA.one hr hc).symm,hr⟩
 ·split at h
  ·rename_i e;cases h;exact .of (zfY (cs:=[]) rfl (by rw[e];rfl)) ⟨[.tuple (fs.toList.map (opv L b)).toArray],rfl,⟨_,rfl,zba hA _⟩,trivial⟩
  ·cases h
def yB(P:Program)(S:St C)(ty:TypeId):Op->U7 (AV C.D)
 | .move x=>E (zc8 P ty (S.op x))
 | .assign x=>E (zc8 P ty (S.op x))
 | .pick c a e=>match S.op c with
  | .bool q=>zf8 q (S.op a) (S.op e)
  |_=>F
 | .nilCheck x=>match S.op x with
  | .pc id off=>E (.pc id off)
  | .pr id T i off=>E (.pr id T i off)
  | .pz T q off=>E (.pz T q off)
  | .nx id T i (.elem U k off)=>E (.nx id T i (.elem U k off))
  |_=>F
 | .binOp bo t x y _=>x9 P S t bo x y
 | .makeInterface t x=>match P.underlying t with
  |some (.interface _)=>F
  |some _=>E (.ifc t (S.op x))
  |none=>F
 | .typeAssert x _ t ok=>zbH P (S.op x) t ok
 | .unOp .not _ x=>match S.op x with
  | .bool q=>E (.bool !q)
  |_=>F
 | .unOp .neg _ x=>match S.op x with
  | .int k i=>E (.int k (k.wrap (0 - i)))
  |_=>F
 | .convert t t' x=>match P.underlying t,P.underlying t',S.op x with
  |some _,E (.int k'),.int _ i=>E (.int k' (k'.wrap i))
  |_,_,_=>F
 | .makeFunc (.func f) fs caps=>zbb S f fs.toList caps.toList
 | .extract x i=>match S.op x with
  | .tup us=>(us[i]?).bind λA=>E (zc8 P ty A)
  |_=>F
 | .build t parts=>WH P S t parts.toList
 | .field t x m=>zea P t m (S.op x)
 | .fieldAddr t x m=>zd8 P t m (S.op x)
 | .indexAddr t x y=>XU P S t (S.op x) (S.op y)
 | .load t x=>x8 P S t (S.op x)
 | .index t x y=>za9 P t (S.op x) (S.op y)
 | .slice t x lo hi F=>Yp P S t (S.op x) lo hi
 | .call ⟨.builtin .len,args,ts⟩=>match args.toList,ts.toList with
  |[x],[t]=>w5 P S t (S.op x)
  |_,_=>F
 | .call ⟨.builtin .min,args,ts⟩=>match args.toList with
  |[x,y]=>(match S.op x,S.op y with
   | .int k i,.int k' j=>chk (decide (k=k')) (E (.int k (if j < i then j else i)))
   |_,_=>F)
  |_=>F
 | .call ⟨.builtin .max,args,ts⟩=>match args.toList with
  |[x,y]=>(match S.op x,S.op y with
   | .int k i,.int k' j=>chk (decide (k=k')) (E (.int k (if i < j then j else i)))
   |_,_=>F)
  |_=>F
 |_=>F
theorem zyW{α:Type}{a:Array α}{x:α}(h:a.toList=[x]):a = #[x]:=by grind
theorem zaW{α:Type}{a:Array α}{x y:α}(h:a.toList=[x,y]):a = #[x,y]:=by grind
theorem zxm(hA:Abs S ν vs ids L b Z PV){op:Op}(h:yB P S ty op=E A):Yl P Z PV L b ⟨E d,op,ty,ps,af,g⟩ (λv=>VR C Z ν v A):=by
 unfold yB at h;split at h
 ·cases h;exact .of (zyQ rfl) (zc9 (hA.op _))
 ·cases h;exact .of (zs9 rfl) (zc9 (hA.op _))
 ·rename_i c a e;have hc:=hA.op c;split at h
  ·rename_i q e1;rw[e1] at hc;cases q with
   |true=>exact .of (zta hc.bool_inv rfl rfl) (zkO h (hA.op _))
   |false=>exact .of (ztb hc.bool_inv rfl rfl) (zkO h (hA.op _))
  ·cases h
 ·rename_i x;have hx:=hA.op x;split at h
  ·rename_i e;rw[e] at hx;cases h;exact .of (vP (show opv L b x = .pointer (E _) from hx)) (by rfl)
  ·rename_i e;rw[e] at hx;cases h;exact .of (vP (show opv L b x = .pointer (E _) from hx)) (by rfl)
  ·rename_i e;rw[e] at hx;cases h;let⟨ad,cell,hv,h1,h2⟩:=hx.pz_inv;exact .of (vP hv) (by grind)
  ·rename_i e;rw[e] at hx;cases h;exact .of (vP (show opv L b x = .pointer (E _) from hx.1)) ⟨rfl,rfl⟩
  ·cases h
 ·exact zrA hA h
 ·rename_i t x;split at h
  ·cases h
  ·rename_i td hn hu;cases h;exact .of (zxk hu (λms e=>hn ms e) x) ⟨_,rfl,hA.op x⟩
  ·cases h
 ·exact zmU hA h
 ·rename_i x;have hx:=hA.op x;split at h
  ·rename_i e;rw[e] at hx;cases h;exact .of (zA3 hx.bool_inv) Rv.bool
  ·cases h
 ·rename_i x;have hx:=hA.op x;split at h
  ·rename_i e;rw[e] at hx;cases h;exact .of (zA4 hx.int_inv) Rv.int
  ·cases h
 ·rename_i t t' x;have hx:=hA.op x;split at h
  ·rename_i hu hu' e;rw[e] at hx;cases h;exact .of (zi2 hu hu' hx.int_inv) Rv.int
  ·cases h
 ·exact zom hA h
 ·rename_i x i;have hx:=hA.op x;split at h
  ·rename_i us e;rw[e] at hx;let⟨B,hB,h⟩:=gd h;cases h;let⟨ws,hv,k⟩:=hx;let⟨u,hu,hr⟩:=k.get i B hB;exact .of (zrr hv (by simpa using hu)) (zc9 hr)
  ·cases h
 ·exact zok hA h
 ·exact zol hA h
 ·exact zof hA h
 ·exact zog hA h
 ·exact zrw hA h
 ·exact zry hA h
 ·exact zoh hA h
 ·split at h
  ·rename_i e1 e2;rw[zyW e1,zyW e2];exact ztg hA h
  ·cases h
 ·split at h
  ·rename_i x y e1;rw[zaW e1];have hx:=hA.op x;have hy:=hA.op y;split at h
   ·rename_i e2 e3;rw[e2] at hx;rw[e3] at hy;let⟨hk,h2⟩:=zb h;obtain rfl:=Dy hk;cases h2;exact .of (zA5 hx.int_inv hy.int_inv) Rv.int
   ·cases h
  ·cases h
 ·split at h
  ·rename_i x y e1;rw[zaW e1];have hx:=hA.op x;have hy:=hA.op y;split at h
   ·rename_i e2 e3;rw[e2] at hx;rw[e3] at hy;let⟨hk,h2⟩:=zb h;obtain rfl:=Dy hk;cases h2;exact .of (zA6 hx.int_inv hy.int_inv) Rv.int
   ·cases h
  ·cases h
 ·cases h
end
end
section
variable [Dfr]
structure Kp where
 m:Nat
 le:m<=64
 ν0:Val
mutual
def AV.ok{D:Nat->Type}(p:Nat->Prop):AV D->Prop
 | .row id=>p id
 | .pc id _=>p id
 | .pr id _ _ _=>p id
 | .nx id _ _ _=>p id
 | .agg cs=>AV.oks p cs
 | .tup cs=>AV.oks p cs
 | .clo _ cs=>AV.oks p cs
 | .ifc _ A=>AV.ok p A
 |_=>True
def AV.oks{D:Nat->Type}(p:Nat->Prop):List (AV D)->Prop
 |[]=>True
 |A::As=>AV.ok p A/\AV.oks p As
end
mutual
def AV.sub{D:Nat->Type}(id:Nat)(R:AV D):AV D->AV D
 | .row j=>bif I j id then R else .row j
 | .pc j o=>bif I j id then .und else .pc j o
 | .pr j T i o=>bif I j id then .und else .pr j T i o
 | .nx j T i x=>bif I j id then .und else .nx j T i x
 | .agg cs =>.agg (AV.subs id R cs)
 | .tup cs =>.tup (AV.subs id R cs)
 | .clo f cs =>.clo f (AV.subs id R cs)
 | .ifc t A =>.ifc t (AV.sub id R A)
 |A=>A
def AV.subs{D:Nat->Type}(id:Nat)(R:AV D):List (AV D)->List (AV D)
 |[]=>[]
 |A::As=>AV.sub id R A::AV.subs id R As
end
section
variable {κ:Kp}{C:Cod}{S:St C}{ν ν':Val}{vs:Nat->List Value}{ids:List Nat}{L:List (Nat×Value)}{b:Nat->Value}{Z:FS}{PV:List Priv}{P:Program}
variable {t t' ty:TypeId}{x y z:Operand}{d:Nat}{ps:String}{af:Array Edge}{g:U7 (Nat×Bool)}{A:AV C.D}
omit [Dfr] in
mutual
theorem AV.ok_mono{D:Nat->Type}{p q:Nat->Prop}(h:∀i,p i->q i):∀{A:AV D},A.ok p->A.ok q
 | .row _,k=>h _ k
 | .pc _ _,k=>h _ k
 | .pr _ _ _ _,k=>h _ k
 | .nx _ _ _ _,k=>h _ k
 | .agg cs,k=>AV.oks_mono h (A:=cs) k
 | .tup cs,k=>AV.oks_mono h (A:=cs) k
 | .clo _ cs,k=>AV.oks_mono h (A:=cs) k
 | .ifc _ A,k=>AV.ok_mono h (A:=A) k
 | .int _ _,_=>trivial
 | .bool _,_=>trivial
 | .str _,_=>trivial
 | .sl _ _ _,_=>trivial
 | .pz _ _ _,_=>trivial
 | .pnil,_=>trivial
 | .nils,_=>trivial
 | .nilf,_=>trivial
 | .nili,_=>trivial
 | .und,_=>trivial
theorem AV.oks_mono{D:Nat->Type}{p q:Nat->Prop}(h:∀i,p i->q i):∀{A:List (AV D)},AV.oks p A->AV.oks q A
 |[],_=>trivial
 |A::As,⟨k,l⟩=>⟨AV.ok_mono h k,AV.oks_mono h l⟩
end
omit [Dfr] in
mutual
theorem VR.congr{p:Nat->Prop}(h:∀i,p i->ν.hdr i=ν'.hdr i/\ν.adr i=ν'.adr i):∀{A:AV C.D}{v:Value},A.ok p->VR C Z ν v A->VR C Z ν' v A
 | .row _,_,k,r=>by have:=(h _ k).1;rw[show _=ν.hdr _ from r,this];rfl
 | .pc _ _,_,k,r=>by have:=(h _ k).2;rw[show _=V (E ((ν.adr _).add _)) from r,this];rfl
 | .pr _ _ _ _,_,k,r=>by have:=(h _ k).1;rw[show _=V (E (zh (ν.hdr _) _)) from r,this];rfl
 | .nx _ _ _ _,_,k,r=>by refine⟨?_,r.2⟩;rw[<- (h _ k).2];exact r.1
 | .agg cs,_,k,⟨vs,e,r⟩=>⟨vs,e,VRs.congr h k r⟩
 | .tup cs,_,k,⟨vs,e,r⟩=>⟨vs,e,VRs.congr h k r⟩
 | .clo _ cs,_,k,⟨vs,e,r⟩=>⟨vs,e,VRs.congr h k r⟩
 | .ifc _ A,_,k,⟨u,e,r⟩=>⟨u,e,VR.congr h k r⟩
 | .int _ _,_,_,r=>r
 | .bool _,_,_,r=>r
 | .str _,_,_,r=>r
 | .sl _ _ _,_,_,r=>r
 | .pz _ _ _,_,_,r=>r
 | .pnil,_,_,r=>r
 | .nils,_,_,r=>r
 | .nilf,_,_,r=>r
 | .nili,_,_,r=>r
 | .und,_,_,_=>trivial
theorem VRs.congr{p:Nat->Prop}(h:∀i,p i->ν.hdr i=ν'.hdr i/\ν.adr i=ν'.adr i):∀{cs:List (AV C.D)}{vs:List Value},AV.oks p cs->VRs C Z ν vs cs->VRs C Z ν' vs cs
 |[],[],_,_=>trivial
 |A::As,v::vs,⟨k,l⟩,⟨r,s⟩=>⟨VR.congr h k r,VRs.congr h l s⟩
 |[],_::_,_,r=>r.elim
 |_::_,[],_,r=>r.elim
end
omit [Dfr] in
mutual
theorem AV.ok_sub{D:Nat->Type}{p:Nat->Prop}{id:Nat}{R:AV D}(hR:R.ok λj=>p j/\j≠id):∀{A:AV D},A.ok p->(AV.sub id R A).ok λj=>p j/\j≠id
 | .row j,k=>by
  unfold AV.sub;cases e:I j id with
  |true=>exact hR
  |false=>exact⟨k,λe'=>by rw[e'] at e;simp at e⟩
 | .pc j o,k=>by
  unfold AV.sub;cases e:I j id with
  |true=>trivial
  |false=>exact⟨k,λe'=>by rw[e'] at e;simp at e⟩
 | .pr j _ _ _,k=>by
  unfold AV.sub;cases e:I j id with
  |true=>trivial
  |false=>exact⟨k,λe'=>by rw[e'] at e;simp at e⟩
 | .nx j _ _ _,k=>by
  unfold AV.sub;cases e:I j id with
  |true=>trivial
  |false=>exact⟨k,λe'=>by rw[e'] at e;simp at e⟩
 | .agg cs,k=>AV.oks_sub hR (A:=cs) k
 | .tup cs,k=>AV.oks_sub hR (A:=cs) k
 | .clo _ cs,k=>AV.oks_sub hR (A:=cs) k
 | .ifc _ A,k=>AV.ok_sub hR (A:=A) k
 | .int _ _,_=>trivial
 | .bool _,_=>trivial
 | .str _,_=>trivial
 | .sl _ _ _,_=>trivial
 | .pz _ _ _,_=>trivial
 | .pnil,_=>trivial
 | .nils,_=>trivial
 | .nilf,_=>trivial
 | .nili,_=>trivial
 | .und,_=>trivial
theorem AV.oks_sub{D:Nat->Type}{p:Nat->Prop}{id:Nat}{R:AV D}(hR:R.ok λj=>p j/\j≠id):∀{A:List (AV D)},AV.oks p A->AV.oks (λj=>p j/\j≠id) (AV.subs id R A)
 |[],_=>trivial
 |A::As,⟨k,l⟩=>⟨AV.ok_sub hR k,AV.oks_sub hR l⟩
end
omit [Dfr] in
mutual
theorem VR.sub{id:Nat}{R:AV C.D}(hR:VR C Z ν (ν.hdr id) R):∀{A:AV C.D}{v:Value},VR C Z ν v A->VR C Z ν v (AV.sub id R A)
 | .row j,v,r=>by
  unfold AV.sub;cases e:I j id with
  |true=>have:=ge e;subst this;rw[show v=ν.hdr j from r];exact hR
  |false=>exact r
 | .pc j o,v,r=>by
  unfold AV.sub;cases e:I j id with
  |true=>trivial
  |false=>exact r
 | .pr j _ _ _,v,r=>by
  unfold AV.sub;cases e:I j id with
  |true=>trivial
  |false=>exact r
 | .nx j _ _ _,v,r=>by
  unfold AV.sub;cases e:I j id with
  |true=>trivial
  |false=>exact r
 | .agg cs,_,⟨vs,e,r⟩=>⟨vs,e,VRs.sub hR r⟩
 | .tup cs,_,⟨vs,e,r⟩=>⟨vs,e,VRs.sub hR r⟩
 | .clo _ cs,_,⟨vs,e,r⟩=>⟨vs,e,VRs.sub hR r⟩
 | .ifc _ A,_,⟨u,e,r⟩=>⟨u,e,VR.sub hR r⟩
 | .int _ _,_,r=>r
 | .bool _,_,r=>r
 | .str _,_,r=>r
 | .sl _ _ _,_,r=>r
 | .pz _ _ _,_,r=>r
 | .pnil,_,r=>r
 | .nils,_,r=>r
 | .nilf,_,r=>r
 | .nili,_,r=>r
 | .und,_,_=>trivial
theorem VRs.sub{id:Nat}{R:AV C.D}(hR:VR C Z ν (ν.hdr id) R):∀{cs:List (AV C.D)}{vs:List Value},VRs C Z ν vs cs->VRs C Z ν vs (AV.subs id R cs)
 |[],[],_=>trivial
 |A::As,v::vs,⟨r,s⟩=>⟨VR.sub hR r,VRs.sub hR s⟩
 |[],_::_,r=>r.elim
 |_::_,[],r=>r.elim
end
omit [Dfr] in
structure AbsL(κ:Kp)(S:St C)(ν:Val)(vs:Nat->List Value)(ids:List Nat)(L:List (Nat×Value))(b:Nat->Value)(Z:FS)(PV:List Priv):Prop extends Abs S ν vs ids L b Z PV where
 live:∀t,(S.env t).ok λid=>(S.heap id).isSome=G
 livec:∀id cs,S.heap id=E (.cell cs)->AV.oks (λid=>(S.heap id).isSome=G) cs
 keep:∀k,k < κ.m->(S.heap k).isSome=G->ν.hdr k=κ.ν0.hdr k/\(ν.adr k).a=(κ.ν0.adr k).a/\(Z0 (S.heap k)=G->(ν.adr k).sub=(κ.ν0.adr k).sub)
omit [Dfr] in
def zy(κ:Kp)(S:St C)(L:List (Nat×Value))(b:Nat->Value)(Z:FS)(PV:List Priv):Prop:=∃ν vs ids,AbsL κ S ν vs ids L b Z PV
def Ent.sub(id:Nat)(R:AV C.D):Ent C->Ent C
 | .cell cs =>.cell (AV.subs id R cs)
 | .row T s =>.row T s
 | .obj k T b s =>.obj k T b s
 | .orow T s g =>.orow T s g
def St.sub(S:St C)(id:Nat)(R:AV C.D):St C:=
 {env:=λt=>AV.sub id R (S.env t),heap:=λj=>bif I j id then F else(S.heap j).map (Ent.sub id R)}
theorem ztj{id:Nat}{R:AV C.D}{o:U7 (Ent C)}:Z0 (o.map (Ent.sub id R))=Z0 o:=by
 cases o with
 |none=>rfl
 |some e=>cases e<;>rfl
theorem VA{α β:Type}(f:α->β):∀(l:List α) (m:Nat),(l.map f).eraseIdx m=(l.eraseIdx m).map f
 |[],_=>rfl
 |_::_,0=>rfl
 |a::l,m+1=>by simp[VA f l m]
omit [Dfr] in
theorem AbsL.sub (h:AbsL κ S ν vs ids L b Z PV) {id m:Nat}{R:AV C.D}{τ:FS}{PV':List Priv}(hm:ids[m]?=E id) (hl:Z.le τ) (hR:VR C τ ν (ν.hdr id) R) (hR2:R.ok λj=>(S.heap j).isSome=G/\j≠id) (hP:PV.eraseIdx m=PV') :
    AbsL κ (S.sub id R) ν vs (ids.eraseIdx m) L b τ PV':=by
 have hmem:∀j,j∈ids.eraseIdx m↔j∈ids/\j≠id:=by
  intro j;have hp:=qx.1 (UH.1 h.nd);let⟨hml,hid⟩:=UG.1 hm;rw[qJ];constructor
  ·grind
  ·rintro⟨hj,hne⟩;obtain⟨i,hi,rfl⟩:=qU hj;grind
 have hheap:∀j,j≠id->(S.sub id R).heap j=(S.heap j).map (Ent.sub id R):=λj hj=>by
  show(bif I j id then F else _)=_;cases e:I j id with
  |true=>exact absurd (ge e) hj
  |false=>rfl
 have hid0:(S.sub id R).heap id=none:=by
  show(bif I id id then F else _)=_;simp
 have hlive:∀j,((S.heap j).isSome=G/\j≠id)↔((S.sub id R).heap j).isSome=true:=λj=>by
  grind
 refine⟨⟨List.Nodup.sublist (qV _ _) h.nd,λj=>?_,?_,λj cs hc=>?_,λt=>VR.sub hR ((h.env t).mono hl),h.one⟩,λt=>?_,λj cs hc=>?_,λk hk hs=>have q:=h.keep k hk ((hlive k).2 hs).1;⟨q.1,q.2.1,λhf=>q.2.2 (by rw[hheap k ((hlive k).2 hs).2,ztj] at hf;exact hf)⟩⟩
 ·rw[hmem,h.dom];exact hlive j
 · rw[<- hP,h.pv,VA];apply D3;intro j hj;have:=((hmem j).1 hj).2;rw[hheap j this];cases S.heap j with
   |none=>rfl
   |some e=>cases e<;>rfl
 · by_cases e:j=id
   ·grind
   · rw[hheap j e] at hc;cases hj:S.heap j with
     |none=>grind
     |some en=>
      rw[hj] at hc;cases en with
      |cell cs0=>cases hc;exact VRs.sub hR ((h.cell j cs0 hj).mono hl)
      |row T s=>cases hc
      |obj k T b s=>cases hc
      |orow T s g=>cases hc
 ·exact AV.ok_mono (λj hj=>(hlive j).1 hj) (AV.ok_sub hR2 (h.live t))
 · by_cases e:j=id
   ·grind
   · rw[hheap j e] at hc;cases hj:S.heap j with
     |none=>grind
     |some en=>
      rw[hj] at hc;cases en with
      |cell cs0=>cases hc;exact AV.oks_mono (λj hj=>(hlive j).1 hj) (AV.oks_sub hR2 (h.livec j cs0 hj))
      |row T s=>cases hc
      |obj k T b s=>cases hc
      |orow T s g=>cases hc
def Ent.hd(e:Ent C)(v:Value):Value:=match e with
 | .row _ _=>v
 | .obj _ _ _ _=>v
 | .orow _ _ _=>v
 | .cell _ =>.slice F 0 0
def Ent.at(e:Ent C)(v:Value)(a:Loc):Value:=match e with
 | .row _ _=>v
 | .obj _ _ _ _=>v
 | .orow _ _ _=>v
 | .cell _ =>.pointer (E a.a)
omit [Dfr] in
def Ent.pv(e:Ent C)(v:Value)(a:Loc)(us:List Value):Priv:=match e with
 | .cell _ =>.cell a.a us
 | .row T s =>.row (zx C T).o T v s
 | .obj k T b s=>C.opv k T v a.a b s
 | .orow T s g =>.row (Zd C T) T v (hpl C T a.sub s g)
theorem AbsL.new (h:AbsL κ S ν vs ids L b Z PV) {id:Nat}(h0:S.heap id=F) (h64:κ.m<=id) {e:Ent C}{v:Value}{a:Loc}{us:List Value}{A:AV C.D}{p:Priv}(hv:∀ν',ν'.hdr id=e.hd v->ν'.adr id=a->VR C Z ν' (e.at v a) A/\A.ok λj=>j=id)
    (hone:v.oneCell'=G) (hp:p=e.pv v a us) (hc:∀cs,e = .cell cs->VRs C Z ν us cs/\AV.oks (λid=>(S.heap id).isSome=G) cs) {u:Value} (hu:u=e.at v a) {d:Nat} :
    zy κ {env:=upd S.env d A,heap:=upd S.heap id (E e)} ((d,u)::L) b Z (p::PV):=by
 let ν':Val:={hdr:=upd ν.hdr id (e.hd v),adr:=upd ν.adr id a}
 let vs':=upd vs id us
 have hne:∀j,(S.heap j).isSome=G->j≠id:=λj hj e=>by grind
 have hag:∀j,(S.heap j).isSome=G->ν.hdr j=ν'.hdr j/\ν.adr j=ν'.adr j:=λj hj=>⟨(zq (hne j hj)).symm,(zq (hne j hj)).symm⟩
 have hlv:∀j,(S.heap j).isSome=G->(upd S.heap id (E e) j).isSome=true:=λj hj=>by rw[zq (hne j hj)];exact hj
 have hid:id ∉ ids:=λhm=>by have:=(h.dom id).1 hm;grind
 let⟨hA1,hA2⟩:=hv ν' zp zp;refine⟨ν',vs',id::ids,⟨⟨qT.2 ⟨hid,h.nd⟩,λj=>?_,?_,λj cs hj=>?_,λt=>?_,λi=>?_⟩,λt=>?_,λj cs hj=>?_,λk hk hs=>?_⟩⟩
 · by_cases e':j=id
   ·subst e';show _↔(upd S.heap j (E e) j).isSome=G;rw[zp];simp
   ·show _↔(upd S.heap id (E e) j).isSome=G;rw[zq e',De,h.dom];grind
 · rw[UI,h.pv];refine List.cons_eq_cons.2 ⟨?_,D3 λj hj=>?_⟩
   · show p=zH C ν' vs' id (upd S.heap id (E e) id);rw[hp,zp];cases e with
     |cell cs=>simp[zH,vs',ν',zp,Ent.pv]
     |row T s=>simp[zH,ν',zp,Ent.hd,Ent.pv]
     |obj k T b s=>simp[zH,ν',zp,Ent.hd,Ent.pv]
     |orow T s g=>simp[zH,ν',zp,Ent.hd,Ent.pv]
   · have hj':=hne j ((h.dom j).1 hj);show zH C ν vs j (S.heap j)=zH C ν' vs' j (upd S.heap id (E e) j);rw[zq hj'];cases S.heap j with
     |none=>rfl
     |some en=>cases en<;>simp[zH,vs',ν',zq hj']
 · by_cases e':j=id
   ·subst e';have hj:upd S.heap j (E e) j=_:=hj;rw[zp] at hj;cases hj;show VRs C Z ν' (upd vs j us j) cs;rw[zp];exact(hc cs rfl).1.congr hag (hc cs rfl).2
   ·have hj:upd S.heap id (E e) j=_:=hj;rw[zq e'] at hj;show VRs C Z ν' (upd vs id us j) cs;rw[zq e'];exact(h.cell j cs hj).congr hag (h.livec j cs hj)
 · show VR C Z ν' (look ((d,u)::L) b t) (upd S.env d A t);unfold look upd;cases e':I t d with
   |true=>grind
   |false=>exact(h.env t).congr hag (h.live t)
 · by_cases e':i=id
   ·subst e';show(upd ν.hdr i _ i).oneCell'=G;rw[zp];cases e<;>first | exact hone | rfl
   ·show(upd ν.hdr id _ i).oneCell'=G;rw[zq e'];exact h.one i
 · show(upd S.env d A t).ok λj=>(upd S.heap id (E e) j).isSome=G
   unfold upd;cases e':I t d with
   |true=>exact AV.ok_mono (λj hj=>by subst hj;simp) hA2
   |false=>exact AV.ok_mono (λj hj=>by grind) (h.live t)
 · by_cases e':j=id
   ·subst e';have hj:upd S.heap j (E e) j=_:=hj;rw[zp] at hj;cases hj;exact AV.oks_mono hlv (hc cs rfl).2
   ·have hj:upd S.heap id (E e) j=_:=hj;rw[zq e'] at hj;exact AV.oks_mono hlv (h.livec j cs hj)
 · have hne':k≠id:=by omega
   have hs:(upd S.heap id (E e) k).isSome=true:=hs;rw[zq hne'] at hs;have:=hag k hs;have h2:=h.keep k hk hs;refine⟨this.1.symm.trans h2.1,(congrArg Loc.a this.2).symm.trans h2.2.1,λhf=>(congrArg Loc.sub this.2).symm.trans (h2.2.2 ?_)⟩;have hf:Z0 (upd S.heap id (E e) k)=true:=hf;rw[zq hne'] at hf;exact hf
mutual
def AV.knx{D:Nat->Type}(q:Nat->Bool):AV D->AV D
 | .nx j T i x=>bif q j then .und else .nx j T i x
 | .agg cs =>.agg (AV.knxs q cs)
 | .tup cs =>.tup (AV.knxs q cs)
 | .clo f cs =>.clo f (AV.knxs q cs)
 | .ifc t A =>.ifc t (AV.knx q A)
 |A=>A
def AV.knxs{D:Nat->Type}(q:Nat->Bool):List (AV D)->List (AV D)
 |[]=>[]
 |A::As=>AV.knx q A::AV.knxs q As
end
omit [Dfr] in
mutual
theorem VR.knx{p:Nat->Prop}{q:Nat->Bool}(h:∀i,p i->ν.hdr i=ν'.hdr i/\(ν.adr i).a=(ν'.adr i).a)(hq:∀i,p i->q i=N->(ν.adr i).sub=(ν'.adr i).sub):∀{A:AV C.D}{v:Value},A.ok p->VR C Z ν v A->VR C Z ν' v (AV.knx q A)
 | .row _,_,k,r=>by have:=(h _ k).1;rw[show _=ν.hdr _ from r,this];rfl
 | .pc _ _,_,k,r=>by have:=(h _ k).2;rw[show _=V (E ((ν.adr _).a.add _)) from r,this];rfl
 | .pr _ _ _ _,_,k,r=>by have:=(h _ k).1;rw[show _=V (E (zh (ν.hdr _) _)) from r,this];rfl
 | .nx j _ _ _,_,k,r=>by
  unfold AV.knx;cases e:q j with
  |true=>trivial
  |false=>refine⟨?_,r.2⟩;rw[<- hq j k e];exact r.1
 | .agg cs,_,k,⟨vs,e,r⟩=>⟨vs,e,VRs.knx h hq k r⟩
 | .tup cs,_,k,⟨vs,e,r⟩=>⟨vs,e,VRs.knx h hq k r⟩
 | .clo _ cs,_,k,⟨vs,e,r⟩=>⟨vs,e,VRs.knx h hq k r⟩
 | .ifc _ A,_,k,⟨u,e,r⟩=>⟨u,e,VR.knx h hq k r⟩
 | .int _ _,_,_,r=>r
 | .bool _,_,_,r=>r
 | .str _,_,_,r=>r
 | .sl _ _ _,_,_,r=>r
 | .pz _ _ _,_,_,r=>r
 | .pnil,_,_,r=>r
 | .nils,_,_,r=>r
 | .nilf,_,_,r=>r
 | .nili,_,_,r=>r
 | .und,_,_,_=>trivial
theorem VRs.knx{p:Nat->Prop}{q:Nat->Bool}(h:∀i,p i->ν.hdr i=ν'.hdr i/\(ν.adr i).a=(ν'.adr i).a)(hq:∀i,p i->q i=N->(ν.adr i).sub=(ν'.adr i).sub):∀{cs:List (AV C.D)}{vs:List Value},AV.oks p cs->VRs C Z ν vs cs->VRs C Z ν' vs (AV.knxs q cs)
 |[],[],_,_=>trivial
 |A::As,v::vs,⟨k,l⟩,⟨r,s⟩=>⟨VR.knx h hq k r,VRs.knx h hq l s⟩
 |[],_::_,_,r=>r.elim
 |_::_,[],_,r=>r.elim
end
omit [Dfr] in
mutual
theorem AV.ok_knx{D:Nat->Type}{p:Nat->Prop}{q:Nat->Bool}:∀{A:AV D},A.ok p->(AV.knx q A).ok p
 | .row _,k=>k
 | .pc _ _,k=>k
 | .pr _ _ _ _,k=>k
 | .nx j _ _ _,k=>by
  unfold AV.knx;cases q j with
  |true=>trivial
  |false=>exact k
 | .agg cs,k=>AV.oks_knx (A:=cs) k
 | .tup cs,k=>AV.oks_knx (A:=cs) k
 | .clo _ cs,k=>AV.oks_knx (A:=cs) k
 | .ifc _ A,k=>AV.ok_knx (A:=A) k
 | .int _ _,_=>trivial
 | .bool _,_=>trivial
 | .str _,_=>trivial
 | .sl _ _ _,_=>trivial
 | .pz _ _ _,_=>trivial
 | .pnil,_=>trivial
 | .nils,_=>trivial
 | .nilf,_=>trivial
 | .nili,_=>trivial
 | .und,_=>trivial
theorem AV.oks_knx{D:Nat->Type}{p:Nat->Prop}{q:Nat->Bool}:∀{A:List (AV D)},AV.oks p A->AV.oks p (AV.knxs q A)
 |[],_=>trivial
 |A::As,⟨k,l⟩=>⟨AV.ok_knx k,AV.oks_knx l⟩
end
def Ent.knx(q:Nat->Bool):Ent C->Ent C
 | .cell cs =>.cell (AV.knxs q cs)
 | .row T s =>.row T s
 | .obj k T b s =>.obj k T b s
 | .orow T s g =>.orow T s g
end
variable [Dfr]
inductive Out(C:Cod) where
 |go (S:St C)
 |pan (v:AV C.D) (S:St C)
def nid(d j:Nat):Nat:=(d+1) * 64+j
def isNone{α:Type}:U7 α->Bool
 |none=>G
 |some _=>N
theorem yL(κ:Kp)(d j:Nat):κ.m<=nid d j:=by have:=κ.le;unfold nid;omega
theorem Ze{α:Type}{x:U7 α}(h:isNone x=G):x=none:=by cases x<;>first | rfl | cases h
section
variable {κ:Kp}{C:Cod}{S:St C}{ν:Val}{vs:Nat->List Value}{ids:List Nat}{L:List (Nat×Value)}{b:Nat->Value}{Z:FS}{PV:List Priv}{P:Program}
variable {t t' ty:TypeId}{x y z:Operand}{d:Nat}{ps:String}{af:Array Edge}{g:U7 (Nat×Bool)}{A:AV C.D}{n:Nat}{w0:Start}{σ0:FS}{o:Oper}{X:U7 (Out C)}
def Xy(C:Cod)(Z:FS)(u:Value)(v:AV C.D):Prop:=v.ok (λ_=>False)/\∀ν:Val,(∀i,(ν.hdr i).oneCell'=G)->VR C Z ν u v
def OpA(κ:Kp)(P:Program)(n:Nat)(w0:Start)(σ0:FS)(o:Oper)(X:U7 (Out C))(L:List (Nat×Value))(b:Nat->Value)(Z:FS)(PV:List Priv):Prop:=
 ∀out,X=E out->∀a w,Inv w0 σ0 Z PV w->Fits n L b a->∀(K:Act->World->Prop) (Q:Exit->Act->World->Prop),
  (∀S',out = .go S'->∀L' Z' PV' a' w',Inv w0 σ0 Z' PV' w'->Fits n L' b a'->zy κ S' L' b Z' PV'->K a' w')->
  (∀v S',out = .pan v S'->∀u Z' PV' w',Inv w0 σ0 Z' PV' w'->zy κ S' L b Z' PV'->Xy C Z' u v->Q (.panic [{v:=u,recovered:=false}]) a w')->o.wp P a w K Q
theorem OpA.of(h:Xl P n w0 σ0 o X L b Z PV λp' L' Z' PV'=>∀r,p'=E r->∃S',r = .go S'/\zy κ S' L' b Z' PV'):OpA κ P n w0 σ0 o X L b Z PV:=by
 intro out hX a w hi hf K Q hK hP;refine h out hX a w hi hf K Q ?_;grind
omit [Dfr] in
theorem AbsL.put(h:AbsL κ S ν vs ids L b Z PV){v:Value}(hv:VR C Z ν v A)(hl:A.ok λid=>(S.heap id).isSome=G):AbsL κ (S.put d A) ν vs ids ((d,v)::L) b Z PV:=by
 refine⟨⟨h.nd,h.dom,h.pv,h.cell,λt=>?_,h.one⟩,λt=>?_,h.livec,h.keep⟩
 ·show VR C Z ν (look ((d,v)::L) b t) (upd S.env d A t);unfold look upd;cases I t d with
  |true=>exact hv
  |false=>exact h.env t
 ·show(upd S.env d A t).ok _;unfold upd;cases I t d with
  |true=>exact hl
  |false=>exact h.live t
theorem zad (h:AbsL κ S ν vs ids L b Z PV) {op:Op}(hn:O d n=G) (he:yB P S ty op=E A) (hl:A.ok λid=>(S.heap id).isSome=G) :
    OpA κ P n w0 σ0 ⟨E d,op,ty,ps,af,g⟩ (E (.go (S.put d A))) L b Z PV:=
 .of ((zxm h.toAbs he).ok hn rfl λv hv r hr=>⟨_,(W.inj hr).symm,ν,vs,ids,h.put hv hl⟩)
def St.frz1(S:St C)(id:Nat):St C:=match S.heap id with
 |some (.row T s)=>S.sub id (.sl T s N)
 |some (.orow T s g)=>bif g.rd then S.sub id (.sl T s N) else S
 |_=>S
def St.frz(S:St C):List Nat->St C
 |[]=>S
 |id::r=>(S.frz1 id).frz r
theorem ztk(h:zy κ S L b Z PV)(id:Nat){w:World}(hi:Inv w0 σ0 Z PV w):∃Z' PV',Inv w0 σ0 Z' PV' w/\zy κ (S.frz1 id) L b Z' PV':=by
 unfold St.frz1;split
 ·rename_i T s hs;let⟨ν,vs,ids,h⟩:=h;let⟨m,hm,hid⟩:=h.at hs;let⟨h1,hh,hsub,hle,hi'⟩:=hi.freeze hm;have hh:zn (zx C T).o T (ν.hdr id) s Z h1:=hh;refine⟨_,_,hi',ν,vs,_,h.sub hid hle ?_ trivial rfl⟩;exact(Rv.of_vrel (hh.fast hle λb o v e=>Xx b o v e)).vr
 ·rename_i T s g hs;cases hg:g.rd with
  |false=>grind
  |true=>
   let⟨ν,vs,ids,h⟩:=h;let⟨m,hm,hid⟩:=h.at hs;let⟨h1,hh,hsub,hle,hi'⟩:=hi.freeze hm;have hh:zn (Zd C T) T (ν.hdr id) (hpl C T (ν.adr id).sub s g) Z h1:=hh;refine⟨_,_,hi',ν,vs,_,h.sub hid hle ?_ trivial rfl⟩;exact(Rv.of_vrel (zkJ hg (hh.fast hle λb o v e=>Xx b o v e))).vr
 grind
theorem zeb:∀(l:List Nat) {S:St C}{Z:FS}{PV:List Priv}(h:zy κ S L b Z PV) {w:World}(hi:Inv w0 σ0 Z PV w),∃Z' PV',Inv w0 σ0 Z' PV' w/\zy κ (S.frz l) L b Z' PV'
 |[],S,Z,PV,h,w,hi=>⟨Z,PV,hi,h⟩
 |id::r,S,Z,PV,h,w,hi=>by
  let⟨Z',PV',hi',h'⟩:=ztk h id hi;exact zeb r h' hi'
theorem OpA.frz(l:List Nat)(h:zy κ S L b Z PV)(k:∀Z' PV',zy κ (S.frz l) L b Z' PV'->OpA κ P n w0 σ0 o X L b Z' PV'):OpA κ P n w0 σ0 o X L b Z PV:=by
 intro out hX a w hi hf K Q hK hP;let⟨Z',PV',hi',h'⟩:=zeb l h hi;exact k Z' PV' h' out hX a w hi' hf K Q hK hP
def zbI(S:St C)(d:Nat)(cs:List (AV C.D)):U7 (Out C):=
 chk (isNone (S.heap (nid d 0))) (E (.go {env:=upd S.env d (.pc (nid d 0) 0),heap:=upd S.heap (nid d 0) (E (.cell cs))}))
theorem AbsL.oks_op(h:AbsL κ S ν vs ids L b Z PV)(x:Operand):(S.op x).ok λid=>(S.heap id).isSome=true:=by
 cases x with
 |tmp t=>exact h.live t
 |const v=>
  have h1:∀v:Value,(ZY v:AV C.D).ok λid=>(S.heap id).isSome=true:=by
   intro v;unfold ZY;split<;>trivial
  have h2:∀l:List Value,AV.oks (λid=>(S.heap id).isSome=G) (l.map (ZY (D:=C.D))):=by
   intro l
   induction l with
   |nil=>trivial
   |cons v l ih=>exact⟨h1 v,ih⟩
  show(zbC v:AV C.D).ok _;unfold zbC;split
  ·exact h2 _
  ·exact h1 _
 |global _=>trivial
 |func f=>trivial
theorem AV.oks_cells{D:Nat->Type}{p:Nat->Prop}:∀{A:AV D},A.ok p->AV.oks p (zr A):=by
 intro A h;cases A
 case agg cs=>exact h
 all_goals exact⟨h,trivial⟩
theorem zrC(h:AbsL κ S ν vs ids L b Z PV)(hn:O d n=G)(hs:YQ (S.op x)=G):OpA κ P n w0 σ0 ⟨E d,.box t x,ty,ps,af,g⟩ (zbI S d (zr (S.op x))) L b Z PV:=by
 intro out hX;let⟨h0,hX⟩:=zb hX;have h0:=Ze h0;let⟨hc,_⟩:=ZD (h.op x) hs h.one;refine(OpA.of (zrs hn rfl λc r hr=>⟨_,(W.inj hr).symm,?_⟩):OpA κ P n w0 σ0 _ (E (.go _)) L b Z PV) out hX;refine h.new h0 (yL κ d 0) (e :=.cell _) (v :=.slice F 0 0) (a:=⟨c,λ_ =>.slice F 0 0⟩) (us:=(opv L b x).cells.toList) (A :=.pc (nid d 0) 0) (λν' h1 h2=>⟨?_,by show nid d 0=nid d 0;rfl⟩) rfl rfl (λcs hcs=>?_) (by simp[Ent.at,Addr.add])
 ·show V (E c) = .pointer (E ((ν'.adr _).add 0));rw[h2];simp[Addr.add]
 ·cases hcs;exact⟨hc,AV.oks_cells (h.oks_op x)⟩
theorem YR{p:Nat->Prop}:∀l:List Value,AV.oks p (l.map (ZY (D:=C.D)))
 |[]=>trivial
 |v::l=>⟨by unfold ZY;split<;>trivial,YR l⟩
def zrD(S:St C)(d k T:Nat):U7 (Out C):=
 chk (isNone (S.heap (nid d 0))) (E (.go {env:=upd S.env d (.pc (nid d 0) 0),heap:=upd S.heap (nid d 0) (E (.obj k T ⟨#[]⟩ ⟨[],N⟩))}))
def Xf(P:Program)(S:St C)(d:Nat)(t:TypeId):U7 (Out C):=match P.info? t with
 |some ti=>(match ti.zero with
  |some zv=>(match C.oal t zv.cells.toList with
   |some (k,T)=>zrD S d k T
   |none=>zbI S d (zv.cells.toList.map ZY))
  |none=>F)
 |none=>F
theorem zon(h:AbsL κ S ν vs ids L b Z PV)(hn:O d n=G):OpA κ P n w0 σ0 ⟨E d,.alloc t,ty,ps,af,g⟩ (Xf P S d t) L b Z PV:=by
 intro out hX;unfold Xf at hX;split at hX
 ·rename_i ti hi;split at hX
  ·rename_i zv hz;split at hX
   ·rename_i k T ho;let⟨h0,hX⟩:=zb hX;cases hX;have h0:=Ze h0;intro a w hi' hf K Q hK hP;have hrun:(execOp a.eval ⟨E d,.alloc t,ty,ps,af,g⟩).run P w = .ok (.value (.pointer (E ⟨w.heap.size,0,F⟩))) (w.alloc (.cells zv.cells t (0,0))):=by
     rw[hf.eval];simp[execOp,Instr.alloc,zeroValue,typeInfo,hi,hz,newVar,newRow,newObj,Sem.run]
    unfold qc;rw[hrun,qA]
    have hi2:Inv w0 σ0 Z (C.opv k T (.pointer (E ⟨w.heap.size,0,F⟩)) ⟨w.heap.size,0,F⟩ ⟨#[]⟩ ⟨[],N⟩::PV) (w.alloc (.cells zv.cells t (0,0))):=
     hi'.cons (h1:=Za w.heap.size t zv.cells) (C.oal_ok t _ k T ho _ _ _ _ (.refl _)) (x7 (yV _ _)) (vq _ _ _ _) λb i hb=>by rw[(Yu hb).1];grind
    refine hK _ rfl _ Z _ _ _ hi2 (hf.put (by simpa[Dd] using hn) _) ?_;refine h.new h0 (yL κ d 0) (e :=.obj k T ⟨#[]⟩ ⟨[],N⟩) (v :=.pointer (E ⟨w.heap.size,0,F⟩)) (a:=⟨⟨w.heap.size,0,F⟩,λ_ =>.slice F 0 0⟩) (us:=[]) (A :=.pc (nid d 0) 0) (λν' h1 h2=>⟨?_,by show nid d 0=nid d 0;rfl⟩) rfl rfl (λcs hcs=>by cases hcs) rfl;show V (E ⟨w.heap.size,0,F⟩) = .pointer (E ((ν'.adr _).add 0));rw[h2];simp[Addr.add]
   let⟨h0,hX⟩:=zb hX;have h0:=Ze h0;refine(OpA.of (zkA hn hi hz rfl λc r hr=>⟨_,(W.inj hr).symm,?_⟩):OpA κ P n w0 σ0 _ (E (.go _)) L b Z PV) out hX;refine h.new h0 (yL κ d 0) (e :=.cell _) (v :=.slice F 0 0) (a:=⟨c,λ_ =>.slice F 0 0⟩) (us:=zv.cells.toList) (A :=.pc (nid d 0) 0) (λν' h1 h2=>⟨?_,by show nid d 0=nid d 0;rfl⟩) rfl rfl (λcs hcs=>?_) (by simp[Ent.at,Addr.add])
   ·show V (E c) = .pointer (E ((ν'.adr _).add 0));rw[h2];simp[Addr.add]
   ·cases hcs;exact⟨xL _,YR _⟩
  ·cases hX
 ·cases hX
theorem zbJ{id k:Nat}{e:Ent C}(he:Z0 (E e)=G->Z0 (S.heap id)=G)(h:Z0 (upd S.heap id (E e) k)=G):Z0 (S.heap k)=true:=by
 by_cases e1:k=id
 ·subst e1;rw[zp] at h;exact he h
 ·rw[zq e1] at h;exact h
theorem AbsL.setCell (h:AbsL κ S ν vs ids L b Z PV) {id m:Nat}{cs cs':List (AV C.D)}{us:List Value}(hc:S.heap id=E (.cell cs)) (hm:ids[m]?=E id) (hr:VRs C Z ν us cs') (hl:AV.oks (λid=>(S.heap id).isSome=G) cs') :
    AbsL κ {S with heap:=upd S.heap id (E (.cell cs'))} ν (upd vs id us) ids L b Z (PV.set m (.cell (ν.adr id).a us)):=by
 have hlv:∀j,(S.heap j).isSome=(upd S.heap id (E (.cell cs')) j).isSome:=λj=>by
  by_cases e:j=id
  ·subst e;rw[zp,hc];rfl
  ·rw[zq e]
 have hml:=(UG.1 hm).1;have hid:=(UG.1 hm).2;refine⟨⟨h.nd,λj=>?_,?_,λj c hj=>?_,h.env,h.one⟩,λt=>?_,λj c hj=>?_,λk hk hs=>have q:=h.keep k hk (by grind);⟨q.1,q.2.1,λhf=>q.2.2 (zbJ (λh=>by cases h) hf)⟩⟩
 ·show _↔(upd S.heap id (E (.cell cs')) j).isSome=G;rw[<- hlv];exact h.dom j
 · apply UK;intro k;rw[UL,UE,h.pv,D4];by_cases e:m=k
   ·subst e;rw[jv rfl,jv hml,hm,UF];show _=E (zH C ν (upd vs id us) id (upd S.heap id (E (.cell cs')) id));rw[zp];simp[zH,zp]
   · rw[jx e,UE];cases hk:ids[k]? with
     |none=>rfl
     |some j=>
      have hne:j≠id:=λe'=>by
       have hp:=qx.1 (UH.1 h.nd);grind
      simp only[UF];show E (zH C ν vs j (S.heap j))=E (zH C ν (upd vs id us) j (upd S.heap id (E (.cell cs')) j));rw[zq hne];cases S.heap j with
      |none=>rfl
      |some en=>cases en<;>simp[zH,zq hne]
 · have hj:upd S.heap id (E (.cell cs')) j=_:=hj;show VRs C Z ν (upd vs id us j) c;by_cases e:j=id
   ·subst e;rw[zp] at hj |-;grind
   ·rw[zq e] at hj |-;exact h.cell j c hj
 ·exact AV.ok_mono (λj hj=>by grind) (h.live t)
 · have hj:upd S.heap id (E (.cell cs')) j=_:=hj;refine AV.oks_mono (p:=λid=>(S.heap id).isSome=G) (λj hj=>by grind) ?_;by_cases e:j=id
   ·subst e;rw[zp] at hj;grind
   ·rw[zq e] at hj;exact h.livec j c hj
theorem AbsL.setRow (h:AbsL κ S ν vs ids L b Z PV) {id m T:Nat}{s s':Sl (C.D T)}(hc:S.heap id=E (.row T s)) (hm:ids[m]?=E id) :
    AbsL κ {S with heap:=upd S.heap id (E (.row T s'))} ν vs ids L b Z (PV.set m (.row (zx C T).o T (ν.hdr id) s')):=by
 have hlv:∀j,(S.heap j).isSome=(upd S.heap id (E (.row T s')) j).isSome:=λj=>by
  by_cases e:j=id
  ·subst e;rw[zp,hc];rfl
  ·rw[zq e]
 have hml:=(UG.1 hm).1;have hid:=(UG.1 hm).2;refine⟨⟨h.nd,λj=>?_,?_,λj c hj=>?_,h.env,h.one⟩,λt=>?_,λj c hj=>?_,λk hk hs=>have q:=h.keep k hk (by grind);⟨q.1,q.2.1,λhf=>q.2.2 (zbJ (λh=>by cases h) hf)⟩⟩
 ·show _↔(upd S.heap id (E (.row T s')) j).isSome=G;rw[<- hlv];exact h.dom j
 · apply UK;intro k;rw[UL,UE,h.pv,D4];by_cases e:m=k
   ·subst e;rw[jv rfl,jv hml,hm,UF];show _=E (zH C ν vs id (upd S.heap id (E (.row T s')) id));rw[zp];rfl
   · rw[jx e,UE];cases hk:ids[k]? with
     |none=>rfl
     |some j=>
      have hne:j≠id:=λe'=>by
       have hp:=qx.1 (UH.1 h.nd);grind
      simp only[UF];show E (zH C ν vs j (S.heap j))=E (zH C ν vs j (upd S.heap id (E (.row T s')) j));rw[zq hne]
 · have hj:upd S.heap id (E (.row T s')) j=_:=hj;by_cases e:j=id
   ·subst e;rw[zp] at hj;cases hj
   ·rw[zq e] at hj;exact h.cell j c hj
 ·exact AV.ok_mono (λj hj=>by grind) (h.live t)
 · have hj:upd S.heap id (E (.row T s')) j=_:=hj;refine AV.oks_mono (p:=λid=>(S.heap id).isSome=G) (λj hj=>by grind) ?_;by_cases e:j=id
   ·subst e;rw[zp] at hj;cases hj
   ·rw[zq e] at hj;exact h.livec j c hj
end
variable [Dfr]
section
variable {ρ:Type}{n:Nat}{w0:Start}{σ0 Z:FS}{p:U7 ρ}{L:List (Nat×Value)}{b:Nat->Value}{PV:List Priv}{P:Program}
variable {H:U7 ρ->List (Nat×Value)->FS->List Priv->Prop}{d:Nat}{v:Value}{t t' ty:TypeId}{ps:String}{af:Array Edge}{g:U7 (Nat×Bool)}{x y z:Operand}{k:IntKind}{i j:Int}
theorem zbc {α:Type}{T:Ty α}{e:TypeId}{s:Sl α}{ti:TypeInfo}{q q':α}{us:List Value}{off:Nat}(m:Nat) (hm:PV[m]?=E (.row T.o e v s)) (hi':P.info? t=E ti) (hx:opv L b x = .pointer (E (zh v (i.toNat * T.size+off)))) (hy:(opv L b y).cells.toList=us)
    (hs:ti.size=us.length) (h0:0 < us.length) (hone:∀u∈us,u.oneCell'=G) (hq:za s i=E q) (hoff:off+us.length<=T.size) (hr:∀cs,T.rel Z cs q->T.rel Z (cs.take off++us++cs.drop (off+us.length)) q')
    (h:H p L Z (PV.set m (.row T.o e v (s.set i q')))):Xl P n w0 σ0 ⟨F,.store t x y,ty,ps,af,g⟩ p L b Z PV H:=by
 intro r hp a w hi hf K Q hK;have key:∃w',(storeCells (zh v (i.toNat * T.size+off)) us).run P w = .ok () w'/\Inv w0 σ0 Z (PV.set m (.row T.o e v (s.set i q'))) w':=by
  have hne:us≠[]:=by intro e;subst e;simp at h0
  have main:∀hA,zn T.o e v s Z hA->hA.sub w->∃w' hA',(storeCells (zh v (i.toNat * T.size+off)) us).run P w = .ok () w'/\zn T.o e v (s.set i q') Z hA'/\hA'.sub w'/\Ext w hA w'/\∀b i,(hA' b i).isSome->(hA b i).isSome\/w.heap.size<=b:=by
   intro hA k1 subA;let⟨g1,g2,m1,m2,n1,n2,d3⟩:=(Vy (v:=v) (e:=e) (i:=i) k1 hq).uncons;let⟨cs,c1,c2,p1,p2,p3,p4,p5⟩:=m2.one_of;have p5:T.rel Z cs q:=p5;have hcl:cs.length=T.size:=T.len p5;have hsz:T.o.size=T.size:=rfl;rw[hsz] at p4;have l12:c1.le hA:=p1.trans n2;have hsp:=p4.1;have hadd:(zh v (i.toNat * T.size)).add off=⟨(zh v (i.toNat * T.size)).block,(zh v (i.toNat * T.size)).off+off,F⟩:=Addr.add_eq _ hsp off;have hcells:∀j,j < us.length->∃y,c1 (zh v (i.toNat * T.size)).block ((zh v (i.toNat * T.size)).off+off+j+1)=E (.cell y):=λj hj=>
    ⟨_,by rw[show(zh v (i.toNat * T.size)).off+off+j=(zh v (i.toNat * T.size)).off+(off+j) by omega];exact p4.2 (off+j) _ (UM (by omega))⟩
   have hlt2:(zh v (i.toNat * T.size)).block < w.heap.size:=by
    let⟨y,hy⟩:=hcells 0 (by omega);exact Bit.at_lt (subA _ _ _ (l12 _ _ _ hy))
   let⟨w',j1,j2,j3⟩:=Vx (P:=P) (subA.mono l12) hlt2 hcells hone hne;have hdom:∀b i',((c1.put (zh v (i.toNat * T.size)).block ((zh v (i.toNat * T.size)).off+off) us) b i').isSome->(c1 b i').isSome:=λb i' hx=>zc.put_dom (λj hj=>by let⟨y,hy⟩:=hcells j hj;simp[hy]) hx
   have dcg:c1.disj g1:=(d3.mono (.refl _) p1).symm;have hd':∀{f:zc},c1.disj f->(c1.put (zh v (i.toNat * T.size)).block ((zh v (i.toNat * T.size)).off+off) us).disj f:=λ{f} df b i'=>by
    cases hx:c1.put (zh v (i.toNat * T.size)).block ((zh v (i.toNat * T.size)).off+off) us b i' with
    |none=>exact .inl rfl
    |some y=>
     have:=hdom b i' (by rw[hx];rfl);rcases df b i' with z | z
     ·rw[z] at this;cases this
     ·exact .inr z
   have hcell':Z2 (zh v (i.toNat * T.size)) (cs.take off++us++cs.drop (off+us.length)) (c1.put (zh v (i.toNat * T.size)).block ((zh v (i.toNat * T.size)).off+off) us):=by
    refine⟨hsp,λj u hj=>?_⟩;rw[xv (by omega) rfl] at hj;split at hj
    ·rename_i hin;rw[show(zh v (i.toNat * T.size)).off+j+1=(zh v (i.toNat * T.size)).off+off+(j - off)+1 by omega];exact zc.put_in hj
    ·rw[zc.put_out (by omega)];exact p4.2 j u hj
   have dg:g1.disj (c1.put (zh v (i.toNat * T.size)).block ((zh v (i.toNat * T.size)).off+off) us):=(hd' dcg).symm;refine⟨w',g1.or (c1.put (zh v (i.toNat * T.size)).block ((zh v (i.toNat * T.size)).off+off) us),?_,?_,?_,j3.mono l12,λb i' hx =>.inl ?_⟩
   ·rw[<- Yt,hadd];exact j1
   ·exact m1 Z _ q' _ (.refl _) dg ⟨_,_,zc.none,.refl _,zc.none_le _,zc.disj_none _,hcell',hr cs p5⟩ (zc.le_or _ _) (zc.le_or_right dg)
   ·exact zc.or_sub (j3.frag dcg (subA.mono n1)) j2
   · unfold zc.or at hx;cases hx1:g1 b i' with
     |some y=>exact n1.isSome (by simp[hx1])
     |none=>rw[hx1] at hx;exact l12.isSome (hdom b i' (by simpa using hx))
  let⟨hh,hsep,hg⟩:=hi.own;let⟨h1',h2',e1,e2,e3,e4,e5,_⟩:=hsep.pick hm;let⟨w',_,hrun,_⟩:=main h1' e1 (hg.sub.mono e2);refine⟨w',hrun,hi.change hm λg hg' hgs=>?_⟩;let⟨w'',hA',hrun',q1,q2,q3,q4⟩:=main g hg' hgs;rw[hrun] at hrun';cases hrun';exact⟨hA',q1,q2,q3,q4⟩
 let⟨w',hst,hi2⟩:=key;have hsz:(opv L b y).cells.size=us.length:=by rw[<- hy];simp
 have:(execOp a.eval ⟨F,.store t x y,ty,ps,af,g⟩).run P w = .ok .skip w':=by
  rw[hf.eval];simp only[execOp,Instr.storeAt,qX,hx,storeVar,sizeOf,typeInfo,UZ,UX,Db,Da,hi',hsz,hs,Dm,not_true,jp,hy,hst]
 unfold qc;rw[this,Oper.upon_skip];exact hK p L Z _ _ _ hp hi2 hf h
end
section
variable {κ:Kp}{C:Cod}{S:St C}{ν:Val}{vs:Nat->List Value}{ids:List Nat}{L:List (Nat×Value)}{b:Nat->Value}{Z:FS}{PV:List Priv}{P:Program}
variable {t t' ty:TypeId}{x y z:Operand}{d:Nat}{ps:String}{af:Array Edge}{g:U7 (Nat×Bool)}{A:AV C.D}{n:Nat}{w0:Start}{σ0:FS}{o:Oper}{X:U7 (Out C)}
mutual
def AV.rows{D:Nat->Type}:AV D->List Nat
 | .row id=>[id]
 | .agg cs=>AV.rowss cs
 | .tup cs=>AV.rowss cs
 | .clo _ cs=>AV.rowss cs
 | .ifc _ A=>AV.rows A
 |_=>[]
def AV.rowss{D:Nat->Type}:List (AV D)->List Nat
 |[]=>[]
 |A::As=>AV.rows A++AV.rowss As
end
theorem zf9{τ:FS}{ν:Val}{u:Value}{A B:AV C.D}(h:VR C τ ν u A)(l:leA A B):VR C τ ν u B:=by
 rcases l with rfl | ⟨T,s,c,rfl,rfl⟩ | ⟨T,c,rfl,rfl⟩
 ·exact h
 ·exact(Rv.of_vrel (h.sl_vrel)).vr
 ·rw[show u = .slice F 0 0 from h];have:VR C τ ν (.slice F 0 0) (.sl T ⟨[],N⟩ G):=zkL;let⟨a,n,cc,e1,e2,e3⟩:=Rv.slAt (show Rv C τ _ (.sl T ⟨[],N⟩ G) from this);rw[e1];exact(Rv.of_slAt e2 λ_=>e3 rfl).vr
theorem zbK{τ:FS}{ν:Val}:∀{us:List Value}{cs ds:List (AV C.D)},VRs C τ ν us cs->zfl cs ds->VRs C τ ν us ds
 |[],[],[],_,_=>trivial
 |u::us,A::cs,B::ds,⟨h,k⟩,⟨l,m⟩=>⟨zf9 h l,zbK k m⟩
 |[],[],_::_,_,l=>l.elim
 |[],_::_,_,h,_=>h.elim
 |_::_,[],_,h,_=>h.elim
 |_::_,_::_,[],_,l=>l.elim
theorem WI{τ:FS}{ν:Val}{T:Nat}{us:List Value}{cs:List (AV C.D)}{q:C.D T}(h:VRs C τ ν us cs)(hq:C.imp T cs=E q):(zx C T).rel τ us q:=by
 have h2:=zbK h (C.imp_ok T cs q hq);refine⟨by rw[h2.len,C.len],λj A hj=>?_⟩;let⟨u,e,r⟩:=h2.get j A hj;exact⟨u,e,r.rv (C.base T q A (UW hj))⟩
theorem zkP{D:Nat->Type}:∀{cs ds:List (AV D)},zfl cs ds->cs.length=ds.length
 |[],[],_=>rfl
 |_::cs,_::ds,⟨_,h⟩=>by simp[zkP h]
 |[],_::_,h=>h.elim
 |_::_,[],h=>h.elim
end
variable [Dfr]
section
variable {ρ:Type}{n:Nat}{w0:Start}{σ0 Z:FS}{p:U7 ρ}{L:List (Nat×Value)}{b:Nat->Value}{PV PV':List Priv}{P:Program}
variable {H:U7 ρ->List (Nat×Value)->FS->List Priv->Prop}{d:Nat}{v:Value}{t ty:TypeId}{ps:String}{af:Array Edge}{g:U7 (Nat×Bool)}{x:Operand}
end
section
variable {κ:Kp}{C:Cod}{S:St C}{ν:Val}{vs:Nat->List Value}{ids:List Nat}{L:List (Nat×Value)}{b:Nat->Value}{Z:FS}{PV:List Priv}{P:Program}
variable {t t' ty:TypeId}{x y z:Operand}{d:Nat}{ps:String}{af:Array Edge}{g:U7 (Nat×Bool)}{A:AV C.D}{n:Nat}{w0:Start}{σ0:FS}{o:Oper}{X:U7 (Out C)}
def yv(P:Program)(S:St C)(t:TypeId)(x y:Operand):U7 (Out C):=
 match P.info? t,S.op x with
 |some ti,.pc id off=>(match S.heap id with
  |some (.cell cs)=>chk (YQ (S.op y) && (I ti.size (zr (S.op y)).length && (qB (off+(zr (S.op y)).length) cs.length && O 0 (zr (S.op y)).length)))
      (E (.go {S with heap:=upd S.heap id (E (.cell (cs.take off++zr (S.op y)++cs.drop (off+(zr (S.op y)).length))))}))
  |_=>F)
 |some ti,.pr _ _ _ _=>go ti (S.frz (AV.rows (S.op y)))
 |_,_=>F
where
 go (ti:TypeInfo) (S:St C):U7 (Out C):=match S.op x with
  | .pr id T i off=>(match S.heap id with
   |some (.row T' s)=>chk (I T T' && (YQ (S.op y) && (I ti.size (zr (S.op y)).length && (qB (off+(zr (S.op y)).length) (C.size T') && O 0 (zr (S.op y)).length))))
       ((za s i).bind λq=>(C.imp T' ((C.emb T' q).take off++zr (S.op y)++(C.emb T' q).drop (off+(zr (S.op y)).length))).bind λq'=>
         E (.go {S with heap:=upd S.heap id (E (.row T' (s.set i q')))}))
   |_=>F)
  |_=>F
theorem zrE{l:List Value}(h:∀u∈l,u.oneCell'=G):zc5 l:=by
 induction l with
 |nil=>trivial
 |cons a l ih=>exact⟨h a (by simp),ih λu hu=>h u (D5 _ hu)⟩
theorem AV.oks_append{D:Nat->Type}{p:Nat->Prop}:∀{l m:List (AV D)},AV.oks p l->AV.oks p m->AV.oks p (l++m)
 |[],_,_,h=>h
 |_::_,_,⟨a,k⟩,h=>⟨a,AV.oks_append k h⟩
theorem AV.oks_iff{D:Nat->Type}{p:Nat->Prop}:∀{l:List (AV D)},AV.oks p l↔∀A∈l,A.ok p
 |[]=>by simp[AV.oks]
 |a::l=>by simp[AV.oks,AV.oks_iff (l:=l)]
theorem AV.oks_take{D:Nat->Type}{p:Nat->Prop}{l:List (AV D)}(h:AV.oks p l)(m:Nat):AV.oks p (l.take m):=AV.oks_iff.2 λA hA=>AV.oks_iff.1 h A (List.mem_of_mem_take hA)
theorem AV.oks_drop{D:Nat->Type}{p:Nat->Prop}{l:List (AV D)}(h:AV.oks p l)(m:Nat):AV.oks p (l.drop m):=AV.oks_iff.2 λA hA=>AV.oks_iff.1 h A (List.mem_of_mem_drop hA)
theorem zoo(h:AbsL κ S ν vs ids L b Z PV):OpA κ P n w0 σ0 ⟨F,.store t x y,ty,ps,af,g⟩ (yv P S t x y) L b Z PV:=by
 intro out hX;unfold yv at hX;split at hX
 ·rename_i ti id off hi ex;have hx:=h.op x;rw[ex] at hx;split at hX
  ·rename_i cs hcs;let⟨hc,hX⟩:=zb hX;simp only[gf] at hc;let⟨c1,c2,c3,c4⟩:=hc;let⟨hu,hone⟩:=ZD (h.op y) c1 h.one;let⟨m,hm,hid⟩:=h.at hcs;have hcv:=h.cell id cs hcs;have hlen:=hu.len;rw[<- hlen] at c2 c3 c4;rw[<- hcv.len] at c3;refine(OpA.of (zi0 m hi (show opv L b x = .pointer (E _) from hx) rfl (ge c2) (zrE hone) hm c3 rfl rfl c4 λr hr=>⟨_,(W.inj hr).symm,?_⟩):OpA κ P n w0 σ0 _ (E (.go _)) L b Z PV) out hX;have hnew:=((hcv.take off).append hu).append (hcv.drop (off+(opv L b y).cells.toList.length));have e:cs.drop (off+(opv L b y).cells.toList.length)=cs.drop (off+(zr (S.op y)).length):=by rw[hlen]
   rw[e] at hnew;have:=h.setCell (cs':=cs.take off++zr (S.op y)++cs.drop (off+(zr (S.op y)).length)) hcs hid hnew (AV.oks_append (AV.oks_append (AV.oks_take (h.livec id cs hcs) _) (AV.oks_cells (h.oks_op y))) (AV.oks_drop (h.livec id cs hcs) _));exact⟨ν,_,ids,this⟩
  ·cases hX
 ·rename_i ti i1 i2 i3 i4 hi ex;refine OpA.frz (AV.rows (S.op y)) ⟨ν,vs,ids,h⟩ (λZ' PV' h'=>?_) out hX;clear hX ex h;generalize S.frz (AV.rows (S.op y))=S at h' |-
  let⟨ν,vs,ids,h⟩:=h';intro out hX;unfold yv.go at hX;have hx:=h.op x;split at hX
  ·rename_i id T i off ex;rw[ex] at hx;split at hX
   ·rename_i T' s hs;let⟨hc,hX⟩:=zb hX;simp only[gf] at hc;let⟨c0,c1,c2,c3,c4⟩:=hc;obtain rfl:=ge c0;let⟨q,hq,hX⟩:=gd hX;let⟨q',hq',hX⟩:=gd hX;let⟨hu,hone⟩:=ZD (h.op y) c1 h.one;let⟨m,hm,hid⟩:=h.at hs;have hlen:=hu.len;rw[<- hlen] at c2 c3 c4;refine(OpA.of (zbc (T:=zx C T) (q:=q) (q':=q') m hm hi (show opv L b x = .pointer (E _) from hx) rfl (ge c2) (by simpa[Dd] using c4) hone hq (Dj c3) (λcs hcs=>?_) λr hr=>⟨_,(W.inj hr).symm,?_⟩):OpA κ P n w0 σ0 _ (E (.go _)) L b Z' PV') out hX
    ·have hcv:=zbE (ν:=ν) hcs;have hnew:=((hcv.take off).append hu).append (hcv.drop (off+(opv L b y).cells.toList.length));have e:(C.emb T q).drop (off+(opv L b y).cells.toList.length)=(C.emb T q).drop (off+(zr (S.op y)).length):=by rw[hlen]
     rw[e] at hnew;exact WI hnew hq'
    ·exact⟨ν,vs,ids,h.setRow hs hid⟩
   ·cases hX
  ·cases hX
 ·cases hX
theorem AbsL.newRow (h:AbsL κ S ν vs ids L b Z PV) {id T:Nat}(h0:S.heap id=F) (h64:κ.m<=id) {s:Sl (C.D T)}{v:Value}(hone:v.oneCell'=G) :
    zy κ {env:=upd S.env d (.row id),heap:=upd S.heap id (E (.row T s))} ((d,v)::L) b Z (.row (zx C T).o T v s::PV):=
 h.new h0 h64 (e :=.row T s) (v:=v) (a:=default) (us:=[]) (A :=.row id) (λν' h1 h2=>⟨by show v=ν'.hdr id;rw[h1];rfl,by show id=id;rfl⟩) hone rfl (λcs hc=>by cases hc) rfl
theorem wq{T:Nat}{s:Sl (C.D T)}{v:Value}{PV:List Priv}{w:World}(hi:Inv w0 σ0 Z (.row (zx C T).o T v s::PV) w):v.oneCell'=true:=by
 let⟨hh,hr,_⟩:=hi.held.get (m:=0) rfl;obtain⟨q,c,rfl,_⟩:=zn.form hr;rfl
theorem OpA.of2(h:Xl P n w0 σ0 o X L b Z PV λp' L' Z' PV'=>(∃w,Inv w0 σ0 Z' PV' w)->∀r,p'=E r->∃S',r = .go S'/\zy κ S' L' b Z' PV'):OpA κ P n w0 σ0 o X L b Z PV:=by
 intro out hX a w hi hf K Q hK hP;refine h out hX a w hi hf K Q ?_;intro p' L' Z' PV' a' w' hp hi' hf' hH;let⟨S',e,hA⟩:=hH ⟨w',hi'⟩ out hp;grind
def zde:Operand->Operand->Bool
 | .tmp a,.tmp b=>I a b
 | .const (.int .i64 a),.const (.int .i64 b)=>decide (a=b)
 |_,_=>N
theorem ziu:∀{x y:Operand},zde x y=G->x=y:=by
 intro x y h;unfold zde at h;split at h
 ·rw[ge h]
 all_goals grind
def w6(P:Program)(S:St C)(d:Nat)(t:TypeId)(x y:Operand):U7 (Out C):=
 match P.underlying t with
 |some (.slice e)=>(match P.info? e with
  |some ti=>(match ti.zero,S.op x with
   |some zv,.int _ i=>chk (zde x y && (I ti.size (C.size e) && (O 0 (C.size e) && isNone (S.heap (nid d 0)))))
       ((C.imp e (zv.cells.toList.map ZY)).bind λq=>(XQ ti.bytes i q).bind λs=>E (.go {env:=upd S.env d (.row (nid d 0)),heap:=upd S.heap (nid d 0) (E (.row e s))}))
   |_,_=>F)
  |none=>F)
 |_=>F
theorem zrF(h:AbsL κ S ν vs ids L b Z PV)(hn:O d n=G):OpA κ P n w0 σ0 ⟨E d,.makeSlice t x y,ty,ps,af,g⟩ (w6 P S d t x y) L b Z PV:=by
 intro out hX;unfold w6 at hX;split at hX
 ·rename_i e hu;split at hX
  ·rename_i ti hi;split at hX
   ·rename_i zv k i hz ex;have hx:=h.op x;rw[ex] at hx;let⟨hc,hX2⟩:=zb hX;simp only[gf] at hc;let⟨c0,c1,c2,c3⟩:=hc;have h0:=Ze c3;obtain rfl:=ziu c0;let⟨q,hq,hX3⟩:=gd hX2;refine(OpA.of2 (znj (T:=(zx C e).o) (q:=q) hn hu hi hz (ge c1) c2 hx.int_inv hx.int_inv (λτ=>WI (τ:=τ) (ν:=ν) (xL _) hq) λs v hs hw r hr=>⟨_,(W.inj hr).symm,?_⟩):OpA κ P n w0 σ0 _ ((XQ ti.bytes i q).bind λs=>E (.go _)) L b Z PV) out hX3;let⟨w,hw⟩:=hw;exact h.newRow h0 (yL κ d 0) (wq hw)
   ·cases hX
  ·cases hX
 ·cases hX
end
variable [Dfr]
section
variable {κ:Kp}{C:Cod}{S:St C}{ν:Val}{vs:Nat->List Value}{ids:List Nat}{L:List (Nat×Value)}{b:Nat->Value}{Z:FS}{PV:List Priv}{P:Program}
variable {t t' ty:TypeId}{x y z:Operand}{d:Nat}{ps:String}{af:Array Edge}{g:U7 (Nat×Bool)}{A:AV C.D}{n:Nat}{w0:Start}{σ0:FS}{o:Oper}{X:U7 (Out C)}
def Yw(S:St C)(e:Nat):List Operand->U7 (List (C.D e))
 |[]=>E []
 |x::r=>chk (YQ (S.op x)) ((C.imp e (zr (S.op x))).bind λq=>(Yw S e r).bind λqs=>E (q::qs))
theorem zdf(h:AbsL κ S ν vs ids L b Z PV){e:Nat}:∀{l:List Operand}{xs:List (C.D e)},Yw S e l=E xs->(zx C e).rels Z (Ye (l.map (opv L b))) xs/\l.length=xs.length/\∀v∈l.map (opv L b),v.cells.size=C.size e
 |[],xs,hx=>by simp only[Yw] at hx;cases hx;exact⟨rfl,rfl,by simp⟩
 |x::r,xs,hx=>by
  simp only[Yw] at hx;let⟨hs,hx⟩:=zb hx;let⟨q,hq,hx⟩:=gd hx;obtain⟨qs,hqs,hx⟩:=gd hx;cases hx;let⟨h1,h2,h3⟩:=zdf h hqs;have hu:=(ZD (h.op x) hs h.one).1;have hr:=WI hu hq;refine⟨⟨(opv L b x).cells.toList,_,by simp[Ye],hr,h1⟩,by simp[h2],λv hv=>?_⟩;rcases De.1 hv with rfl | hv
  ·have:=hr.1;grind
  grind
def zec:List (Nat×Operand)->Nat->Bool
 |[],_=>G
 |(i,_)::r,k=>I i k && zec r (k+1)
theorem zbL:∀{l:List (Nat×Operand)}{k:Nat},zec l k=G->(l.map λq=>(q.1,opv L b q.2))=zbA k ((l.map (·.2)).map (opv L b))
 |[],_,_=>rfl
 |(i,x)::r,k,h=>by
  simp only[zec,gf] at h;obtain rfl:=ge h.1;simp[zbA,zbL h.2]
def Y5(P:Program)(S0:St C)(d:Nat)(t:TypeId)(m:Nat)(parts:List (Nat×Operand)):U7 (Out C):=
 go (S0.frz (AV.rowss (parts.map λq=>S0.op q.2)))
where
 go (S:St C):U7 (Out C):=match P.underlying t with
  |some (.slice e)=>(match P.info? e with
   |some ti=>(match ti.zero with
    |some zv=>chk (I ti.size (C.size e) && (O 0 (C.size e) && (qB (m * C.size e) 16777216 && (I parts.length m && (zec parts 0 && isNone (S.heap (nid d 0)))))))
        ((Yw S e (parts.map (·.2))).bind λxs=>E (.go {env:=upd S.env d (.row (nid d 0)),heap:=upd S.heap (nid d 0) (E (.row e ⟨xs,G⟩))}))
    |none=>F)
   |none=>F)
  |_=>F
theorem zmV(h:AbsL κ S ν vs ids L b Z PV)(hn:O d n=G){m:Nat}{parts:Array (Nat×Operand)}:OpA κ P n w0 σ0 ⟨E d,.buildSlice t m parts,ty,ps,af,g⟩ (Y5 P S d t m parts.toList) L b Z PV:=by
 unfold Y5;refine OpA.frz (AV.rowss (parts.toList.map λq=>S.op q.2)) ⟨ν,vs,ids,h⟩ λZ' PV' h'=>?_
 clear h;generalize S.frz _=S at h' |-
 let⟨ν,vs,ids,h⟩:=h';intro out hX;unfold Y5.go at hX;split at hX
 ·rename_i e hu;split at hX
  ·rename_i ti hi;split at hX
   ·rename_i zv hz;let⟨hc,hX2⟩:=zb hX;simp only[gf] at hc;let⟨c1,c2,c3,c4,c5,c6⟩:=hc;have h0:=Ze c6;let⟨xs,hxs,hX3⟩:=gd hX2;let⟨r1,r2,r3⟩:=zdf h hxs;have hlen:((parts.toList.map (·.2)).map (opv L b)).length=m:=by
     have:=ge c4;grind
    refine(OpA.of2 (vE (T:=(zx C e).o) (vs:=(parts.toList.map (·.2)).map (opv L b)) (xs:=xs) [] PV' hn hu hi hz (ge c1) c3 c2 (zbL c5) hlen (λhh _=>⟨zc.none,zc.none_le _,Ty.rels_o.2 r1,by grind,r3⟩) λv hw r hr=>⟨_,(W.inj hr).symm,?_⟩):OpA κ P n w0 σ0 _ (E (.go _)) L b Z' PV') out hX3;let⟨w,hw⟩:=hw;exact h.newRow h0 (yL κ d 0) (wq hw)
   ·cases hX
  ·cases hX
 ·cases hX
theorem AbsL.front (h:AbsL κ S ν vs ids L b Z PV) {id m:Nat}{pv:Priv}(hm:ids[m]?=E id) (hp:PV[m]?=E pv) :
    AbsL κ S ν vs (id::ids.eraseIdx m) L b Z (pv::PV.eraseIdx m)/\∀w,Inv w0 σ0 Z PV w->Inv w0 σ0 Z (pv::PV.eraseIdx m) w:=by
 have hmem:∀j,j∈id::ids.eraseIdx m↔j∈ids:=by
  intro j;let⟨hml,hid⟩:=UG.1 hm;rw[De,qJ];constructor
  ·grind
  ·intro hj;obtain⟨i,hi,rfl⟩:=qU hj;grind
 refine⟨⟨⟨?_,λj=>?_,?_,h.cell,h.env,h.one⟩,h.live,h.livec,h.keep⟩,λw hi=>hi.sub_own λgg k=>?_⟩
 ·have hp:=qx.1 (UH.1 h.nd);let⟨hml,hid⟩:=UG.1 hm;refine qT.2 ⟨λhj=>?_,List.Nodup.sublist (qV _ _) h.nd⟩;let⟨i,hi,hne,e⟩:=qJ.1 hj;grind
 ·rw[hmem];exact h.dom j
 · have:pv=zH C ν vs id (S.heap id):=by
     rw[h.pv,UE,hm,UF] at hp;grind
   rw[UI,<- VA,<- h.pv,this]
 ·let⟨h1,h2,k1,k2,k3,k4,k5,_⟩:=k.pick hp;exact .cons k1 k5 k2 k3 k4
theorem OpA.pv{PV':List Priv}(hi:∀w,Inv w0 σ0 Z PV w->Inv w0 σ0 Z PV' w)(h:OpA κ P n w0 σ0 o X L b Z PV'):OpA κ P n w0 σ0 o X L b Z PV:=
 λout hX a w hinv=>h out hX a w (hi w hinv)
theorem AbsL.renew {id:Nat}{pv:Priv}(h:AbsL κ S ν vs (id::ids) L b Z (pv::PV)) {id' T:Nat}(h0:S.heap id'=F) (h64:κ.m<=id') {s:Sl (C.D T)}{v:Value}(hone:v.oneCell'=G) :
    zy κ {env:=upd (S.sub id .und).env d (.row id'),heap:=upd (S.sub id .und).heap id' (E (.row T s))} ((d,v)::L) b Z (.row (zx C T).o T v s::PV):=by
 have h1:=h.sub (id:=id) (m:=0) (R :=.und) rfl (FS.le.refl Z) trivial trivial rfl;refine h1.newRow ?_ h64 hone;show(bif I id' id then F else(S.heap id').map _)=F;grind
def wr{T T':Nat}(s:Sl (C.D T')):U7 (List (C.D T)):=if h:T'=T then E (h ▸ s.xs) else F
def zbM(S:St C)(T:Nat):AV C.D->U7 (List (C.D T))
 | .sl _ s _=>wr s
 | .row id=>match S.heap id with
  |some (.row _ s)=>wr s
  |_=>F
 | .nils=>E []
 |_=>F
theorem znl (h:AbsL κ S ν vs ids L b Z PV) {T:Nat}{ts:List (C.D T)}(hs:zbM S T (S.op y)=E ts) (w:World) (hw:Y4 Z PV w) :
    ∃gA news,gA.le zc.none/\(zx C T).o.rels Z gA news ts/\vt w (opv L b y) ts.length news:=by
 have hy:=h.op y;unfold zbM at hs;split at hs
 · rename_i T' s c e;rw[e] at hy;unfold wr at hs;split at hs
   ·rename_i hT;subst hT;cases hs;let⟨gA,news,h1,h2,h3⟩:=zi1 (A:=[]) hy.sl_vrel w zc.none hw Sep.nil (λ_ _ _ e=>by cases e);grind
   ·cases hs
 · rename_i id e;rw[e] at hy;split at hs
   · rename_i T' s hh;unfold wr at hs;split at hs
     ·rename_i hT;subst hT;cases hs;let⟨m,hm,_⟩:=h.at hh;rw[show opv L b y=ν.hdr id from hy];let⟨gA,news,h1,h2,h3⟩:=zoc (A:=[]) m hm w zc.none hw Sep.nil (λ_ _ _ e=>by cases e);grind
     ·cases hs
   ·cases hs
 ·rename_i e;rw[e] at hy;cases hs;rw[show opv L b y = .slice F 0 0 from hy];exact⟨zc.none,[],zc.none_le _,OTy.rels_nil,.inl ⟨rfl,rfl,rfl⟩⟩
 ·cases hs
def yX(P:Program)(S:St C)(d:Nat)(t:TypeId)(x y:Operand):U7 (Out C):=
 match P.underlying t with
 |some (.slice e)=>(match P.info? e with
  |some ti=>(match ti.zero with
   |some zv=>chk (I ti.size (C.size e) && (O 0 (C.size e) && (I zv.cells.size (C.size e) && isNone (S.heap (nid d 0)))))
       (match S.op x with
       | .row id=>(match S.heap id with
        |some (.row T s)=>chk (I T e) ((zbM S T (S.op y)).bind λts=>(zo ti.bytes s ts).bind λs'=>
            E (.go {env:=upd (S.sub id .und).env d (.row (nid d 0)),heap:=upd (S.sub id .und).heap (nid d 0) (E (.row T s'))}))
        |_=>F)
       | .nils=>(zbM S e (S.op y)).bind λts=>(zo ti.bytes ⟨[],N⟩ ts).bind λs'=>
             E (.go {env:=upd S.env d (.row (nid d 0)),heap:=upd S.heap (nid d 0) (E (.row e s'))})
       |_=>F)
   |none=>F)
  |none=>F)
 |_=>F
theorem ze2(h:AbsL κ S ν vs ids L b Z PV)(hn:O d n=G):OpA κ P n w0 σ0 ⟨E d,.call {callee :=.builtin .append,args:= #[x,y],argTypes:= #[t,t]},ty,ps,af,g⟩ (yX P S d t x y) L b Z PV:=by
 intro out hX;unfold yX at hX;split at hX
 ·rename_i e hu;split at hX
  ·rename_i ti hi;split at hX
   ·rename_i zv hz;let⟨hc,hX2⟩:=zb hX;simp only[gf] at hc;let⟨c1,c2,c3,c4⟩:=hc;have h0:=Ze c4;have hx:=h.op x;split at hX2
    ·rename_i id ex;rw[ex] at hx;split at hX2
     ·rename_i T s hs;let⟨hT,hX3⟩:=zb hX2;obtain rfl:=ge hT;let⟨ts,hts,hX4⟩:=gd hX3;let⟨m,hm,hid⟩:=h.at hs;let⟨hf,hinv⟩:=h.front (w0:=w0) (σ0:=σ0) hid hm;refine OpA.pv hinv ?_ out hX4;refine OpA.of2 (zaa (T:=(zx C T).o) (s:=s) (ts:=ts) (v:=ν.hdr id) (u:=opv L b y) [] (PV.eraseIdx m) hn hu hi hz (ge c3) (ge c1) c2 hx rfl (λw gg hw _ _=>?_) λs' v' hs' hw r hr=>⟨_,(W.inj hr).symm,?_⟩)
      ·let⟨gA,news,k1,k2,k3⟩:=znl hf hts w hw;exact⟨gA,news,k1.trans (zc.none_le _),k2,k3⟩
      ·let⟨w,hw⟩:=hw;exact hf.renew h0 (yL κ d 0) (wq hw)
     ·cases hX2
    ·rename_i ex;rw[ex] at hx;let⟨ts,hts,hX4⟩:=gd hX2;have hinv:∀w,Inv w0 σ0 Z PV w->Inv w0 σ0 Z (.row (zx C e).o e (.slice F 0 0) ⟨[],N⟩::PV) w:=λw hi=>hi.sub_own λgg k =>.cons (h1:=zc.none) (.inl ⟨rfl,rfl⟩) k (zc.none_le _) (.refl _) (zc.none_disj _)
     refine OpA.pv hinv ?_ out hX4;refine OpA.of2 (zaa (T:=(zx C e).o) (s:=⟨[],N⟩) (ts:=ts) (v :=.slice F 0 0) (u:=opv L b y) [] PV hn hu hi hz (ge c3) (ge c1) c2 hx rfl (λw gg hw _ _=>?_) λs' v' hs' hw r hr=>⟨_,(W.inj hr).symm,?_⟩)
     ·let⟨gA,news,k1,k2,k3⟩:=znl h hts w ⟨hw.1,by
       let⟨hh,k,l⟩:=hw.2;let⟨_,h2,_,q2,_,q4,_⟩:=Sep.uncons k
       exact⟨h2,q2,l.mono q4⟩⟩
      exact⟨gA,news,k1.trans (zc.none_le _),k2,k3⟩
     ·let⟨w,hw⟩:=hw;exact h.newRow h0 (yL κ d 0) (wq hw)
    ·cases hX2
   ·cases hX
  ·cases hX
 ·cases hX
end
variable [Dfr]
section
variable {κ:Kp}{C:Cod}{S:St C}{ν:Val}{vs:Nat->List Value}{ids:List Nat}{L:List (Nat×Value)}{b:Nat->Value}{Z:FS}{PV:List Priv}{P:Program}
variable {t t' ty:TypeId}{x y z:Operand}{d:Nat}{ps:String}{af:Array Edge}{g:U7 (Nat×Bool)}{A:AV C.D}{n:Nat}{w0:Start}{σ0:FS}{o:Oper}{X:U7 (Out C)}
theorem znm{p:Nat->Prop}{agg:Bool}{cs:List (AV C.D)}(h:AV.oks p cs):(zbB agg cs).ok p:=by
 unfold zbB;cases agg with
 |true=>exact h
 |false=>
  match cs,h with
  |[],_=>trivial
  |[c],h=>exact h.1
  |_::_::_,_=>trivial
theorem WJ{p:Nat->Prop}{cs:List (AV C.D)}{off:Nat}(hp:Yv P t cs off=E A)(h:AV.oks p cs):A.ok p:=by
 obtain⟨td,ti,_,_,_,_,rfl⟩:=zac hp;exact znm (AV.oks_take (AV.oks_drop h _) _)
theorem Vj{p:Nat->Prop}:∀{A:AV C.D},A.base=G->A.ok p
 | .int _ _,_=>trivial
 | .bool _,_=>trivial
 | .str _,_=>trivial
 | .sl _ _ _,_=>trivial
 | .pz _ _ _,_=>trivial
 | .pnil,_=>trivial
 | .nilf,_=>trivial
 | .nili,_=>trivial
 | .clo f [],_=>trivial
 | .ifc t A,h=>Vj (A:=A) h
theorem zbd{p:Nat->Prop}{T:Nat}{q:C.D T}:AV.oks p (C.emb T q):=AV.oks_iff.2 λA hA=>Vj (C.base T q A hA)
theorem zht{p:Nat->Prop}(h:A.ok p):(zc8 P ty A).ok p:=h
theorem ztl{p:Nat->Prop}{q:Bool}{A B R:AV C.D}(h:zf7 q A B=E R)(hA:A.ok p):R.ok p:=by
 unfold zf7 at h;split at h
 ·let⟨_,h2⟩:=zb h;cases h2;trivial
 ·cases h;trivial
 ·cases h;trivial
 ·split at h
  ·cases h;trivial
  ·cases h
 ·grind
 ·grind
 ·let⟨_,h2⟩:=zb h;grind
 ·let⟨_,h2⟩:=zb h;grind
 ·cases h
theorem zxn{p:Nat->Prop}{q:Bool}{A B R:AV C.D}(h:zf8 q A B=E R)(hA:A.ok p)(hB:B.ok p):R.ok p:=by
 unfold zf8 at h;split at h
 ·rename_i e;cases h;exact ztl e hA
 grind
theorem zfo{p:Nat->Prop}{pls:List (Nat×Nat)}:∀{ps:List (Nat×AV C.D)}{cs r:List (AV C.D)},vQ pls cs ps=E r->AV.oks p cs->(∀q∈ps,q.2.ok p)->AV.oks p r
 |[],cs,r,h,k,_=>by simp only[vQ] at h;grind
 |(i,c)::ps,cs,r,h,k,l=>by
  simp only[vQ] at h;split at h
  ·cases h
  ·let⟨_,h⟩:=zb h;exact zfo h (AV.oks_append (AV.oks_append (AV.oks_take k _) (AV.oks_cells (l (i,c) (by simp)))) (AV.oks_drop k _)) λq hq=>l q (D5 _ hq)
theorem Yx{α:Type}{id T:Nat}{i:Int}{K:(U:Nat)->Sl (C.D U)->U7 α}{a:α}(h:zJ S id T i K=E a):∃U u,K U u=E a:=by
 unfold zJ at h;split at h
 ·let⟨_,h⟩:=zb h;let⟨q,hq,h⟩:=gd h;grind
 ·cases h
theorem ztm{p:Nat->Prop}{T id:Nat}{q:C.D T}{i:Int}(h:p id):AV.oks p (zfm C T q id i):=AV.oks_iff.2 λA hA=>by
 unfold zfm at hA;rcases List.mem_or_eq_of_mem_set hA with h1 | h1
 ·exact Vj (C.base T q A h1)
 ·rw[h1];exact h
theorem zae(h:AbsL κ S ν vs ids L b Z PV){op:Op}(he:yB P S ty op=E A):A.ok λid=>(S.heap id).isSome=true:=by
 unfold yB at he;split at he
 ·cases he;exact zht (h.oks_op _)
 ·cases he;exact zht (h.oks_op _)
 ·split at he
  ·rename_i q _;exact zxn he (h.oks_op _) (h.oks_op _)
  ·cases he
 ·rename_i x;have hx:=h.oks_op x;grind
 ·rename_i bo t x y _;have key:∀{A},wz P t bo (S.op x) (S.op y)=E A->A.ok λid=>(S.heap id).isSome=true:=by
   intro A hh;have kp:∀{r:Bool} {A:AV C.D},wz.evPtr P t bo r=E A->A.ok λid=>(S.heap id).isSome=true:=by
    intro r A hh;unfold wz.evPtr at hh;split at hh<;>cases hh<;>trivial
   unfold wz at hh;split at hh
   ·let⟨_,hh⟩:=zb hh;unfold zd7 at hh;split at hh<;>first | (cases hh;done) | (cases hh;trivial) | (let⟨_,_,hh⟩:=gd hh;cases hh;trivial)
   ·split at hh<;>first | (cases hh;done) | (cases hh;trivial) | (let⟨_,hh2⟩:=zb hh;cases hh2;trivial)
   ·split at hh<;>cases hh<;>trivial
   ·split at hh<;>cases hh<;>trivial
   ·split at hh<;>cases hh<;>trivial
   ·exact kp hh
   ·exact kp hh
   ·exact kp hh
   ·exact kp hh
   ·exact kp hh
   ·split at hh
    ·let⟨_,hh⟩:=zb hh;let⟨_,_,hh⟩:=gd hh;cases hh;trivial
    ·let⟨_,hh⟩:=zb hh;let⟨_,_,hh⟩:=gd hh;cases hh;trivial
    ·cases hh
   ·cases hh
  unfold x9 at he;cases hy:Yb y with
  |true=>
   rw[hy,D1] at he;split at he<;>first | (cases he;done) | (cases he;trivial)
  |false=>
  rw[hy,UC] at he;unfold wo at he;split at he
  ·split at he
   ·split at he<;>cases he<;>trivial
   ·split at he<;>cases he<;>trivial
   ·cases he
  ·split at he
   ·let⟨U,u,he⟩:=Yx he;split at he<;>cases he<;>trivial
   ·cases he
  grind
 ·rename_i t x;split at he
  ·cases he
  ·cases he;exact h.oks_op x
  ·cases he
 ·rename_i x _ t ok;unfold zbH at he;split at he
  ·cases he
  ·split at he
   ·rename_i t' B e;let⟨_,he⟩:=zb he;cases he;have:=h.oks_op x;rw[e] at this;exact⟨this,trivial,trivial⟩
   ·rename_i t' B e;let⟨_,he⟩:=zb he;cases he;have:=h.oks_op x;rw[e] at this;exact this
   ·split at he
    ·rename_i zv _;cases he;refine⟨?_,trivial,trivial⟩;unfold zbC;split
     ·exact YR _
     ·exact(YR [_]).1
    ·cases he
   ·cases he
  ·cases he
 ·split at he<;>cases he;trivial
 ·split at he<;>cases he;trivial
 ·split at he<;>cases he;trivial
 ·unfold zbb at he;have ops:∀l:List Operand,AV.oks (λid=>(S.heap id).isSome=G) (l.map S.op):=λl=>AV.oks_iff.2 λA hA=>by
   obtain⟨x,_,rfl⟩:=D6.1 hA;exact h.oks_op x
  split at he
  ·let⟨_,he⟩:=zb he;cases he;exact ops _
  ·split at he
   ·cases he;exact⟨ops _,trivial⟩
   ·cases he
 ·rename_i x i;have hx:=h.oks_op x;split at he
  ·rename_i us e;rw[e] at hx;let⟨B,hB,he⟩:=gd he;cases he;exact zht (AV.oks_iff.1 (show AV.oks _ us from hx) B (UW hB))
  ·cases he
 ·unfold WH at he;split at he
  ·split at he
   ·let⟨cs,hf,he⟩:=gd he;cases he;exact zfo hf (YR _) λq hq=>by
     obtain⟨z,_,rfl⟩:=D6.1 hq;exact h.oks_op z.2
   ·cases he
  ·split at he
   ·let⟨cs,hf,he⟩:=gd he;cases he;exact zfo hf (YR _) λq hq=>by
     obtain⟨z,_,rfl⟩:=D6.1 hq;exact h.oks_op z.2
   ·cases he
  ·cases he
 ·rename_i t x m;have hx:=h.oks_op x;unfold zea at he;split at he
  ·rename_i fs cs _ e;rw[e] at hx;split at he
   ·exact WJ he hx
   ·cases he
  ·cases he
 ·rename_i t x m;have hx:=h.oks_op x;unfold zd8 at he;split at he
  ·split at he
   ·split at he
    ·let⟨_,he⟩:=zb he;split at he<;>first | (cases he;done) | (rename_i e;rw[e] at hx;cases he;exact hx)
    ·cases he
   ·cases he
  ·cases he
 ·rename_i t x y;have hx:=h.oks_op x;unfold XU at he;split at he
  ·split at he
   ·split at he
    ·let⟨_,he⟩:=zb he;let⟨_,_,he⟩:=gd he;cases he;trivial
    ·rename_i e _;rw[e] at hx;split at he
     ·let⟨_,he⟩:=zb he;let⟨_,_,he⟩:=gd he;cases he;exact hx
     ·let⟨_,he⟩:=zb he;let⟨_,_,he⟩:=gd he;cases he;exact hx
     ·cases he
    ·rename_i e _;rw[e] at hx;let⟨U,u,he⟩:=Yx he;let⟨_,he⟩:=zb he;let⟨_,_,he⟩:=gd he;cases he;exact hx
    ·rename_i e _;rw[e] at hx;let⟨U,u,he⟩:=Yx he;let⟨_,he⟩:=zb he;let⟨_,_,he⟩:=gd he;let⟨_,_,he⟩:=gd he;cases he;exact hx
    ·cases he
   ·cases he
  ·split at he
   ·split at he
    ·rename_i e _;rw[e] at hx;let⟨_,he⟩:=zb he;obtain⟨_,_,_,rfl⟩:=zhs he;exact hx
    ·cases he
   ·cases he
  ·cases he
 ·rename_i t x;unfold x8 at he;split at he
  ·split at he
   ·rename_i cs hcs;exact WJ he (h.livec _ cs hcs)
   ·cases he
  ·exact WJ he zbd
  ·split at he
   ·let⟨_,he⟩:=zb he;let⟨_,_,he⟩:=gd he;exact WJ he zbd
   ·rename_i hs;let⟨_,he⟩:=zb he;let⟨_,_,he⟩:=gd he;exact WJ he (ztm (by rw[hs];rfl))
   ·cases he
  ·let⟨U,u,he⟩:=Yx he;let⟨_,he⟩:=zb he;let⟨_,_,he⟩:=gd he;exact WJ he zbd
  ·cases he
 ·unfold za9 at he;split at he
  ·let⟨_,_,he⟩:=gd he;cases he;trivial
  ·split at he
   ·let⟨_,he2⟩:=zb he;rcases zth (p:=λid=>(S.heap id).isSome=G) he2 with⟨s,rfl⟩ | ⟨k,m,rfl⟩<;>trivial
   ·cases he
  ·cases he
 ·unfold Yp at he;split at he
  ·split at he
   ·let⟨_,_,he⟩:=gd he;cases he;trivial
   ·cases he
  ·split at he
   ·let⟨_,he⟩:=zb he;let⟨_,_,he⟩:=gd he;cases he;trivial
   ·cases he
  ·rename_i e;split at he
   ·let⟨U,u,he⟩:=Yx he;split at he
    ·let⟨_,he⟩:=zb he;let⟨_,_,he⟩:=gd he;cases he;have hk:∀x A,S.op x=A->A.ok λid=>(S.heap id).isSome=true:=λx A hA=>hA ▸ h.oks_op x
     exact(show AV.ok _ (AV.nx _ _ _ NX.whole) from hk _ _ e)
    ·cases he
   ·cases he
  ·cases he
 ·split at he
  ·unfold w5 at he;split at he
   ·cases he;trivial
   ·cases he;trivial
   ·cases he;trivial
   ·split at he<;>cases he<;>trivial
   ·let⟨U,u,he⟩:=Yx he;cases he;trivial
   ·let⟨U,u,he⟩:=Yx he;let⟨_,he⟩:=zb he;let⟨_,_,he⟩:=gd he;cases he;trivial
   ·cases he
  ·cases he
 ·split at he
  ·split at he
   ·let⟨_,he⟩:=zb he;cases he;trivial
   ·cases he
  ·cases he
 ·split at he
  ·split at he
   ·let⟨_,he⟩:=zb he;cases he;trivial
   ·cases he
  ·cases he
 ·cases he
def yY(P:Program)(S:St C)(d:Nat)(t:TypeId)(x:Operand)(hi:U7 Operand):U7 (Out C):=
 match P.underlying t with
 |some (.slice e)=>(match P.info? e with
  |some ti=>(match S.op x with
   | .row id=>(match S.heap id with
    |some (.row T s)=>chk (I ti.size (C.size T) && isNone (S.heap (nid d 0))) (match Zm S s.len hi with
     |some j=>(z7 s 0 j).bind λs'=>E (.go {env:=upd (S.sub id .und).env d (.row (nid d 0)),heap:=upd (S.sub id .und).heap (nid d 0) (E (.row T s'))})
     |none=>F)
    |_=>F)
   |_=>F)
  |none=>F)
 |_=>F
theorem zmW(h:AbsL κ S ν vs ids L b Z PV)(hn:O d n=G){hi:U7 Operand}:OpA κ P n w0 σ0 ⟨E d,.slice t x F hi F,ty,ps,af,g⟩ (yY P S d t x hi) L b Z PV:=by
 intro out hX;unfold yY at hX;split at hX
 ·rename_i e hu;split at hX
  ·rename_i ti hti;have hx:=h.op x;split at hX
   ·rename_i id ex;rw[ex] at hx;split at hX
    ·rename_i T s hs;let⟨hc,hX2⟩:=zb hX;simp only[gf] at hc;have hz:ti.size=(zx C T).o.size:=ge hc.1;have h0:=Ze hc.2;let⟨m,hm,hid⟩:=h.at hs;split at hX2
     ·rename_i j hj;let⟨hf,hinv⟩:=h.front (w0:=w0) (σ0:=σ0) hid hm;refine OpA.pv hinv ?_ out hX2;refine OpA.of2 (zkE (T:=(zx C T).o) (s:=s) (e':=T) (v:=ν.hdr id) 0 hn hu hti hz hx rfl rfl (xO h.toAbs hj) λs' v' hs' hw r hr=>⟨_,(W.inj hr).symm,?_⟩);let⟨w,hw⟩:=hw;exact hf.renew h0 (yL κ d 0) (wq hw)
     ·cases hX2
    ·cases hX
   ·cases hX
  ·cases hX
 ·cases hX
end
section
variable {P:Program}{w0:Start}{σ0 Z:FS}{PV:List Priv}{w:World}{n:Nat}{L:List (Nat×Value)}{b:Nat->Value}{ρ:Type}{p:U7 ρ}
variable {H:U7 ρ->List (Nat×Value)->FS->List Priv->Prop}{d:Nat}{v:Value}{mt kt et ty:TypeId}{ps:String}{af:Array Edge}{g:U7 (Nat×Bool)}{x y z:Operand}
variable [Dfr]
theorem zop(hn:O d n=G)(h:∀r,H p ((d,.map (E r))::L) Z (.mp (.map (E r)) []::PV)):Xl P n w0 σ0 ⟨E d,.makeMap mt F,ty,ps,af,g⟩ p L b Z PV H:=by
 intro r hp a w hi hf K Q hK;unfold qc;have hr:(execOp a.eval ⟨E d,.makeMap mt F,ty,ps,af,g⟩).run P w = .ok (.value (.map (E w.heap.size))) (w.alloc (.map #[] 0)):=by
  simp[execOp,Instr.makeMap,qb]
 rw[hr,qA];have h1:=hi.newObj (o :=.map #[] 0) rfl;refine hK p _ Z (.mp (.map (E w.heap.size)) []::PV) _ _ hp (h1.sub_own λhh kk=>?_) (hf.put (by simpa[Dd] using hn) _) (h _);let⟨g1,g2,m1,m2,n1,n2,dd⟩:=kk.uncons;exact .cons (h1:=g1) ⟨_,_,_,rfl,m1,rfl⟩ m2 n1 n2 dd
theorem Inv.alike{m:Nat}{q q':Priv}(hm:PV[m]?=E q)(hi:Inv w0 σ0 Z PV w)(h:∀g:zc,q.holds Z g->g.sub w->q'.holds Z g):Inv w0 σ0 Z (PV.set m q') w:=
 hi.change hm λg hh hs=>⟨g,h g hh hs,hs,Ext.refl _ _,λb i hx =>.inl hx⟩
variable {α:Type}[DecidableEq α]{K:MKey α}{k:α}{xs:List (α×Value)}
theorem zrG (m:Nat) {ti:TypeInfo}{zv:Value}(hn:O d n=G) (hm:PV[m]?=E (.mp v (Ys K xs))) (hx:opv L b x=v) (hy:opv L b y=K.enc k) (hu:P.underlying mt=E (.map kt et)) (hk:P.underlying kt=E K.d) (hi':P.info? et=E ti) (hz:ti.zero=E zv)
    (h:H p ((d,(YO k xs).getD zv)::L) Z PV):Xl P n w0 σ0 ⟨E d,.lookup mt x y N,ty,ps,af,g⟩ p L b Z PV H:=by
 intro r hp a w hinv hf K' Q hK;obtain⟨h1,⟨r0,es,clock,rfl,e2,e3⟩,hsub⟩:=hinv.held.get hm;have hb:w.heap[r0]?=E (.map es clock):=(hsub r0 0 _ e2).1;have hrun:(execOp a.eval ⟨E d,.lookup mt x y N,ty,ps,af,g⟩).run P w = .ok (.value ((YO k xs).getD zv)) w:=by
  rw[hf.eval];have c1:=D7 (P:=P) hb;have c2:=λe=>qH (P:=P) (w:=w) hk (K.key k) e 9999
  rcases vN K k es.toList xs 0 e3 with⟨f1,f2,_,_⟩ | ⟨v',j,e',f1,f2,f3,f4,_,_⟩
  ·have c3:=qk (P:=P) (w:=w) hk f2;simp[execOp,q0,hx,hy,UY hu,c1,c2,c3,f1,qb,zeroValue,typeInfo,hi',hz]
  ·have c3:=qk (P:=P) (w:=w) hk f2;simp[execOp,q0,hx,hy,UY hu,c1,c2,c3,f1,qb]
 unfold qc;rw[hrun,qA];exact hK p _ Z PV _ _ hp hinv (hf.put (by simpa[Dd] using hn) _) h
theorem zkQ (m:Nat) (hm:PV[m]?=E (.mp v (Ys K xs))) (hx:opv L b x=v) (hy:opv L b y=K.enc k) (hu:P.underlying mt=E (.map kt et)) (hk:P.underlying kt=E K.d)
    (h:H p L Z (PV.set m (.mp v (Ys K (Yd k (opv L b z) xs))))):Xl P n w0 σ0 ⟨F,.mapUpdate mt x y z,ty,ps,af,g⟩ p L b Z PV H:=by
 intro r hp a w hinv hf K' Q hK;obtain⟨h1,⟨r0,es,clock,rfl,e2,e3⟩,hsub⟩:=hinv.held.get hm;have hb:w.heap[r0]?=E (.map es clock):=(hsub r0 0 _ e2).1;have hml:m < PV.length:=(UG.1 hm).1;have hI:=hinv.alike hm (q' :=.obj r0 (.map es clock)) λg hg hs=>by
  let⟨r1,es1,c1,q1,q2,q3⟩:=hg;cases q1;have:=(hs r0 0 _ q2).1;rw[hb] at this;cases this;exact q2
 have c1:=D7 (P:=P) hb;have c2:=qH (P:=P) (w:=w) hk (K.key k) N 9999;obtain⟨es',clock',hrun,hes⟩:∃es' clock',(execOp a.eval ⟨F,.mapUpdate mt x y z,ty,ps,af,g⟩).run P w = .ok .skip {w with heap:=w.heap.setIfInBounds r0 (.map es' clock')}/\es'.toList.map (λe=>(e.key,e.val))=Ys K (Yd k (opv L b z) xs):=by
  rw[hf.eval];rcases vN K k es.toList xs 0 e3 with⟨f1,f2,f3,_⟩ | ⟨v',j,e',f1,f2,f3,f4,f5,_⟩
  ·have c3:=qk (P:=P) (w:=w) hk f2;have c4:=qC (P:=P) (.map (es.push {key:=K.enc k,val:=opv L b z,born:=clock}) (clock+1)) hb;refine⟨es.push {key:=K.enc k,val:=opv L b z,born:=clock},clock+1,by simp[execOp,qZ,hx,hy,UY hu,c1,c2,c3,c4,qb],?_⟩;rw[f3];simp[Ys] at e3 |-;exact e3
  · have c3:=qk (P:=P) (w:=w) hk f2;have hj:es[j]?=E e':=by simpa using f3
    have c5:(q5 (K.enc k) (K.enc k)).run P w = .ok (K.enc k) w:=by simp[q5,K.bits]
    have c4:=λo=>qC (P:=P) o hb
    refine⟨es.modify j λe=>{e with key:=K.enc k,val:=opv L b z},clock,by simp[execOp,qZ,hx,hy,UY hu,c1,c2,c3,c4,c5,hj,f4,qb],?_⟩;rw[f5];have:(es.modify j λe=>{e with key:=K.enc k,val:=opv L b z}).toList=es.toList.set j {e' with val:=opv L b z}:=by
     rw[Array.toList_modify];apply UK;intro i;rw[List.getElem?_modify,UL];by_cases hij:j=i
     ·subst hij;let⟨hl,_⟩:=UG.1 f3;simp only[jq,f3,UF,jv hl];rw[<- f4];rfl
     ·simp[hij]
    rw[this]
 unfold qc;rw[hrun];have h2:=hI.setObj (o :=.map es clock) (o' :=.map es' clock') rfl rfl (m:=m) (by rw[qF hml]);rw[qD] at h2;have h3:=h2.alike (m:=m) (q :=.obj r0 (.map es' clock')) (q' :=.mp (.map (E r0)) (Ys K (Yd k (opv L b z) xs))) (by rw[qF hml]) λg hg _=>⟨r0,es',clock',rfl,hg,hes⟩
 rw[qD] at h3;exact hK p _ Z _ a _ hp h3 hf h
theorem zrH (m:Nat) {ts:Array TypeId}(ht:ts[0]?=E mt) (hm:PV[m]?=E (.mp v (Ys K xs))) (hx:opv L b x=v) (hy:opv L b y=K.enc k) (hu:P.underlying mt=E (.map kt et)) (hk:P.underlying kt=E K.d)
    (h:H p L Z (PV.set m (.mp v (Ys K (Xk k xs))))):Xl P n w0 σ0 ⟨F,.call ⟨.builtin .delete, #[x,y],ts⟩,ty,ps,af,g⟩ p L b Z PV H:=by
 intro r hp a w hinv hf K' Q hK;obtain⟨h1,⟨r0,es,clock,rfl,e2,e3⟩,hsub⟩:=hinv.held.get hm;have hb:w.heap[r0]?=E (.map es clock):=(hsub r0 0 _ e2).1;have hml:m < PV.length:=(UG.1 hm).1;have hI:=hinv.alike hm (q' :=.obj r0 (.map es clock)) λg hg hs=>by
  let⟨r1,es1,c1,q1,q2,q3⟩:=hg;cases q1;have:=(hs r0 0 _ q2).1;rw[hb] at this;cases this;exact q2
 have c1:=D7 (P:=P) hb;have c2:=λe=>qH (P:=P) (w:=w) hk (K.key k) e 9999
 obtain⟨es',clock',hrun,hes⟩:∃es' clock',(execOp a.eval ⟨F,.call ⟨.builtin .delete, #[x,y],ts⟩,ty,ps,af,g⟩).run P w = .ok (.value (.tuple #[])) {w with heap:=w.heap.setIfInBounds r0 (.map es' clock')}/\es'.toList.map (λe=>(e.key,e.val))=Ys K (Xk k xs):=by
  rw[hf.eval];rcases vN K k es.toList xs 0 e3 with⟨f1,f2,f3,f6⟩ | ⟨v',j,e',f1,f2,f3,f4,f5,f6⟩
  ·have c3:=qk (P:=P) (w:=w) hk f2;have c4:=qC (P:=P) (.map es clock) hb;refine⟨es,clock,by simp[execOp,resolve,invoke,builtin,Builtin.delete_,ht,hx,hy,UY hu,c1,c2,c3,c4,qb],?_⟩;rw[f6];exact e3
  ·have c3:=qk (P:=P) (w:=w) hk f2;have c4:=qC (P:=P) (.map (es.eraseIdxIfInBounds j) clock) hb;refine⟨es.eraseIdxIfInBounds j,clock,by simp[execOp,resolve,invoke,builtin,Builtin.delete_,ht,hx,hy,UY hu,c1,c2,c3,c4,qb],?_⟩;rw[f6];congr 1;let⟨hl,_⟩:=UG.1 f3;simp[Array.eraseIdxIfInBounds,show j < es.size by simpa using hl]
 unfold qc;rw[hrun];have h2:=hI.setObj (o :=.map es clock) (o' :=.map es' clock') rfl rfl (m:=m) (by rw[qF hml]);rw[qD] at h2;have h3:=h2.alike (m:=m) (q :=.obj r0 (.map es' clock')) (q' :=.mp (.map (E r0)) (Ys K (Xk k xs))) (by rw[qF hml]) λg hg _=>⟨r0,es',clock',rfl,hg,hes⟩
 rw[qD] at h3;exact hK p _ Z _ a _ hp h3 hf h
end
variable [Dfr]
section
variable {κ:Kp}{C:Cod}{S:St C}{ν:Val}{vs:Nat->List Value}{ids:List Nat}{L:List (Nat×Value)}{b:Nat->Value}{Z:FS}{PV:List Priv}{P:Program}
variable {t t' ty:TypeId}{x y z:Operand}{d:Nat}{ps:String}{af:Array Edge}{g:U7 (Nat×Bool)}{A:AV C.D}{n:Nat}{w0:Start}{σ0:FS}{o:Oper}{X:U7 (Out C)}
theorem AbsL.setObj (h:AbsL κ S ν vs ids L b Z PV) {id m q T:Nat}{b0:ByteArray}{s s':Sl (C.D T)}(hc:S.heap id=E (.obj q T b0 s)) (hm:ids[m]?=E id) :
    AbsL κ {S with heap:=upd S.heap id (E (.obj q T b0 s'))} ν vs ids L b Z (PV.set m (C.opv q T (ν.hdr id) (ν.adr id).a b0 s')):=by
 have hlv:∀j,(S.heap j).isSome=(upd S.heap id (E (.obj q T b0 s')) j).isSome:=λj=>by
  by_cases e:j=id
  ·subst e;rw[zp,hc];rfl
  ·rw[zq e]
 have hml:=(UG.1 hm).1;have hid:=(UG.1 hm).2;refine⟨⟨h.nd,λj=>?_,?_,λj c hj=>?_,h.env,h.one⟩,λt=>?_,λj c hj=>?_,λk hk hs=>have q:=h.keep k hk (by rw[hlv];exact hs);⟨q.1,q.2.1,λhf=>q.2.2 (zbJ (λh=>by cases h) hf)⟩⟩
 ·show _↔(upd S.heap id (E (.obj q T b0 s')) j).isSome=G;rw[<- hlv];exact h.dom j
 · apply UK;intro k;rw[UL,UE,h.pv,D4];by_cases e:m=k
   ·subst e;rw[jv rfl,jv hml,hm,UF];show _=E (zH C ν vs id (upd S.heap id (E (.obj q T b0 s')) id));rw[zp];rfl
   · rw[jx e,UE];cases hk:ids[k]? with
     |none=>rfl
     |some j=>
      have hne:j≠id:=λe'=>by
       have hp:=qx.1 (UH.1 h.nd);let⟨hkl,hkj⟩:=UG.1 hk;rcases Nat.lt_or_gt_of_ne e with q | q
       ·exact hp m k hml hkl q (by rw[hid,hkj,e'])
       ·exact hp k m hkl hml q (by rw[hid,hkj,e'])
      simp only[UF];show E (zH C ν vs j (S.heap j))=E (zH C ν vs j (upd S.heap id (E (.obj q T b0 s')) j));rw[zq hne]
 · have hj:upd S.heap id (E (.obj q T b0 s')) j=_:=hj;by_cases e:j=id
   ·subst e;rw[zp] at hj;cases hj
   ·rw[zq e] at hj;exact h.cell j c hj
 ·exact AV.ok_mono (λj hj=>by show(upd S.heap id (E (.obj q T b0 s')) j).isSome=G;rw[<- hlv];exact hj) (h.live t)
 · have hj:upd S.heap id (E (.obj q T b0 s')) j=_:=hj;refine AV.oks_mono (p:=λid=>(S.heap id).isSome=G) (λj hj=>by show(upd S.heap id (E (.obj q T b0 s')) j).isSome=G;rw[<- hlv];exact hj) ?_;by_cases e:j=id
   ·subst e;rw[zp] at hj;cases hj
   ·rw[zq e] at hj;exact h.livec j c hj
end
section
variable {κ:Kp}{C:Cod}{S:St C}{ν:Val}{vs:Nat->List Value}{ids:List Nat}{L:List (Nat×Value)}{b:Nat->Value}{Z:FS}{PV:List Priv}{P:Program}
variable {x y z:Operand}{d:Nat}{ps:String}{af:Array Edge}{g:U7 (Nat×Bool)}{n:Nat}{w0:Start}{σ0:FS}{mt kt et ty:TypeId}
variable {T id:Nat}{b0:ByteArray}{s:Sl (C.D T)}
def VK.a{D:Nat->Type}:(v:VK)->v.ty->AV D
 | .i =>.int .i64
 | .b =>.bool
def VK.dec{D:Nat->Type}:(v:VK)->AV D->U7 v.ty
 | .i=>λA=>match A with
  | .int .i64 x=>E x
  |_=>F
 | .b=>λA=>match A with
  | .bool x=>E x
  |_=>F
def KK.dec{D:Nat->Type}:(k:KK)->AV D->U7 k.ty
 | .s=>λA=>match A with
  | .str x=>E x
  |_=>F
 | .i=>λA=>match A with
  | .int .i64 x=>E x
  |_=>F
theorem VK.dec_ok{Z:FS}{u:Value}{A:AV C.D}(h:VR C Z ν u A):∀{v:VK}{x:v.ty},v.dec A=E x->u=v.e x:=by
 intro v x e;cases v<;>(unfold VK.dec at e;simp only at e;split at e<;>cases e)
 ·exact h.int_inv
 ·exact h.bool_inv
theorem KK.dec_ok{Z:FS}{u:Value}{A:AV C.D}(h:VR C Z ν u A):∀{k:KK}{x:k.ty},k.dec A=E x->u=k.K.enc x:=by
 intro k x e;cases k<;>(unfold KK.dec at e;simp only at e;split at e<;>cases e)
 ·exact h.str_inv
 ·exact h.int_inv
variable [Dfr]
theorem zrI (M:MapR C.D C.opv T) {k:M.k.ty}(h:AbsL κ S ν vs ids L b Z PV) (hn:O d n=G) (hx:S.op x = .row id) (hs:S.heap id=E (.obj M.q T b0 s)) (hy:opv L b y=M.k.K.enc k)
    (hu:P.underlying mt=E (.map kt et)) (hk:P.underlying kt=E M.k.K.d) {ti:TypeInfo} (hi:P.info? et=E ti) (hz:ti.zero=E (M.v.e M.v.z)) :
    OpA κ P n w0 σ0 ⟨E d,.lookup mt x y N,ty,ps,af,g⟩ (E (.go (S.put d (M.v.a (yj k M.v.z (M.l s)))))) L b Z PV:=by
 have hxv:=h.op x;rw[hx] at hxv;have hxv:opv L b x=ν.hdr id:=hxv;let⟨m,hm,hid⟩:=h.at hs;have hm:PV[m]?=E (C.opv M.q T (ν.hdr id) (ν.adr id).a b0 s):=hm;rw[M.opv] at hm;refine OpA.of (zrG (K:=M.k.K) (k:=k) m hn hm hxv hy hu hk hi hz λr hr=>⟨_,(W.inj hr).symm,?_⟩);have e:(YO k (asV M.v.e (cast (congrArg List M.e) s.xs))).getD (M.v.e M.v.z)=M.v.e (yj k M.v.z (M.l s)):=by
  rw[zku];unfold yj MapR.l;cases YO k (cast (congrArg List M.e) s.xs)<;>rfl
 rw[e];generalize yj k M.v.z (M.l s)=r;have:∀(v:VK) (r:v.ty),zy κ (S.put d (v.a r)) ((d,v.e r)::L) b Z PV:=by
  intro v r;cases v with
  |i=>exact⟨ν,vs,ids,h.put (A :=.int .i64 r) Rv.int trivial⟩
  |b=>exact⟨ν,vs,ids,h.put (A :=.bool r) Rv.bool trivial⟩
 exact this _ _
theorem zrJ (M:MapR C.D C.opv T) {k:M.k.ty}{v:M.v.ty}(h:AbsL κ S ν vs ids L b Z PV) (hx:S.op x = .row id) (hs:S.heap id=E (.obj M.q T b0 s)) (hy:opv L b y=M.k.K.enc k) (hzv:opv L b z=M.v.e v)
    (hu:P.underlying mt=E (.map kt et)) (hk:P.underlying kt=E M.k.K.d) :
    OpA κ P n w0 σ0 ⟨F,.mapUpdate mt x y z,ty,ps,af,g⟩ (E (.go {S with heap:=upd S.heap id (E (.obj M.q T b0 (M.s (Yd k v (M.l s)))))})) L b Z PV:=by
 have hxv:=h.op x;rw[hx] at hxv;have hxv:opv L b x=ν.hdr id:=hxv;let⟨m,hm,hid⟩:=h.at hs;have hm:PV[m]?=E (C.opv M.q T (ν.hdr id) (ν.adr id).a b0 s):=hm;rw[M.opv] at hm;refine OpA.of (zkQ (K:=M.k.K) (k:=k) m hm hxv hy hu hk λr hr=>⟨_,(W.inj hr).symm,?_⟩);rw[hzv,zkv];have h2:=h.setObj (s':=M.s (Yd k v (M.l s))) hs hid;rw[M.opv] at h2;have e:cast (congrArg List M.e) (M.s (Yd k v (M.l s))).xs=Yd k v (M.l s):=M.ls _;rw[e] at h2;exact⟨ν,vs,ids,h2⟩
theorem zrK (M:MapR C.D C.opv T) {k:M.k.ty}{ts:Array TypeId}(ht:ts[0]?=E mt) (h:AbsL κ S ν vs ids L b Z PV) (hx:S.op x = .row id) (hs:S.heap id=E (.obj M.q T b0 s)) (hy:opv L b y=M.k.K.enc k)
    (hu:P.underlying mt=E (.map kt et)) (hk:P.underlying kt=E M.k.K.d) :
    OpA κ P n w0 σ0 ⟨F,.call ⟨.builtin .delete, #[x,y],ts⟩,ty,ps,af,g⟩ (E (.go {S with heap:=upd S.heap id (E (.obj M.q T b0 (M.s (Xk k (M.l s)))))})) L b Z PV:=by
 have hxv:=h.op x;rw[hx] at hxv;have hxv:opv L b x=ν.hdr id:=hxv;let⟨m,hm,hid⟩:=h.at hs;have hm:PV[m]?=E (C.opv M.q T (ν.hdr id) (ν.adr id).a b0 s):=hm;rw[M.opv] at hm;refine OpA.of (zrH (K:=M.k.K) (k:=k) m ht hm hxv hy hu hk λr hr=>⟨_,(W.inj hr).symm,?_⟩);rw[zkw];have h2:=h.setObj (s':=M.s (Xk k (M.l s))) hs hid;rw[M.opv] at h2;have e:cast (congrArg List M.e) (M.s (Xk k (M.l s))).xs=Xk k (M.l s):=M.ls _;rw[e] at h2;exact⟨ν,vs,ids,h2⟩
theorem zxo (M:MapR C.D C.opv T) (h:AbsL κ S ν vs ids L b Z PV) (hn:O d n=G) (h0:S.heap (nid d 0)=F) :
    OpA κ P n w0 σ0 ⟨E d,.makeMap mt F,ty,ps,af,g⟩ (E (.go {env:=upd S.env d (.row (nid d 0)),heap:=upd S.heap (nid d 0) (E (.obj M.q T default (M.s [])))})) L b Z PV:=by
 refine OpA.of (zop hn λr0 r hr=>⟨_,(W.inj hr).symm,?_⟩);refine h.new (e :=.obj M.q T default (M.s [])) (v :=.map (E r0)) (a:=default) (us:=[]) (A :=.row (nid d 0)) h0 (yL κ d 0) (λν' h1 h2=>⟨?_,rfl⟩) ?_ ?_ (λcs hc=>by cases hc) rfl
 ·show Value.map (E r0)=ν'.hdr (nid d 0);rw[h1];rfl
 ·rfl
 ·show _=C.opv M.q T (.map (E r0)) _ default (M.s []);rw[M.opv];have e:cast (congrArg List M.e) (M.s []).xs=[]:=M.ls [];rw[e];rfl
end
section
variable {κ:Kp}{C:Cod}{S:St C}{ν:Val}{vs:Nat->List Value}{ids:List Nat}{L:List (Nat×Value)}{b:Nat->Value}{Z:FS}{PV:List Priv}{P:Program}
variable {x y z:Operand}{d:Nat}{ps:String}{af:Array Edge}{g:U7 (Nat×Bool)}{n:Nat}{w0:Start}{σ0:FS}{t ty:TypeId}
def ztn:VK->U7 Value->Bool
 | .i,E (.int .i64 0)=>G
 | .b,E (.bool N)=>G
 |_,_=>N
theorem zxp{v:VK}{z:U7 Value}(h:ztn v z=G):z=E (v.e v.z):=by
 unfold ztn at h;split at h<;>first | rfl | cases h
def zto:KK->TypeDesc->Bool
 | .s,.string=>G
 | .i,.int .i64=>G
 |_,_=>N
theorem zxq{k:KK}{d:TypeDesc}(h:zto k d=G):d=k.K.d:=by
 unfold zto at h;split at h<;>first | rfl | cases h
def zaf{β:Type}(P:Program)(S:St C)(t:TypeId)(x y:Operand)(f:(et id q T:Nat)->(b:ByteArray)->(s:Sl (C.D T))->(M:MapR C.D C.opv T)->M.k.ty->U7 β):U7 β:=match P.underlying t with
 |some (.map kt et)=>(match P.underlying kt,S.op x with
  |some kd,.row id=>(match S.heap id with
   |some (.obj q T b s)=>(match C.mp T with
    |some M=>(match M.k.dec (S.op y) with
     |some k=>chk (I q M.q && zto M.k kd) (f et id q T b s M k)
     |none=>F)
    |none=>F)
   |_=>F)
  |_,_=>F)
 |_=>F
theorem WK {β:Type}{t:TypeId}{f:(et id q T:Nat)->(b:ByteArray)->(s:Sl (C.D T))->(M:MapR C.D C.opv T)->M.k.ty->U7 β}{r:β}(h:zaf P S t x y f=E r) :
    ∃(kt et id T:Nat) (b:ByteArray) (s:Sl (C.D T)) (M:MapR C.D C.opv T) (k:M.k.ty),P.underlying t=E (.map kt et)/\P.underlying kt=E M.k.K.d/\S.op x = .row id/\S.heap id=E (.obj M.q T b s)/\M.k.dec (S.op y)=E k/\f et id M.q T b s M k=E r:=by
 unfold zaf at h;split at h
 · rename_i kt et h1;split at h
   · rename_i kd id h2 h3;split at h
     · rename_i q T b s h4;split at h
       · rename_i M h5;split at h
         ·rename_i k h6;let⟨c,hf⟩:=zb h;simp only[gf] at c;obtain rfl:=ge c.1;obtain rfl:=zxq c.2;exact⟨kt,et,id,T,b,s,M,k,h1,h2,h3,h4,h6,hf⟩
         ·cases h
       ·cases h
     ·cases h
   ·cases h
 ·cases h
def zga(P:Program)(S:St C)(d:Nat)(t:TypeId)(x y:Operand):U7 (Out C):=zaf P S t x y λet _ _ _ _ s M k=>match P.info? et with
 |some ti=>chk (ztn M.v ti.zero) (E (.go (S.put d (M.v.a (yj k M.v.z (M.l s))))))
 |none=>F
def zbN(P:Program)(S:St C)(t:TypeId)(x y z:Operand):U7 (Out C):=zaf P S t x y λ_ id q T b s M k=>match M.v.dec (S.op z) with
 |some v=>E (.go {S with heap:=upd S.heap id (E (.obj q T b (M.s (Yd k v (M.l s)))))})
 |none=>F
def wH(P:Program)(S:St C)(ts:Array TypeId)(x y:Operand):U7 (Out C):=match ts[0]? with
 |some t=>zaf P S t x y λ_ id q T b s M k=>E (.go {S with heap:=upd S.heap id (E (.obj q T b (M.s (Xk k (M.l s)))))})
 |none=>F
def Xz(S:St C)(d:Nat)(t:TypeId):U7 (Out C):=match C.mp t with
 |some M=>chk (isNone (S.heap (nid d 0))) (E (.go {env:=upd S.env d (.row (nid d 0)),heap:=upd S.heap (nid d 0) (E (.obj M.q t default (M.s [])))}))
 |none=>F
variable [Dfr]
theorem zkR(h:AbsL κ S ν vs ids L b Z PV)(hn:O d n=G):OpA κ P n w0 σ0 ⟨E d,.makeMap t F,ty,ps,af,g⟩ (Xz S d t) L b Z PV:=by
 intro out hX;unfold Xz at hX;split at hX
 ·rename_i M _;let⟨c0,hY⟩:=zb hX;exact zxo M h hn (Ze c0) out hY
 ·cases hX
theorem zrL(h:AbsL κ S ν vs ids L b Z PV)(hn:O d n=G):OpA κ P n w0 σ0 ⟨E d,.lookup t x y N,ty,ps,af,g⟩ (zga P S d t x y) L b Z PV:=by
 intro out hX;let⟨kt,et,id,T,b0,s,M,k,h1,h2,h3,h4,h5,hX⟩:=WK hX;split at hX
 ·rename_i ti hi;let⟨c,hX⟩:=zb hX;exact zrI M h hn h3 h4 (KK.dec_ok (h.op y) h5) h1 h2 hi (zxp c) out hX
 ·cases hX
theorem zmX(h:AbsL κ S ν vs ids L b Z PV):OpA κ P n w0 σ0 ⟨F,.mapUpdate t x y z,ty,ps,af,g⟩ (zbN P S t x y z) L b Z PV:=by
 intro out hX;let⟨kt,et,id,T,b0,s,M,k,h1,h2,h3,h4,h5,hX⟩:=WK hX;split at hX
 ·rename_i v hv;exact zrJ M h h3 h4 (KK.dec_ok (h.op y) h5) (VK.dec_ok (h.op z) hv) h1 h2 out hX
 ·cases hX
theorem zmY(h:AbsL κ S ν vs ids L b Z PV){ts:Array TypeId}:OpA κ P n w0 σ0 ⟨F,.call ⟨.builtin .delete, #[x,y],ts⟩,ty,ps,af,g⟩ (wH P S ts x y) L b Z PV:=by
 intro out hX;unfold wH at hX;split at hX
 ·rename_i t ht;let⟨kt,et,id,T,b0,s,M,k,h1,h2,h3,h4,h5,hX⟩:=WK hX;exact zrK M ht h h3 h4 (KK.dec_ok (h.op y) h5) h1 h2 out hX
 ·cases hX
end
variable [Dfr]
theorem Ext.of_below{w w':World}(h:qy w.heap.size w w'):Ext w zc.none w':=
 ⟨h.os,h.output,h.tape,h.size,λb =>.same λhb=>h.block b hb,λa ha _=>h.frozen ha⟩
theorem Inv.gain{w0:Start}{σ0 Z τ:FS}{PV:List Priv}{w w':World}(hi:Inv w0 σ0 Z PV w)(hb:qy w.heap.size w w')(hl:Z.le τ)(hn:∀b o v,τ b o=E v->Z b o=E v\/w.heap.size<=b/\w'.cell? ⟨b,o,F⟩=E v):Inv w0 σ0 τ PV w':=by
 have hx:=Ext.of_below hb;let⟨h,hs,hg⟩:=hi.own;have hold:∀b,b < w.heap.size->w'.heap[b]?=w.heap[b]?:=hb.block
 refine⟨λb o v hv=>?_,hi.le.trans hl,λb o v hv=>?_,⟨h,hs.mono hl (.refl _),⟨?_,λb o e=>?_,hg.mine⟩⟩,hi.ext.trans hx λb i _ e=>by cases e⟩
 ·rcases hn b o v hv with q | q
  ·exact hx.held (λb o e=>by cases e) hi.sub b o v q
  ·exact q.2
 ·rcases hn b o v hv with q | q
  ·exact hi.fresh b o v q
  ·have:=hi.ext.size;grind
 ·exact hx.frag (zc.none_disj _) hg.sub
 ·cases hv:τ b o with
  |none=>rfl
  |some v=>
   rcases hn b o v hv with q | q
   ·rw[hg.apart b o e] at q;cases q
   ·let⟨x,hx'⟩:=UQ.1 e;have:=Bit.at_lt (hg.sub b (o+1) x hx');omega
theorem Inv.below{w0:Start}{σ0 Z:FS}{PV:List Priv}{w w':World}(hi:Inv w0 σ0 Z PV w)(hb:qy w.heap.size w w'):Inv w0 σ0 Z PV w':=
 hi.gain hb (λ_ _ _ h=>h) λb o v h =>.inl h
section
variable {κ:Kp}{C:Cod}{S:St C}{ν:Val}{vs:Nat->List Value}{ids:List Nat}{L:List (Nat×Value)}{b:Nat->Value}{Z τ:FS}{PV:List Priv}{P:Program}
variable {t t' ty:TypeId}{x y z:Operand}{d:Nat}{ps:String}{af:Array Edge}{g:U7 (Nat×Bool)}{A:AV C.D}{n:Nat}{w0:Start}{σ0:FS}{o:Oper}{X:U7 (Out C)}
omit [Dfr] in
theorem AbsL.le(h:AbsL κ S ν vs ids L b Z PV)(l:Z.le τ):AbsL κ S ν vs ids L b τ PV:=
 ⟨⟨h.nd,h.dom,h.pv,λid cs e=>(h.cell id cs e).mono l,λt=>(h.env t).mono l,h.one⟩,h.live,h.livec,h.keep⟩
theorem zfp(w:World)(e:TypeId)(s:ByteArray):qy w.heap.size w (Lib.bytesWorld w e s):=by
 refine⟨?_,?_,?_,by rw[Lib.bytesWorld_size];omega,λk hk=>Lib.bytesWorld_at_old w e s k hk⟩<;>
  (unfold Lib.bytesWorld World.freeze;split<;>rfl)
def yC(P:Program)(S:St C)(d:Nat)(ty t:TypeId)(x:Operand)(lo hi:U7 Operand):U7 (Out C):=match S.op x with
 | .row id=>(yB P (S.frz1 id) ty (.slice t x lo hi F)).bind λA=>E (.go ((S.frz1 id).put d A))
 |_=>F
theorem ze3(h:AbsL κ S ν vs ids L b Z PV)(hn:O d n=G){lo hi:U7 Operand}:OpA κ P n w0 σ0 ⟨E d,.slice t x lo hi F,ty,ps,af,g⟩ (yC P S d ty t x lo hi) L b Z PV:=by
 intro out hX;unfold yC at hX;split at hX
 ·rename_i id e;let⟨A,he,hX⟩:=gd hX;cases hX;refine OpA.frz [id] ⟨ν,vs,ids,h⟩ (λZ' PV' h'=>?_) (X:=E (.go ((S.frz1 id).put d A))) _ rfl;let⟨ν',vs',ids',h'⟩:=h';exact zad h' hn he (zae h' he)
 ·cases hX
def zrM(S:St C)(d t:Nat)(cs:List (AV C.D)):U7 (Out C):=(C.imp t cs).bind λq=>E (.go (S.put d (.pz t q 0)))
theorem zrN(h:AbsL κ S ν vs ids L b Z PV)(hn:O d n=G)(hs:YQ (S.op x)=G):OpA κ P n w0 σ0 ⟨E d,.box t x,ty,ps,af,g⟩ (zrM S d t (zr (S.op x))) L b Z PV:=by
 intro out hX;let⟨q,hq,hX⟩:=gd hX;cases hX;let⟨hc,_⟩:=ZD (h.op x) hs h.one;intro a w hi hf K Q hK hP;refine zrs (H:=λ_ L' Z' PV'=>∃c:Addr,L'=(d,.pointer (E (c.add 0)))::L/\Z'=Z/\PV' = .cell c (opv L b x).cells.toList::PV) hn rfl (λc=>⟨c,rfl,rfl,rfl⟩) (E ()) rfl a w hi hf K Q ?_;intro p' L' Z' PV' a' w' hp hi' hf' hH;obtain⟨c,rfl,rfl,rfl⟩:=hH;let⟨h1,hh,hsub,hle,hi2⟩:=hi'.freeze (m:=0) rfl;have hh:Z2 c (opv L b x).cells.toList h1:=hh;refine hK _ rfl _ _ _ a' w' hi2 hf' ⟨ν,vs,ids,AbsL.put (h.le hle) (A :=.pz t q 0) ?_ trivial⟩;have hrel:=WI (ν:=ν) (hc.mono hle) hq;refine Rv.pz (λj=>((opv L b x).cells.toList[j]?).getD default) (λj A hj=>?_) (λj A hj=>?_)
 ·let⟨u,e1,e2⟩:=hrel.2 j A hj;rw[e1,Addr.add_eq _ hh.1];simpa[FS.cell] using Xx (Z:=Z') _ _ _ (hh.2 j u e1)
 ·let⟨u,e1,e2⟩:=hrel.2 j A hj;grind
end
variable [Dfr]
section
variable {C:Cod}{S:St C}{P:Program}{ρ:Type}
def zhu(P:Program)(S:St C)(t:TypeId)(A:AV C.D)(K:AV C.D->U7 ρ):U7 ρ:=match A with
 | .pr id T i off=>match S.heap id with
  |some (.row T' s)=>chk (I T T') ((za s i).bind λx=>(Yv P t (C.emb T' x) off).bind K)
  |some (.orow T' s g)=>chk (I T T') ((za s i).bind λx=>(Yv P t (zfm C T' x id i) off).bind K)
  |_=>F
 | .nx id T i (.elem U k off)=>zJ S id T i λU' u=>chk (I U U') ((za u k).bind λy=>(Yv P t (C.emb U' y) off).bind K)
 |A=>(x8 P S t A).bind K
theorem zt{α β:Type}{c:Bool}{x:U7 α}{k:α->U7 β}:(chk c x).bind k=chk c (x.bind k):=by cases c<;>rfl
theorem Yy{α β:Type}{id T:Nat}{i:Int}{K:(U:Nat)->Sl (C.D U)->U7 α}{k:α->U7 β}:(zJ S id T i K).bind k=zJ S id T i λU u=>(K U u).bind k:=by
 unfold zJ;split
 ·rw[zt,gh];grind
 ·rfl
theorem zoq{t:TypeId}{A:AV C.D}{K:AV C.D->U7 ρ}:zhu P S t A K=(x8 P S t A).bind K:=by
 unfold zhu;split
 ·rename_i id T i off;simp only[x8];cases S.heap id with
  |none=>rfl
  |some e=>
   cases e with
   |cell cs=>rfl
   |row T' s=>simp only[zt,gh]
   |obj q T b s=>rfl
   |orow T' s g=>simp only[zt,gh]
 ·rename_i id T i U k off;simp only[x8,Yy,zt,gh]
 ·rfl
def zfq(P:Program)(S:St C)(t:TypeId)(A B:AV C.D)(K:AV C.D->U7 ρ):U7 ρ:=match P.underlying t with
 |some (.slice e)=>(match P.info? e with
  |some ti=>(match A,B with
   | .sl T s _,.int _ i=>chk (I ti.size (C.size T)) ((za s i).bind λq=>K (.pz T q 0))
   | .row id,.int _ i=>(match S.heap id with
    |some (.row T s)=>chk (I ti.size (C.size T)) ((za s i).bind λ_=>K (.pr id T i 0))
    |some (.orow T s g)=>chk (I ti.size (C.size T)) ((za s i).bind λ_=>K (.pr id T i 0))
    |_=>F)
   | .nx id T i .whole,.int _ k=>zJ S id T i λU u=>chk (I ti.size (C.size U)) ((za u k).bind λ_=>K (.nx id T i (.elem U k 0)))
   | .nx id T i (.part U lo hi),.int _ k=>zJ S id T i λU' u=>chk (I U U' && I ti.size (C.size U)) ((z7 u lo hi).bind λu'=>(za u' k).bind λ_=>K (.nx id T i (.elem U (lo+k) 0)))
   |_,_=>F)
  |none=>F)
 |some (.array n e)=>(match P.info? e with
  |some ti=>(match A,B with
   | .pc id off,.int .i64 i=>chk (!I ti.size 0) (zda ti.size id off i n K)
   |_,_=>F)
  |none=>F)
 |_=>F
theorem zmZ{t:TypeId}{A B:AV C.D}{K:AV C.D->U7 ρ}:zfq P S t A B K=(XU P S t A B).bind K:=by
 unfold zfq XU;cases P.underlying t with
 |none=>rfl
 |some td=>
  cases td with
  |slice e=>
   simp only;cases P.info? e with
   |none=>rfl
   |some ti=>
    simp only;cases A<;>first | rfl | skip
    ·cases B<;>first | rfl | (simp only[zt,gh,jj])
    ·rename_i id;cases B<;>first | rfl | skip
     simp only;cases S.heap id with
     |none=>rfl
     |some en=>
      cases en with
      |cell cs=>rfl
      |row T s=>simp only[zt,gh,jj]
      |obj q T b s=>rfl
      |orow T s g=>simp only[zt,gh,jj]
    ·rename_i id T i x;cases x<;>cases B<;>first | rfl | simp only[Yy,zt,gh,jj]
  |array n e=>
   simp only;cases P.info? e with
   |none=>rfl
   |some ti=>
    simp only;cases A<;>first | rfl | skip
    cases B<;>first | rfl | skip
    rename_i kk i;cases kk<;>first | rfl | (simp only[zt,zip,jj])
  |_=>rfl
def zkS(n:Nat)(cs:List (AV C.D))(i:Int)(K:AV C.D->U7 ρ):U7 ρ:=chk (I n cs.length) (match zbF cs with
 |some l=>(vF l i).bind λs=>K (.str s)
 |none=>(match cs with
  | .int k _::_=>(zd9 k cs).bind λl=>(vF l i).bind λm=>K (.int k m)
  |_=>F))
theorem zrO{n:Nat}{cs:List (AV C.D)}{i:Int}{K:AV C.D->U7 ρ}:zkS n cs i K=(zf6 n cs i).bind K:=by
 unfold zkS zf6;rw[zt];congr 1;cases zbF cs with
 |some l=>grind
 |none=>
  grind
def zhv(P:Program)(t:TypeId)(A B:AV C.D)(K:AV C.D->U7 ρ):U7 ρ:=match P.underlying t,A,B with
 |some .string,.str s,.int _ i=>(Zg s i).bind λc=>K (.int .u8 c)
 |some (.array n e),.agg cs,.int _ i=>(match P.underlying e,P.info? e with
  |some td,E te=>chk (!Zh td && I te.size 1) (zkS n cs i K)
  |_,_=>F)
 |_,_,_=>F
theorem zor{t:TypeId}{A B:AV C.D}{K:AV C.D->U7 ρ}:zhv P t A B K=(za9 P t A B).bind K:=by
 unfold zhv za9;cases P.underlying t with
 |none=>rfl
 |some td=>
  cases td<;>first | rfl | skip
  ·grind
  ·rename_i n e;cases A<;>first | rfl | skip
   cases B<;>first | rfl | skip
   simp only;cases P.underlying e with
   |none=>rfl
   |some td=>cases P.info? e with
    |none=>rfl
    |some te=>simp only[zt,zrO]
def zfr(P:Program)(S:St C)(t:TypeId)(A:AV C.D)(lo hi:U7 Operand)(K:AV C.D->U7 ρ):U7 ρ:=match P.underlying t,A with
 |some .string,.str s=>(match Zm S 0 lo,Zm S s.size hi with
  |some i,E j=>(ZH s i j).bind λu=>K (.str u)
  |_,_=>F)
 |some (.slice e),.sl T s _=>(match P.info? e,Zm S 0 lo,Zm S s.len hi with
  |some ti,E i,E j=>chk (I ti.size (C.size T)) ((z7 s i j).bind λu=>K (.sl T u N))
  |_,_,_=>F)
 |some (.slice e),.nx id T k .whole=>(match P.info? e,Zm S 0 lo with
  |some ti,E i=>zJ S id T k λU u=>(match Zm S u.len hi with
   |some j=>chk (I ti.size (C.size U)) ((z7 u i j).bind λ_=>K (.nx id T k (.part U i j)))
   |none=>F)
  |_,_=>F)
 |_,_=>F
theorem zm0{t:TypeId}{A:AV C.D}{lo hi:U7 Operand}{K:AV C.D->U7 ρ}:zfr P S t A lo hi K=(Yp P S t A lo hi).bind K:=by
 unfold zfr Yp;cases P.underlying t with
 |none=>rfl
 |some td=>
  cases td<;>first | rfl | skip
  ·cases A<;>first | rfl | skip
   grind
  ·rename_i e;cases A<;>first | rfl | skip
   ·rename_i T s c;simp only;cases P.info? e with
    |none=>rfl
    |some ti=>cases Zm S 0 lo with
     |none=>rfl
     |some i=>cases Zm S s.len hi with
      |none=>rfl
      |some j=>simp only[zt,gh,jj]
   ·rename_i id T k x;cases x<;>first | rfl | skip
    simp only;cases P.info? e with
    |none=>rfl
    |some ti=>cases Zm S 0 lo with
     |none=>rfl
     |some i=>
      simp only[Yy];congr 1;funext U u;cases Zm S u.len hi with
      |none=>rfl
      |some j=>simp only[zt,gh,jj]
def zkT(P:Program)(S:St C)(t:TypeId)(bo:BinOp)(x y:Operand)(K:AV C.D->U7 ρ):U7 ρ:=match bo,S.op x,S.op y with
 | .quo,.int k i,.int k' j=>chk (!Yb y && decide (k=k')) ((zkx k i j).bind λq=>K (.int k q))
 | .rem,.int k i,.int k' j=>chk (!Yb y && decide (k=k')) ((zky k i j).bind λq=>K (.int k q))
 | .add,.str s,.str u=>chk (!Yb y && decide (s.size+u.size<=9223372036854775807)) (K (.str (s++u)))
 | .eql,.nx id T i .whole,.nils=>(match P.underlying t with
  |some (.slice _)=>chk (!Yb y) (zJ S id T i λ_ s=>K (.bool !s.nn))
  |_=>F)
 | .neq,.nx id T i .whole,.nils=>(match P.underlying t with
  |some (.slice _)=>chk (!Yb y) (zJ S id T i λ_ s=>K (.bool s.nn))
  |_=>F)
 |bo,_,_=>(x9 P S t bo x y).bind K
theorem w7{α:Type}{id T:Nat}{i:Int}:zJ S id T i (λ_ _=>(none:U7 α))=none:=by
 unfold zJ;split
 ·rename_i T' s g hs;cases hc:(I T T' && g.rd) with
  |false=>rfl
  |true=>
   show(za s i).bind _=F;cases za s i with
   |none=>rfl
   |some q=>grind
 ·rfl
theorem zrP{t:TypeId}{bo:BinOp}{x y:Operand}{K:AV C.D->U7 ρ}:zkT P S t bo x y K=(x9 P S t bo x y).bind K:=by
 unfold zkT;split
 ·rename_i k i k' j ex ey;unfold x9;cases hn:Yb y with
  |true=>
   have:=wO hn;subst this;cases ey
  |false=>
   simp only[UC,D8,qN,ex,ey,wo,wz,zd7];rw[zt,gh];rfl
 ·rename_i k i k' j ex ey;unfold x9;cases hn:Yb y with
  |true=>
   have:=wO hn;subst this;cases ey
  |false=>
   simp only[UC,D8,qN,ex,ey,wo,wz,zd7];rw[zt,gh];rfl
 ·rename_i s u ex ey;unfold x9;cases hn:Yb y with
  |true=>
   have:=wO hn;subst this;cases ey
  |false=>
   simp only[UC,D8,qN,ex,ey,wo,wz];rw[zt];rfl
 ·rename_i id T i ex ey;unfold x9;cases hn:Yb y with
  |true=>
   have:=wO hn;subst this;cases ey
  |false=>
   simp only[UC,D8,ex,ey,wo,Yy];cases P.underlying t with
   |none=>exact(w7 (S:=S) (id:=id) (T:=T) (i:=i)).symm
   |some td=>cases td<;>first | exact(w7 (S:=S) (id:=id) (T:=T) (i:=i)).symm | rfl
 ·rename_i id T i ex ey;unfold x9;cases hn:Yb y with
  |true=>
   have:=wO hn;subst this;cases ey
  |false=>
   simp only[UC,D8,ex,ey,wo,Yy];cases P.underlying t with
   |none=>exact(w7 (S:=S) (id:=id) (T:=T) (i:=i)).symm
   |some td=>cases td<;>first | exact(w7 (S:=S) (id:=id) (T:=T) (i:=i)).symm | rfl
 ·rfl
def zkU(P:Program)(S:St C)(t:TypeId)(A:AV C.D)(K:AV C.D->U7 ρ):U7 ρ:=match P.underlying t,A with
 |some (.slice _),.nx id T i .whole=>zJ S id T i λ_ u=>K (.int .i64 u.len)
 |some (.slice _),.nx id T k (.part U i j)=>zJ S id T k λU' u=>chk (I U U') ((z7 u i j).bind λ_=>K (.int .i64 (j - i)))
 |_,A=>(w5 P S t A).bind K
theorem zrQ{t:TypeId}{A:AV C.D}{K:AV C.D->U7 ρ}:zkU P S t A K=(w5 P S t A).bind K:=by
 unfold zkU;split
 ·rename_i hu;unfold w5;rw[hu];simp only[Yy,jj]
 ·rename_i hu;unfold w5;rw[hu];simp only[Yy,zt,gh,jj]
 ·rfl
def zed(P:Program)(S:St C)(ty:TypeId)(op:Op)(K:AV C.D->U7 ρ):U7 ρ:=match op with
 | .load t x=>zhu P S t (S.op x) K
 | .indexAddr t x y=>zfq P S t (S.op x) (S.op y) K
 | .index t x y=>zhv P t (S.op x) (S.op y) K
 | .slice t x lo hi F=>zfr P S t (S.op x) lo hi K
 | .binOp bo t x y _=>zkT P S t bo x y K
 | .call ⟨.builtin .len,args,ts⟩=>(match args.toList,ts.toList with
  |[x],[t]=>zkU P S t (S.op x) K
  |_,_=>F)
 |op=>(yB P S ty op).bind K
theorem zbO{ty:TypeId}{op:Op}{K:AV C.D->U7 ρ}:zed P S ty op K=(yB P S ty op).bind K:=by
 unfold zed;split
 ·exact zoq
 ·exact zmZ
 ·exact zor
 ·exact zm0
 ·exact zrP
 ·rename_i args ts;unfold yB;dsimp only;cases args.toList with
  |nil=>rfl
  |cons x l=>cases l with
   |nil=>cases ts.toList with
    |nil=>rfl
    |cons t r=>cases r with
     |nil=>exact zrQ
     |cons=>rfl
   |cons=>rfl
 ·rfl
end
end
end Go.Px
