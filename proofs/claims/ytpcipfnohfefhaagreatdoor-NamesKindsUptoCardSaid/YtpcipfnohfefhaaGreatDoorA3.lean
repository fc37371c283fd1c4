/- Part A3: PxM1 PxMH PxM2 PxM3 PxM4 PxM5 PxM6 PxM7 PxM8  -/
import Derived.Test.YtpcipfnohfefhaaGreatDoorA2
import Derived.Below
import Derived.Lib.ConvBytes
import Derived.Laws.BytesString
set_option linter.unusedSectionVars false
set_option linter.unusedVariables false
set_option linter.unusedSimpArgs false
namespace Go.Px
section
theorem U1:(!false)=true:=@Bool.not_false
theorem U0:∀{α:Type _}{β:Type _}{b:β}{f:α->β}{l:List α},b∈List.map f l↔∃ a,a∈l/\f a=b:=@List.mem_map
theorem Uz:∀{α:Type _}(y:α){a:α}{l:List α},a∈l->a∈y::l:=@List.mem_cons_of_mem
theorem Uy:∀{α:Type _}{β:Type _}{«as»:List α}(f:α->β),(List.map f «as»).length=«as».length:=@List.length_map
theorem Ux:∀{α:Type _}{l:List α}{α_1:Type _}{f g:α->α_1},(∀ (a:α),a∈l->f a=g a)->List.map f l=List.map g l:=@List.map_congr_left
theorem Uw:∀{α:Type _}{a b:α},a∈[b]↔a=b:=@List.mem_singleton
theorem Uv:∀{α:Sort _}(a b:α),(bif true then a else b)=a:=@cond_true
theorem Uu:∀{α:Type _}{p:α->Bool}{l:List α},l.all p=true↔∀ (x:α),x∈l->p x=true:=@List.all_eq_true
theorem Ut:∀ (b:Bool),((!b)=true)=(b=false):=@Bool.not_eq_true'
theorem Us:∀{p:Prop}[inst:Decidable p],decide p=true->p:=@of_decide_eq_true
theorem Ur:∀{α:Type _}{α_1:Type _}{f:Nat->α->α_1}{l:List α}{i:Nat},(List.mapIdx f l)[i]? =Option.map (f i) l[i]?:=@List.getElem?_mapIdx
variable [Dfr]
inductive NX where
 |whole
 |part (U:Nat) (lo hi:Int)
 |elem (U:Nat) (k:Int) (off:Nat)
inductive AV (D:Nat->Type) where
 |int (k:IntKind) (n:Int)
 |bool (b:Bool)
 |str (s:ByteArray)
 |agg (cs:List (AV D))
 |tup (vs:List (AV D))
 |sl (T:Nat) (s:Sl (D T)) (clip:Bool)
 |row (id:Nat)
 |pc (id off:Nat)
 |pr (id T:Nat) (i:Int) (off:Nat)
 |nx (id T:Nat) (i:Int) (x:NX)
 |pz (T:Nat) (x:D T) (off:Nat)
 |pnil
 |nils
 |clo (f:Nat) (caps:List (AV D))
 |nilf
 |ifc (t:Nat) (v:AV D)
 |nili
 |und
def AV.leaf {D:Nat->Type}:AV D->Bool
 | .agg _=>false
 | .tup _=>false
 | .und=>false
 |_=>true
def AV.base {D:Nat->Type}:AV D->Bool
 | .int _ _=>true
 | .bool _=>true
 | .str _=>true
 | .sl _ _ c=> !c
 | .pz _ _ _=>true
 | .pnil=>true
 | .clo _ cs=>cs.isEmpty
 | .nilf=>true
 | .ifc _ A=>A.base
 | .nili=>true
 |_=>false
def AV.num {D:Nat->Type}:AV D->Bool
 | .int _ _=>true
 | .bool _=>true
 | .str _=>true
 |_=>false
def leA {D:Nat->Type}(A B:AV D):Prop:=A=B\/(∃ T s c,A = .sl T s c/\B = .sl T s false)\/∃ T c,A = .nils/\B = .sl T ⟨[],false⟩ c
def zd4 {D:Nat->Type}:List (AV D)->List (AV D)->Prop
 |[],[]=>True
 |a::as,b::bs=>leA a b/\zd4 as bs
 |_,_=>False
structure Cod where
 D:Nat->Type
 size:Nat->Nat
 agg:Nat->Bool
 emb:(T:Nat)->D T->List (AV D)
 imp:(T:Nat)->List (AV D)->G3 (D T)
 len:∀ T x,(emb T x).length=size T
 base:∀ T x A,A∈emb T x->A.base=true
 sz:∀ T,agg T=false->size T=1
 imp_ok:∀ T cs x,imp T cs=some x->zd4 cs (emb T x)
 gl:World->FS->Prop
 opv:Nat->(T:Nat)->Value->Addr->ByteArray->Sl (D T)->Priv
 oal:Nat->List Value->G3 (Nat×Nat)
 oal_ok:∀ t zs k T,oal t zs=some (k,T)->∀ (q:Nat) (hdr:Value) (Z:FS) (h:zc),(z8 q t zs.toArray).le h->(opv k T hdr ⟨q,0,none⟩ ⟨#[]⟩ ⟨[],false⟩).holds Z h
 mps:(T:Nat)->G3 (MapR D opv T MKey.str)
 mpi:(T:Nat)->G3 (MapR D opv T MKey.i64)
 lfs:Nat->List (G3 Nat)
 lfs_ok:∀ (T:Nat) (x:D T) (j:Nat) (A:AV D),(emb T x)[j]?=some A->A.num=true\/(∃ U s,A = .sl U s false/\(lfs T)[j]?=some (some U))\/∃ U x,A = .pz U x 0/\(lfs T)[j]?=some (some U)
 nst:Nat->Nat
 own:Nat->Bool
 bz:Nat->Bool
 glm:∀ {Z τ:FS} {w w':World} {h:zc},Z.le τ->Ext w h w'->gl w Z->gl w' τ
section
variable {C:Cod}
inductive Rv (C:Cod) (Z:FS):Value->AV C.D->Prop where
  |int {k n}:Rv C Z (.int k n) (.int k n)
  |bool {b}:Rv C Z (.bool b) (.bool b)
  |str {s}:Rv C Z (.string s) (.str s)
  |sl {T} {s:Sl (C.D T)} {clip:Bool} {a:G3 Addr} {n c:Nat} (cell:Nat->Nat->Value):n=s.xs.length->a.isSome=s.nn->n<=c->c<=maxLen->(a=none->n=0/\c=0)->(clip=true->c=n)->
      (∀ (i:Nat) x (j:Nat) A,s.xs[i]?=some x->(C.emb T x)[j]?=some A->∃ ad:Addr,a=some ad/\Z.cell (ad.add (i * C.size T+j))=some (cell i j))->
      (∀ (i:Nat) x (j:Nat) A,s.xs[i]?=some x->(C.emb T x)[j]?=some A->Rv C Z (cell i j) A)->Rv C Z (.slice a n c) (.sl T s clip)
  |pz {T} {x:C.D T} {off:Nat} {ad:Addr} (cell:Nat->Value):(∀ (j:Nat) A,(C.emb T x)[j]?=some A->Z.cell (ad.add j)=some (cell j))->
      (∀ (j:Nat) A,(C.emb T x)[j]?=some A->Rv C Z (cell j) A)->Rv C Z (.pointer (some (ad.add off))) (.pz T x off)
  |pnil:Rv C Z (.pointer none) .pnil
  |clo {f}:Rv C Z (.func (.func f) #[] #[]) (.clo f [])
  |nilf:Rv C Z .nilFunc .nilf
  |ifc {t u A}:Rv C Z u A->Rv C Z (.iface t u) (.ifc t A)
  |nili:Rv C Z .nilIface .nili
variable {Z τ:FS}
omit [Dfr] in
theorem Rv.mono (l:Z.le τ) {v:Value}{A:AV C.D}(h:Rv C Z v A):Rv C τ v A:=by
 induction h with
 |int=>exact .int
 |bool=>exact .bool
 |str=>exact .str
 |sl cell h1 h2 h3 h4 h5 h6 h7 h8 ih=>
  refine .sl cell h1 h2 h3 h4 h5 h6 (fun i x j A hi hj=>?_) ih;obtain ⟨ad,e,hc⟩:=h7 i x j A hi hj;exact ⟨ad,e,l.cell hc⟩
 |pz cell h1 h2 ih=>exact .pz cell (fun j A hj=>l.cell (h1 j A hj)) ih
 |pnil=>exact .pnil
 |clo=>exact .clo
 |nilf=>exact .nilf
 |ifc _ ih=>exact .ifc ih
 |nili=>exact .nili
omit [Dfr] in
theorem Rv.one {v:Value}{A:AV C.D}(h:Rv C Z v A):v.oneCell'=true:=by cases h <;> rfl
omit [Dfr] in
theorem Rv.leaf {v:Value}{A:AV C.D}(h:Rv C Z v A):A.leaf=true:=by cases h <;> rfl
omit [Dfr] in
def zE (C:Cod) (T:Nat):Ty (C.D T) where
 size:=C.size T
 agg:=C.agg T
 rel Z cs x:=cs.length=C.size T/\∀ (j:Nat) A,(C.emb T x)[j]?=some A->∃ u,cs[j]?=some u/\Rv C Z u A
 len h:=h.1
 mono l h:=⟨h.1,fun j A hj=>let ⟨u,h1,h2⟩:=h.2 j A hj;⟨u,h1,h2.mono l⟩⟩
 one:=by
  intro Z cs x h u hu;obtain ⟨j,hj⟩:=List.mem_iff_getElem?.1 hu;have hlt:=(GC.1 hj).1;have:j < (C.emb T x).length:=by rw [C.len,<- h.1];exact hlt
  obtain ⟨w,h1,h2⟩:=h.2 j _ (GI this);rw [hj] at h1;cases h1;exact h2.one
 sz:=C.sz T
theorem zgH {T:Nat}{xs:List (C.D T)}{cs:List Value}:(zE C T).rels Z cs xs↔cs.length=xs.length * C.size T/\∀ (i:Nat) x (j:Nat) A,xs[i]?=some x->(C.emb T x)[j]?=some A->∃ u,cs[i * C.size T+j]?=some u/\Rv C Z u A:=by
 constructor
 ·intro r;refine ⟨(zE C T).rels_len r,fun i x j A hi hj=>?_⟩;obtain ⟨_,h⟩:=(zE C T).rels_get i r hi;obtain ⟨u,h1,h2⟩:=h j A hj;refine ⟨u,?_,h2⟩;have hjl:j < C.size T:=by grind
  rw [Ug (show j < (zE C T).size from hjl),Uh] at h1;exact h1
 ·rintro ⟨hl,h⟩;refine Ty.rels_of hl fun i x hi=>?_
  have hil:=(GC.1 hi).1;refine ⟨?_,fun j A hj=>?_⟩
  ·show (List.take (C.size T) (List.drop (i * C.size T) cs)).length=C.size T;simp only [Uk,GQ,hl];have:(i+1) * C.size T<=xs.length * C.size T:=Uj _ hil;grind
  ·obtain ⟨u,h1,h2⟩:=h i x j A hi hj;have hjl:j < C.size T:=by rw [<- C.len T x];grind
   refine ⟨u,?_,h2⟩;show (List.take (C.size T) (List.drop (i * C.size T) cs))[j]?=some u;grind
omit [Dfr] in
theorem Rv.slAt {T:Nat}{s:Sl (C.D T)}{clip:Bool}{v:Value}(h:Rv C Z v (.sl T s clip)):∃ a n c,v = .slice a n c/\slAt (zE C T) Z a n c s/\(clip=true->c=n):=by
 cases h with
 | @sl _ _ _ a n c cell h1 h2 h3 h4 h5 h6 h7 h8=>
  refine ⟨a,n,c,rfl,⟨h1,h2,h3,h4,h5,?_⟩,h6⟩
  let cells:List Value:=(List.range (s.xs.length * C.size T)).map fun k=>cell (k / C.size T) (k % C.size T)
  have key:∀ (i:Nat) x (j:Nat) A,s.xs[i]?=some x->(C.emb T x)[j]?=some A->cells[i * C.size T+j]?=some (cell i j):=by
   intro i x j A hi hj;have hjl:j < C.size T:=by rw [<- C.len T x];grind
   have hil:=(GC.1 hi).1;have hlt:i * C.size T+j < s.xs.length * C.size T:=by
    have:(i+1) * C.size T<=s.xs.length * C.size T:=Uj _ hil;grind
   have hd:(i * C.size T+j) / C.size T=i:=by rw [Nat.mul_comm,Nat.mul_add_div (by omega),Nat.div_eq_of_lt hjl];rfl
   have hm:(i * C.size T+j) % C.size T=j:=by rw [Nat.mul_comm,Nat.mul_add_mod,Nat.mod_eq_of_lt hjl]
   show ((List.range (s.xs.length * C.size T)).map fun k=>cell (k / C.size T) (k % C.size T))[i * C.size T+j]?=some (cell i j);grind
  refine ⟨cells,zgH.2 ⟨by simp [cells],fun i x j A hi hj=>⟨_,key i x j A hi hj,h8 i x j A hi hj⟩⟩,fun k u hk=>?_⟩;have hkl:k < s.xs.length * C.size T:=by grind
  have h0:0 < C.size T:=by
   grind
  have hi:k / C.size T < s.xs.length:=by rw [Nat.div_lt_iff_lt_mul h0];exact hkl
  have hm:=Nat.mod_lt k h0;have hdm:k / C.size T * C.size T+k % C.size T=k:=by rw [Nat.mul_comm];exact Nat.div_add_mod k _
  have hj:k % C.size T < (C.emb T s.xs[k / C.size T]).length:=by rw [C.len];exact hm
  have e1:=key _ _ _ _ (GI hi) (GI hj);obtain ⟨ad,ha,hc⟩:=h7 _ _ _ _ (GI hi) (GI hj);grind
theorem Rv.of_slAt {T:Nat}{s:Sl (C.D T)}{clip:Bool}{a:G3 Addr}{n c:Nat}(h:Px.slAt (zE C T) Z a n c s) (hc:clip=true->c=n):Rv C Z (.slice a n c) (.sl T s clip):=by
 obtain ⟨h1,h2,h3,h4,h5,cells,h6,h7⟩:=h;obtain ⟨hl,h8⟩:=zgH.1 h6;refine .sl (fun i j=>(cells[i * C.size T+j]?).getD default) h1 h2 h3 h4 h5 hc (fun i x j A hi hj=>?_) (fun i x j A hi hj=>?_)
 ·grind
 grind
omit [Dfr] in
theorem Rv.vrel {T:Nat}{s:Sl (C.D T)}{clip:Bool}{v:Value}(h:Rv C Z v (.sl T s clip)):(tSl (zE C T)).vrel Z v s:=by
 obtain ⟨a,n,c,rfl,h,_⟩:=h.slAt;exact Yv.2 ⟨a,n,c,rfl,h⟩
theorem Rv.of_vrel {T:Nat}{s:Sl (C.D T)}{v:Value}(h:(tSl (zE C T)).vrel Z v s):Rv C Z v (.sl T s false):=by
 obtain ⟨a,n,c,rfl,k⟩:=Yv.1 h;exact .of_slAt k (by simp)
structure Loc where
 a:Addr
 sub:Nat->Value
instance:Inhabited Loc:=⟨⟨default,fun _ =>.slice none 0 0⟩⟩
abbrev Loc.add (l:Loc) (o:Nat):Addr:=l.a.add o
structure Val where
 hdr:Nat->Value
 adr:Nat->Loc
def NX.val (C:Cod) (h:Value):NX->Value
 | .whole=>h
 | .part U lo hi=>WH h lo hi (C.size U)
 | .elem U k off =>.pointer (some (zh h (k.toNat * C.size U+off)))
def V9 (f:Nat):List Value->Value
 |[.tuple a] =>.func (.func f) a #[]
 |vs =>.func (.func f) #[] vs.toArray
theorem zkS (f:Nat) {vs:List Value}(h:∀ v∈vs,v.oneCell'=true):V9 f vs = .func (.func f) #[] vs.toArray:=by
 unfold V9;split
 ·rename_i a;have:=h (.tuple a) (by simp);cases this
 ·rfl
theorem zpZ (f:Nat) (vs:List Value):(V9 f vs).oneCell'=true:=by
 unfold V9;split <;> rfl
mutual
def VR (C:Cod) (Z:FS) (ν:Val):Value->AV C.D->Prop
 |v,.row id=>v=ν.hdr id
 |v,.pc id off=>v = .pointer (some ((ν.adr id).add off))
 |v,.pr id T i off=>v = .pointer (some (zh (ν.hdr id) (i.toNat * C.size T+off)))
 |v,.nx id _ i x=>v=x.val C ((ν.adr id).sub i.toNat)/\v.oneCell'=true
 |v,.agg cs=>∃ vs:List Value,v = .agg vs.toArray/\VRs C Z ν vs cs
 |v,.tup cs=>∃ vs:List Value,v = .tuple vs.toArray/\VRs C Z ν vs cs
 |v,.clo f caps=>∃ vs:List Value,v=V9 f vs/\VRs C Z ν vs caps
 |v,.ifc t A=>∃ u,v = .iface t u/\VR C Z ν u A
 |_,.und=>True
 |v,.nils=>v = .slice none 0 0
 |v,A=>Rv C Z v A
def VRs (C:Cod) (Z:FS) (ν:Val):List Value->List (AV C.D)->Prop
 |[],[]=>True
 |v::vs,A::As=>VR C Z ν v A/\VRs C Z ν vs As
 |_,_=>False
end
variable {ν:Val}
omit [Dfr] in
theorem VR.mono (l:Z.le τ):∀ {A:AV C.D}{v:Value},VR C Z ν v A->VR C τ ν v A
 | .row _,_,h=>h
 | .pc _ _,_,h=>h
 | .pr _ _ _ _,_,h=>h
 | .nx _ _ _ _,_,h=>h
 | .agg cs,_,⟨vs,e,h⟩=>⟨vs,e,go vs cs h⟩
 | .tup cs,_,⟨vs,e,h⟩=>⟨vs,e,go vs cs h⟩
 | .clo _ cs,_,⟨vs,e,h⟩=>⟨vs,e,go vs cs h⟩
 | .ifc _ A,_,⟨u,e,h⟩=>⟨u,e,VR.mono l h⟩
 | .und,_,_=>trivial
 | .nils,_,h=>h
 | .int _ _,_,h=>Rv.mono l h
 | .bool _,_,h=>Rv.mono l h
 | .str _,_,h=>Rv.mono l h
 | .sl _ _ _,_,h=>Rv.mono l h
 | .pz _ _ _,_,h=>Rv.mono l h
 | .pnil,_,h=>Rv.mono l h
 | .nilf,_,h=>Rv.mono l h
 | .nili,_,h=>Rv.mono l h
where go:∀ (vs:List Value) (cs:List (AV C.D)),VRs C Z ν vs cs->VRs C τ ν vs cs
 |[],[],_=>trivial
 |_::vs,_::cs,⟨h,k⟩=>⟨VR.mono l h,go vs cs k⟩
 |[],_::_,h=>h.elim
 |_::_,[],h=>h.elim
omit [Dfr] in
theorem VRs.mono (l:Z.le τ) {vs:List Value}{cs:List (AV C.D)}(h:VRs C Z ν vs cs):VRs C τ ν vs cs:=VR.mono.go l vs cs h
theorem Rv.vr:∀ {A:AV C.D}{v:Value},Rv C Z v A->VR C Z ν v A
 |_,_,h=>by
  induction h with
  |int=>exact .int
  |bool=>exact .bool
  |str=>exact .str
  |sl cell h1 h2 h3 h4 h5 h6 h7 h8 ih=>exact Rv.sl cell h1 h2 h3 h4 h5 h6 h7 h8
  |pz cell h1 h2 ih=>exact Rv.pz cell h1 h2
  |pnil=>exact .pnil
  |clo=>exact ⟨[],rfl,trivial⟩
  |nilf=>exact .nilf
  |ifc _ ih=>exact ⟨_,rfl,ih⟩
  |nili=>exact .nili
omit [Dfr] in
theorem VR.rv:∀ {A:AV C.D}{v:Value},A.base=true->VR C Z ν v A->Rv C Z v A
 | .int _ _,_,_,h=>h
 | .bool _,_,_,h=>h
 | .str _,_,_,h=>h
 | .sl _ _ _,_,_,h=>h
 | .pz _ _ _,_,_,h=>h
 | .pnil,_,_,h=>h
 | .nilf,_,_,h=>h
 | .nili,_,_,h=>h
 | .clo f [],_,_,⟨vs,e,h⟩=>by
  cases vs with
  |nil=>rw [e];exact .clo
  |cons=>exact h.elim
 | .ifc t A,_,hb,⟨u,e,h⟩=>by rw [e];exact .ifc (VR.rv (A:=A) hb h)
omit [Dfr] in
theorem VR.one:∀ {A:AV C.D}{v:Value},VR C Z ν v A->A.leaf=true->(∀ i,(ν.hdr i).oneCell'=true)->v.oneCell'=true
 | .row _,_,h,_,hh=>by rw [h];exact hh _
 | .pc _ _,_,h,_,_=>by rw [h];rfl
 | .pr _ _ _ _,_,h,_,_=>by rw [h];rfl
 | .nx _ _ _ _,_,h,_,_=>h.2
 | .clo _ cs,_,⟨vs,e,h⟩,_,_=>by rw [e];exact zpZ _ _
 | .ifc _ A,_,⟨u,e,h⟩,_,_=>by rw [e];rfl
 | .nils,_,h,_,_=>by rw [h];rfl
 | .int _ _,_,h,_,_=>Rv.one h
 | .bool _,_,h,_,_=>Rv.one h
 | .str _,_,h,_,_=>Rv.one h
 | .sl _ _ _,_,h,_,_=>Rv.one h
 | .pz _ _ _,_,h,_,_=>Rv.one h
 | .pnil,_,h,_,_=>Rv.one h
 | .nilf,_,h,_,_=>Rv.one h
 | .nili,_,h,_,_=>Rv.one h
omit [Dfr] in
theorem VRs.len:∀ {vs:List Value}{cs:List (AV C.D)},VRs C Z ν vs cs->vs.length=cs.length
 |[],[],_=>rfl
 |_::vs,_::cs,⟨_,k⟩=>by simp [VRs.len k]
 |[],_::_,h=>h.elim
 |_::_,[],h=>h.elim
omit [Dfr] in
theorem VRs.get:∀ {vs:List Value}{cs:List (AV C.D)},VRs C Z ν vs cs->∀ (j:Nat) A,cs[j]?=some A->∃ u,vs[j]?=some u/\VR C Z ν u A
 |[],[],_,j,A,h=>by simp at h
 |v::vs,B::cs,⟨h,k⟩,0,A,e=>by grind
 |v::vs,B::cs,⟨h,k⟩,j+1,A,e=>by simpa using k.get j A (by simpa using e)
 |[],_::_,h,_,_,_=>h.elim
 |_::_,[],h,_,_,_=>h.elim
omit [Dfr] in
theorem VRs.of:∀ {vs:List Value}{cs:List (AV C.D)},vs.length=cs.length->(∀ (j:Nat) u A,vs[j]?=some u->cs[j]?=some A->VR C Z ν u A)->VRs C Z ν vs cs
 |[],[],_,_=>trivial
 |v::vs,B::cs,hl,h=>⟨h 0 v B rfl rfl,VRs.of (by simpa using hl) fun j u A h1 h2=>h (j+1) u A (by simpa using h1) (by simpa using h2)⟩
 |[],_::_,hl,_=>by simp at hl
 |_::_,[],hl,_=>by simp at hl
omit [Dfr] in
theorem VRs.rel {vs:List Value}{cs:List (AV C.D)}(h:VRs C Z ν vs cs) {j:Nat}{u:Value}{A:AV C.D}(h1:vs[j]?=some u) (h2:cs[j]?=some A):VR C Z ν u A:=by
 obtain ⟨w,e,k⟩:=h.get j A h2;grind
omit [Dfr] in
theorem VRs.drop {vs:List Value}{cs:List (AV C.D)}(h:VRs C Z ν vs cs) (m:Nat):VRs C Z ν (vs.drop m) (cs.drop m):=
 .of (by simp [h.len]) fun j u A h1 h2=>h.rel (j:=m+j) (by simpa using h1) (by simpa using h2)
omit [Dfr] in
theorem VRs.take {vs:List Value}{cs:List (AV C.D)}(h:VRs C Z ν vs cs) (m:Nat):VRs C Z ν (vs.take m) (cs.take m):=
 .of (by simp [h.len]) fun j u A h1 h2=>by
  rw [List.getElem?_take] at h1 h2;split at h1
  ·rename_i hlt;rw [jr hlt] at h2;exact h.rel h1 h2
  ·cases h1
omit [Dfr] in
theorem VRs.append:∀ {vs us:List Value}{cs ds:List (AV C.D)},VRs C Z ν vs cs->VRs C Z ν us ds->VRs C Z ν (vs++us) (cs++ds)
 |[],_,[],_,_,k=>k
 |_::vs,_,_::cs,_,⟨h,h'⟩,k=>⟨h,VRs.append h' k⟩
 |[],_,_::_,_,h,_=>h.elim
 |_::_,_,[],_,h,_=>h.elim
def zq {D:Nat->Type}:AV D->List (AV D)
 | .agg cs=>cs
 |v=>[v]
def zaQ {D:Nat->Type}(agg:Bool) (cs:List (AV D)):AV D:=bif agg then .agg cs else match cs with
 |[c]=>c
 |_ =>.und
omit [Dfr] in
theorem VRs.val {vs:List Value}{cs:List (AV C.D)}{agg:Bool}(h:VRs C Z ν vs cs):VR C Z ν (yu agg vs) (zaQ agg cs):=by
 cases agg with
 |true=>exact ⟨vs,rfl,h⟩
 |false=>
  match vs,cs,h with
  |[],[],_=>trivial
  |[u],[A],h=>exact h.1
  |_::_::_,_::_::_,h=>trivial
omit [Dfr] in
theorem VR.cells:∀ {A:AV C.D}{v:Value},VR C Z ν v A->A.leaf=true\/(∃ cs,A = .agg cs)->(∀ i,(ν.hdr i).oneCell'=true)->VRs C Z ν v.cells.toList (zq A):=by
 intro A v h hl hh;rcases hl with hl | ⟨cs,rfl⟩
 ·have:=h.one hl hh;have e:v.cells.toList=[v]:=by cases v <;> simp_all [Value.oneCell',Value.cells]
  have e2:zq A=[A]:=by cases A <;> first | rfl | cases hl
  rw [e,e2];exact ⟨h,trivial⟩
 ·obtain ⟨vs,rfl,h⟩:=h;simpa [Value.cells,zq] using h
end
end
section
variable [Dfr]
inductive Own where
 |all
 |out (i:Int)
 |upto (k:Int)
 |fix
def Own.fl:Own->Nat->Nat
 | .all,_=>1
 | .out i,j=>if j=i.toNat then 2 else 1
 | .upto k,j=>if j < k.toNat then 1 else 0
 | .fix,_=>1
section
variable {C:Cod}{Z τ:FS}{ν:Val}
def Z1 (C:Cod) (T:Nat) (x:C.D T):AV C.D:=((C.emb T x)[C.nst T]?).getD .und
def yP (C:Cod) (T:Nat) (Z:FS) (h:zc) (cs:List Value) (p:C.D T×Nat×Value):Prop:=
 cs.length=C.size T/\(∀ u∈cs,u.oneCell'=true)/\(∀ (j:Nat) A,(C.emb T p.1)[j]?=some A->j≠C.nst T->∃ u,cs[j]?=some u/\Rv C Z u A)/\cs[C.nst T]?=some p.2.2/\
 (p.2.1=0->Rv C Z p.2.2 (Z1 C T p.1))/\(p.2.1=1->∃ U s,Z1 C T p.1 = .sl U s false/\zo (zE C U).o U p.2.2 s Z h)
omit [Dfr] in
theorem yP.mono {T:Nat}{h g:zc}{cs:List Value}{p:C.D T×Nat×Value}(l:Z.le τ) (m:h.le g) (r:yP C T Z h cs p):yP C T τ g cs p:=by
 obtain ⟨h1,h2,h3,h4,h5,h6⟩:=r;refine ⟨h1,h2,fun j A hj hn=>?_,h4,fun e=>(h5 e).mono l,fun e=>?_⟩
 ·obtain ⟨u,k1,k2⟩:=h3 j A hj hn;exact ⟨u,k1,k2.mono l⟩
 ·obtain ⟨U,s,k1,k2⟩:=h6 e;exact ⟨U,s,k1,k2.mono l m⟩
def Zh (C:Cod) (T:Nat):OTy (C.D T×Nat×Value) where
 size:=C.size T
 agg:=C.agg T
 rel Z h cs p:=yP C T Z h cs p
 len h:=h.1
 mono l m r:=r.mono l m
 one r:=r.2.1
 sz:=C.sz T
theorem yP.nlt {T:Nat}{h:zc}{cs:List Value}{p:C.D T×Nat×Value}(r:yP C T Z h cs p):C.nst T < C.size T:=by
 have:=(GC.1 r.2.2.2.1).1;rw [<- r.1];exact this
def zd5 (C:Cod) (T:Nat) (x:C.D T) (id:Nat) (i:Int):List (AV C.D):=(C.emb T x).set (C.nst T) (.nx id T i .whole)
theorem yP.vrs {T id:Nat}{i:Int}{x:C.D T}{f:Nat}{h:zc}{cs:List Value}(r:yP C T Z h cs (x,f,(ν.adr id).sub i.toNat)):VRs C Z ν cs (zd5 C T x id i):=by
 refine .of (by rw [r.1,zd5,List.length_set,C.len]) fun j u A h1 h2=>?_
 unfold zd5 at h2;rw [GH] at h2;split at h2
 ·rename_i e;subst e;split at h2
  ·cases h2;have h4:=r.2.2.2.1;rw [h1] at h4;refine ⟨Option.some.inj h4,?_⟩;exact r.2.1 u (GS h1)
  ·cases h2
 ·rename_i e;obtain ⟨w,k1,k2⟩:=r.2.2.1 j A h2 (fun e'=>e e'.symm);rw [h1] at k1;cases k1;exact k2.vr
def hpl (C:Cod) (T:Nat) (sub:Nat->Value) (s:Sl (C.D T)) (g:Own):Sl (C.D T×Nat×Value):=⟨s.xs.mapIdx fun j x=>(x,g.fl j,sub j),s.nn⟩
theorem wY {T:Nat}{sub:Nat->Value}{s:Sl (C.D T)}{g:Own}:(hpl C T sub s g).xs.length=s.xs.length:=by simp [hpl]
theorem zok {T:Nat}{sub:Nat->Value}{s:Sl (C.D T)}{g:Own}:(hpl C T sub s g).len=s.len:=by simp [hpl,Sl.len]
theorem wZ {T:Nat}{sub:Nat->Value}{s:Sl (C.D T)}{g:Own}{i:Int}{q:C.D T}(h:zd s i=some q):zd (hpl C T sub s g) i=some (q,g.fl i.toNat,sub i.toNat):=by
 obtain ⟨h0,h1⟩:=yB.1 h;exact yB.2 ⟨h0,by simp [hpl,h1]⟩
theorem zcZ {T:Nat}{sub sub':Nat->Value}{s:Sl (C.D T)}{g g':Own}{i:Int}{q':C.D T}(h1:∀ j,j < s.xs.length->j≠i.toNat->g'.fl j=g.fl j/\sub' j=sub j) :
    (hpl C T sub s g).set i (q',g'.fl i.toNat,sub' i.toNat)=hpl C T sub' (s.set i q') g':=by
  unfold hpl Sl.set;congr 1;apply GG;intro j;rw [GH,Ur,Ur,GH];by_cases e:i.toNat=j
  ·grind
  · rw [js e,js e];cases hj:s.xs[j]? with
    |none=>rfl
    |some y=>
      grind
theorem zb9 {T:Nat}{sub sub':Nat->Value}{s:Sl (C.D T)}{g g':Own}(h:∀ j,j < s.xs.length->g.fl j=g'.fl j/\sub j=sub' j):hpl C T sub s g=hpl C T sub' s g':=by
 unfold hpl;congr 1;apply GG;intro j;rw [Ur,Ur];cases hj:s.xs[j]? with
 |none=>rfl
 |some y=>
  grind
def Own.rd:Own->Bool
 | .out _=>false
 |_=>true
theorem Own.rd_fl {g:Own}(h:g.rd=true) (j:Nat):g.fl j=0\/g.fl j=1:=by
 cases g with
 |all=>exact .inr rfl
 |out i=>cases h
 |upto k=>unfold Own.fl;grind
 |fix=>exact .inr rfl
def SlR (C:Cod) (Z:FS) (w:World) (v:Value) (U:Nat) (u:Sl (C.D U)):Prop:=(∃ c,Rv C Z v (.sl U u c))\/∃ h,zo (zE C U).o U v u Z h/\h.sub w
theorem yP.slr {T:Nat}{x:C.D T}{f:Nat}{v:Value}{h:zc}{cs:List Value}{w:World}{U:Nat}{u:Sl (C.D U)}{c:Bool}(r:yP C T Z h cs (x,f,v)) (hf:f=0\/f=1) (hs:h.sub w) (hu:Z1 C T x = .sl U u c):SlR C Z w v U u:=by
 obtain ⟨_,_,_,_,h5,h6⟩:=r;rcases hf with e | e
 ·left;grind
 ·right;grind
theorem zgI {T:Nat}{sub:Nat->Value}{s:Sl (C.D T)}{g:Own}{v:Value}{h:zc}{w:World}{i:Int}{q:C.D T}(hr:zo (Zh C T) T v (hpl C T sub s g) Z h) (hs:h.sub w) (hq:zd s i=some q) :
    ∃ cs k,yP C T Z k cs (q,g.fl i.toNat,sub i.toNat)/\k.sub w/\∀ (j:Nat) (u:Value),cs[j]?=some u->w.cell? ((zh v (i.toNat * C.size T)).add j)=some u:=by
  obtain ⟨h1,h2,m1,m2,n1,n2,d⟩:=(vI (v:=v) (e:=T) (i:=i) hr (wZ hq)).uncons;obtain ⟨cs,c1,c2,p1,p2,p3,p4,p5⟩:=m2.one_of;have p5:yP C T Z c2 cs (q,g.fl i.toNat,sub i.toNat):=p5;refine ⟨cs,c2,p5,hs.mono (p2.trans n2),fun j u hj=>?_⟩;exact p4.cell (hs.mono (p1.trans n2)) hj
def zfU (C:Cod) (T:Nat):Ty (C.D T×Nat×Value) where
 size:=C.size T
 agg:=C.agg T
 rel Z cs p:=cs.length=C.size T/\(∀ u∈cs,u.oneCell'=true)/\cs[C.nst T]?=some p.2.2/\(p.2.1=0\/p.2.1=1->(zE C T).rel Z cs p.1)
 len h:=h.1
 mono l h:=⟨h.1,h.2.1,h.2.2.1,fun e=>(zE C T).mono l (h.2.2.2 e)⟩
 one h:=h.2.1
 sz:=C.sz T
omit [Dfr] in
theorem yP.fast {T:Nat}{h:zc}{cs:List Value}{p:C.D T×Nat×Value}(l:Z.le τ) (hh:∀ b o v,h b (o+1)=some (.cell v)->τ b o=some v) (r:yP C T Z h cs p) (e:p.2.1=0\/p.2.1=1):(zE C T).rel τ cs p.1:=by
 obtain ⟨h1,h2,h3,h4,h5,h6⟩:=r;refine ⟨h1,fun j A hj=>?_⟩;by_cases hn:j=C.nst T
 ·subst hn;refine ⟨_,h4,?_⟩;have hA:Z1 C T p.1=A:=by unfold Z1;rw [hj];rfl
  rcases e with e | e
  ·rw [<- hA];exact (h5 e).mono l
  ·obtain ⟨U,s,k1,k2⟩:=h6 e;rw [<- hA,k1];exact Rv.of_vrel (k2.fast l hh)
 ·obtain ⟨u,k1,k2⟩:=h3 j A hj hn;exact ⟨u,k1,k2.mono l⟩
instance (T:Nat):Frz (Zh C T) (zfU C T):=⟨rfl,rfl,fun l hh r=>⟨r.1,r.2.1,r.2.2.2.1,fun e=>yP.fast l hh r e⟩⟩
theorem ziL {T:Nat}{sub:Nat->Value}{s:Sl (C.D T)}{g:Own}{v:Value}(hg:g.rd=true) (h:(tSl (zfU C T)).vrel τ v (hpl C T sub s g)):(tSl (zE C T)).vrel τ v s:=by
 obtain ⟨a,n,c,e,h1,h2,h3,h4,h5,cells,h6,h7⟩:=Yv.1 h;rw [wY] at h1;refine Yv.2 ⟨a,n,c,e,h1,h2,h3,h4,h5,cells,?_,h7⟩;refine Ty.rels_of (by rw [(zfU C T).rels_len h6,wY];rfl) fun i x hx=>?_
 have:=(zfU C T).rels_get i h6 (x:=(x,g.fl i,sub i)) (by simp [hpl,hx]);exact this.2.2.2 (Own.rd_fl hg i)
theorem ztj {T:Nat}{sub:Nat->Value}{s:Sl (C.D T)}{g:Own}{v:Value}(hg:g.rd=true) (h:(tSl (zfU C T)).vrel τ v (hpl C T sub s g)) {i:Int}{q:C.D T}(hq:zd s i=some q) {U:Nat}{u:Sl (C.D U)}{c:Bool}(hu:Z1 C T q = .sl U u c):Rv C τ (sub i.toNat) (.sl U u c):=by
 obtain ⟨a,n,c',e,h1,h2,h3,h4,h5,cells,h6,h7⟩:=Yv.1 h;obtain ⟨_,hx⟩:=yB.1 hq;have h8:=(zfU C T).rels_get i.toNat h6 (x:=(q,g.fl i.toNat,sub i.toNat)) (by simp [hpl,hx]);obtain ⟨k1,k2,k3,k4⟩:=h8;have hr:=k4 (Own.rd_fl hg _);have hh:Z1 C T q ≠.und:=by grind
 unfold Z1 at hu hh;cases hgq:(C.emb T q)[C.nst T]? with
 |none=>grind
 |some A=>
  rw [hgq] at hu;have hu:A = .sl U u c:=hu;obtain ⟨w,e1,e2⟩:=hr.2 _ _ hgq;grind
end
end
section
variable [Dfr]
inductive Ent (C:Cod) where
 |cell (cs:List (AV C.D))
 |row (T:Nat) (s:Sl (C.D T))
 |obj (k T:Nat) (b:ByteArray) (s:Sl (C.D T))
 |orow (T:Nat) (s:Sl (C.D T)) (g:Own)
def Own.isFix:Own->Bool
 | .fix=>true
 |_=>false
def ZT {C:Cod}:G3 (Ent C)->Bool
 |some (.orow _ _ g)=>g.isFix
 |_=>false
structure St (C:Cod) where
 env:Nat->AV C.D
 heap:Nat->G3 (Ent C)
def upd {α:Type}(f:Nat->α) (i:Nat) (v:α):Nat->α:=fun j=>bif Nat.beq j i then v else f j
theorem zl {α:Type}{f:Nat->α}{i:Nat}{v:α}:upd f i v i=v:=by simp [upd]
theorem zm {α:Type}{f:Nat->α}{i j:Nat}{v:α}(h:j≠i):upd f i v j=f j:=by
 unfold upd;cases e:Nat.beq j i with
 |true=>exact absurd (jz e) h
 |false=>rfl
def chk {α:Type}(b:Bool) (x:G3 α):G3 α:=bif b then x else none
theorem zb {α:Type}{b:Bool}{x:G3 α}{y:α}(h:chk b x=some y):b=true/\x=some y:=by
 cases b with
 |true=>exact ⟨rfl,h⟩
 |false=>cases h
section
variable {C:Cod}
def St.put (S:St C) (d:Nat) (v:AV C.D):St C:={S with env:=upd S.env d v}
def yd {D:Nat->Type}:Value->AV D
 | .int k n =>.int k n
 | .bool b =>.bool b
 | .string s =>.str s
 | .pointer none =>.pnil
 | .slice none 0 0 =>.nils
 | .nilFunc =>.nilf
 | .nilIface =>.nili
 |_ =>.und
def zaR {D:Nat->Type}:Value->AV D
 | .agg a =>.agg (a.toList.map yd)
 |v=>yd v
def St.op (S:St C):Operand->AV C.D
 | .tmp t=>S.env t
 | .const v=>zaR v
 | .func f =>.clo f []
 | .global _ =>.und
omit [Dfr] in
def zG (C:Cod) (ν:Val) (vs:Nat->List Value) (id:Nat):G3 (Ent C)->Priv
 |some (.cell _) =>.cell (ν.adr id).a (vs id)
 |some (.row T s) =>.row (zE C T).o T (ν.hdr id) s
 |some (.obj k T b s)=>C.opv k T (ν.hdr id) (ν.adr id).a b s
 |some (.orow T s g) =>.row (Zh C T) T (ν.hdr id) (hpl C T (ν.adr id).sub s g)
 |none =>.cell default []
omit [Dfr] in
structure Abs (S:St C) (ν:Val) (vs:Nat->List Value) (ids:List Nat) (L:List (Nat×Value)) (b:Nat->Value) (Z:FS) (PV:List Priv):Prop where
 nd:ids.Nodup
 dom:∀ id,id∈ids↔(S.heap id).isSome=true
 pv:PV=ids.map fun id=>zG C ν vs id (S.heap id)
 cell:∀ id cs,S.heap id=some (.cell cs)->VRs C Z ν (vs id) cs
 env:∀ t,VR C Z ν (look L b t) (S.env t)
 one:∀ i,(ν.hdr i).oneCell'=true
variable {S:St C}{ν:Val}{vs:Nat->List Value}{ids:List Nat}{L:List (Nat×Value)}{b:Nat->Value}{Z:FS}{PV:List Priv}{P:Program}
omit [Dfr] in
theorem Abs.at (h:Abs S ν vs ids L b Z PV) {id:Nat}{e:Ent C}(he:S.heap id=some e):∃ m:Nat,PV[m]?=some (zG C ν vs id (some e))/\ids[m]?=some id:=by
 obtain ⟨m,hm⟩:=List.mem_iff_getElem?.1 ((h.dom id).2 (by rw [he];rfl));exact ⟨m,by rw [h.pv,GA,hm,GB,he],hm⟩
theorem zaS:∀ v:Value,VR C Z ν v (yd v)
 | .int _ _=>Rv.int
 | .bool _=>Rv.bool
 | .string _=>Rv.str
 | .pointer none=>Rv.pnil
 | .slice none 0 0=>by unfold yd VR;rfl
 | .nilFunc=>Rv.nilf
 | .nilIface=>Rv.nili
 | .float .. | .complex .. | .pointer (some _) | .map _ | .chan _ | .func .. | .iface .. | .agg _ | .tuple _=>by unfold yd;trivial
 | .slice (some _) _ _=>by unfold yd;trivial
 | .slice none (n+1) _=>by unfold yd;trivial
 | .slice none 0 (n+1)=>by unfold yd;trivial
theorem X8:∀ l:List Value,VRs C Z ν l (l.map yd)
 |[]=>trivial
 |v::l=>⟨zaS v,X8 l⟩
theorem ziM (v:Value):VR C Z ν v (zaR v):=by
 cases v <;> first | exact zaS _ | exact ⟨_,rfl,X8 _⟩
omit [Dfr] in
theorem Abs.op (h:Abs S ν vs ids L b Z PV) (x:Operand):VR C Z ν (opv L b x) (S.op x):=by
 cases x with
 |tmp t=>exact h.env t
 |const v=>exact ziM v
 |global g=>trivial
 |func f=>exact ⟨[],rfl,trivial⟩
def Yl (P:Program) (Z:FS) (PV:List Priv) (L:List (Nat×Value)) (b:Nat->Value) (o:Oper) (R:Value->Prop):Prop:=
 ∀ w,xn Z PV w->∃ v,(execOp (opv L b) o).run P w = .ok (.value v) w/\R v
omit [Dfr] in
theorem Yl.of {o:Oper}{R:Value->Prop}{v:Value}(h:zZ P Z PV L b o v) (hr:R v):Yl P Z PV L b o R:=fun w hw=>⟨v,h w hw,hr⟩
theorem Yl.ok {ρ:Type}{n:Nat}{w0:Start}{σ0:FS}{p:G3 ρ}{H:G3 ρ->List (Nat×Value)->FS->List Priv->Prop}{o:Oper}{R:Value->Prop}{d:Nat}(hn:Nat.blt d n=true) (hd:o.dst=some d) (h:Yl P Z PV L b o R) (hH:∀ v,R v->H p ((d,v)::L) Z PV):wq P n w0 σ0 o p L b Z PV H:=by
 intro r hp a w hi hf K Q hK;obtain ⟨v,h1,h2⟩:=h w hi.held;unfold Oper.wp;rw [hf.eval,h1,Oper.upon_value,hd];exact hK p _ Z PV _ w hp hi (hf.put (by simpa [GZ] using hn) v) (hH v h2)
theorem VR.int_inv {v:Value}{k:IntKind}{n:Int}(h:VR C Z ν v (.int k n)):v = .int k n:=by
 have:Rv C Z v (.int k n):=h;cases this;rfl
theorem VR.bool_inv {v:Value}{e:Bool}(h:VR C Z ν v (.bool e)):v = .bool e:=by
 have:Rv C Z v (.bool e):=h;cases this;rfl
theorem VR.str_inv {v:Value}{s:ByteArray}(h:VR C Z ν v (.str s)):v = .string s:=by
 have:Rv C Z v (.str s):=h;cases this;rfl
theorem VR.pnil_inv {v:Value}(h:VR C Z ν v .pnil):v = .pointer none:=by
 have:Rv C Z v .pnil:=h;cases this;rfl
theorem VR.nili_inv {v:Value}(h:VR C Z ν v .nili):v = .nilIface:=by
 have:Rv C Z v .nili:=h;cases this;rfl
theorem VR.sl_vrel {v:Value}{T:Nat}{s:Sl (C.D T)}{c:Bool}(h:VR C Z ν v (.sl T s c)):(tSl (zE C T)).vrel Z v s:=Rv.vrel (show Rv C Z v (.sl T s c) from h)
theorem VR.pz_inv {v:Value}{T:Nat}{x:C.D T}{off:Nat}(h:VR C Z ν v (.pz T x off)):∃ (ad:Addr) (cell:Nat->Value),v = .pointer (some (ad.add off))/\(∀ (j:Nat) A,(C.emb T x)[j]?=some A->Z.cell (ad.add j)=some (cell j))/\∀ (j:Nat) A,(C.emb T x)[j]?=some A->Rv C Z (cell j) A:=by
 have:Rv C Z v (.pz T x off):=h;cases this with
 |pz cell h1 h2=>exact ⟨_,cell,rfl,h1,h2⟩
def zc0 (b:BinOp) (k:IntKind) (i j:Int):G3 (AV C.D):=
 match b with
 | .add=>some (.int k (k.wrap (i+j)))
 | .sub=>some (.int k (k.wrap (i - j)))
 | .mul=>some (.int k (k.wrap (i * j)))
 | .quo=>(ziA k i j).bind fun q=>some (.int k q)
 | .rem=>(ziB k i j).bind fun q=>some (.int k q)
 | .lss=>some (.bool (decide (i < j)))
 | .leq=>some (.bool (decide (i<=j)))
 | .gtr=>some (.bool (decide (j < i)))
 | .geq=>some (.bool (decide (j<=i)))
 | .eql=>some (.bool (decide (i=j)))
 | .neq=>some (.bool (decide (i≠j)))
 |_=>none
theorem zp0 {bo:BinOp}{k:IntKind}{i j:Int}{A:AV C.D}{t t' ty:TypeId}{x y:Operand}{d:Nat}{ps:String}{af:Array Edge}{g:G3 (Nat×Bool)}(h:zc0 bo k i j=some A) (hx:opv L b x = .int k i) (hy:opv L b y = .int k j) :
    Yl P Z PV L b ⟨some d,.binOp bo t x y t',ty,ps,af,g⟩ (fun v=>VR C Z ν v A):=by
  cases bo <;> simp only [zc0] at h <;> try (cases h;done)
  case add=>cases h;exact .of (zwz hx hy) Rv.int
  case sub=>cases h;exact .of (zwA hx hy) Rv.int
  case mul=>cases h;exact .of (zwB hx hy) Rv.int
  case quo=>
    cases hq:ziA k i j with
    |none=>grind
    |some q=>rw [hq] at h;cases h;exact .of (zwI hx hy hq) Rv.int
  case rem=>
    cases hq:ziB k i j with
    |none=>grind
    |some q=>rw [hq] at h;cases h;exact .of (zwJ hx hy hq) Rv.int
  case lss=>cases h;exact .of (zwC hx hy) Rv.bool
  case leq=>cases h;exact .of (zwD hx hy) Rv.bool
  case gtr=>cases h;exact .of (zwE hx hy) Rv.bool
  case geq=>cases h;exact .of (zwF hx hy) Rv.bool
  case eql=>cases h;exact .of (zwG hx hy) Rv.bool
  case neq=>cases h;exact .of (zwH hx hy) Rv.bool
def zlJ (P:Program) (eq:TypeId->AV C.D->AV C.D->G3 Bool) (xs ys:List (AV C.D)):List Field->G3 Bool
 |[]=>some true
 |fd::fs=>match P.underlying fd.type,P.info? fd.type with
  | some td, some ti => chk (fd.name != "_" && (Nat.beq ((xs.drop fd.offset).take ti.size).length ti.size && (Nat.beq ((ys.drop fd.offset).take ti.size).length ti.size && (Zd td || Nat.beq ti.size 1)))) <|
   match eq fd.type (zaQ (Zd td) ((xs.drop fd.offset).take ti.size)) (zaQ (Zd td) ((ys.drop fd.offset).take ti.size)),zlJ P eq xs ys fs with
   |some r1,some r2=>some (r1 && r2)
   |_,_=>none
  |_,_=>none
def eqA (P:Program):Nat->TypeId->AV C.D->AV C.D->G3 Bool
 |0,_,_,_=>none
 |f+1,t,A,B=>match P.underlying t,A,B with
  |some (.int _),.int k1 i,.int k2 j=>chk (decide (k1=k2)) (some (decide (i=j)))
  |some .bool,.bool i,.bool j=>some (decide (i=j))
  |some .string,.str i,.str j=>some (decide (i=j))
  |some (.struct fs),.agg xs,.agg ys=>chk (!P.stoodInHeld t) (zlJ P (eqA P f) xs ys fs.toList)
  |_,_,_=>none
theorem ztk {t:TypeId}{k k1:IntKind}{i j:Int}(hu:P.underlying t=some (.int k)) (f:Nat):yO P t (f+1) (.int k1 i) (.int k1 j) (decide (i=j)):=fun m w=>by
 have:(i == j)=decide (i=j):=by grind
 rw [show m+(f+1)=(m+f)+1 by omega];simp [Op.equalIn,GU hu,this]
theorem zol:∀ {f:Nat}{t:TypeId}{A B:AV C.D}{r:Bool},eqA P f t A B=some r->∀ {u v:Value},VR C Z ν u A->VR C Z ν v B->yO P t f u v r:=by
 intro f
 induction f with
 |zero=>intro t A B r h;simp [eqA] at h
 |succ f ih=>
  intro t A B r h u v hu hv;unfold eqA at h;split at h
  ·rename_i e;obtain ⟨hk,h⟩:=zb h;cases h;obtain rfl:=Us hk;rw [hu.int_inv,hv.int_inv];exact ztk e f
  ·rename_i e;cases h;rw [hu.bool_inv,hv.bool_inv];exact (yO.bool e).mono (by omega)
  ·rename_i e;cases h;rw [hu.str_inv,hv.str_inv];exact (yO.str e).mono (by omega)
  ·rename_i fs xs ys e;obtain ⟨hh,h'⟩:=zb h;clear h;simp only [Ut] at hh;obtain ⟨us,rfl,hus⟩:=hu;obtain ⟨ws,rfl,hws⟩:=hv;refine yO.struct e hh ?_;generalize fs.toList=l at h';clear e
   induction l generalizing r with
   |nil=>simp only [zlJ] at h';cases h';rfl
   |cons fd l ihl=>
    simp only [zlJ] at h';split at h'
    ·rename_i td ti hud hi;obtain ⟨hc,h⟩:=zb h';split at h
     ·rename_i r1 r2 e1 e2;cases h;simp only [g9,bne_iff_ne,GO] at hc;obtain ⟨h1,h2,h3,h4⟩:=hc;have h2:=jz h2;have h3:=jz h3;have h5:Zd td=false->ti.size=1:=fun h=>by rw [h] at h4;exact jz (by simpa using h4)
      exact ⟨_,_,r1,r2,ziI hud hi rfl (by rw [<- h2];simp [hus.len]) h5 rfl,ziI hud hi rfl (by rw [<- h3];simp [hws.len]) h5 rfl,h1,ih e1 ((hus.drop _).take _).val ((hws.drop _).take _).val,ihl e2,rfl⟩
     ·cases h
    ·cases h'
  ·cases h
end
end
section
variable [Dfr]
section
variable {C:Cod}{S:St C}{ν:Val}{vs:Nat->List Value}{ids:List Nat}{L:List (Nat×Value)}{b:Nat->Value}{Z:FS}{PV:List Priv}{P:Program}
variable {t t' ty:TypeId}{x y z:Operand}{d:Nat}{ps:String}{af:Array Edge}{g:G3 (Nat×Bool)}{A:AV C.D}
def zca (P:Program) (ty:TypeId) (A:AV C.D):AV C.D:=A
theorem ziN {T:Nat}:VR C Z ν (.slice none 0 0) (.sl T ⟨[],false⟩ true):=
 Rv.sl (fun _ _=>default) rfl rfl (GJ _) (GL _) (fun _=>⟨rfl,rfl⟩) (fun _=>rfl) (fun i x j A h=>by simp at h) (fun i x j A h=>by simp at h)
theorem zcb {v:Value}(h:VR C Z ν v A):VR C Z ν v (zca P ty A):=h
def Yc (P:Program) (t:TypeId) (cs:List (AV C.D)) (off:Nat):G3 (AV C.D):=
 match P.underlying t,P.info? t with
 |some td,some ti=>chk (Nat.beq ((cs.drop off).take ti.size).length ti.size && (Zd td || Nat.beq ti.size 1)) (some (zaQ (Zd td) ((cs.drop off).take ti.size)))
 |_,_=>none
theorem Vu {cs:List (AV C.D)}{off:Nat}(h:Yc P t cs off=some A):∃ td ti,P.underlying t=some td/\P.info? t=some ti/\((cs.drop off).take ti.size).length=ti.size/\(Zd td=false->ti.size=1)/\A=zaQ (Zd td) ((cs.drop off).take ti.size):=by
 unfold Yc at h;split at h
 ·rename_i td ti hu hi;obtain ⟨hc,h⟩:=zb h;simp only [g9,GO] at hc;cases h;exact ⟨td,ti,hu,hi,jz hc.1,fun e=>by have:=hc.2;rw [e] at this;exact jz (by grind),rfl⟩
 ·cases h
theorem wr {a:Addr}{off:Nat}{vcs:List Value}{cs:List (AV C.D)}(h:Yc P t cs off=some A) (hl:vcs.length=cs.length) (hx:opv L b x = .pointer (some (a.add off))) {w:World}
    (hw:∀ (j:Nat) (u:Value),vcs[j]?=some u->w.cell? (a.add j)=some u) (hv:∀ agg,VR C Z ν (yu agg ((vcs.drop off).take (match P.info? t with | some ti=>ti.size | none=>0))) (zaQ agg ((cs.drop off).take (match P.info? t with | some ti=>ti.size | none=>0)))) :
    ∃ v,(execOp (opv L b) ⟨some d,.load t x,ty,ps,af,g⟩).run P w = .ok (.value v) w/\VR C Z ν v A:=by
  obtain ⟨td,ti,hu,hi,h1,h2,rfl⟩:=Vu h;rw [hi] at hv;have hl2:((vcs.drop off).take ti.size).length=ti.size:=by grind
  refine ⟨_,?_,hv (Zd td)⟩
  have:=W1 (P:=P) (w:=w) (a.add off) ((vcs.drop off).take ti.size) hu hi hl2.symm (fun e=>by grind) (fun j u hj=>by
    have hj':j < ti.size:=by
      grind
    rw [Ug hj',Uh] at hj
    rw [Addr.add_add];grind)
  simp [execOp,hx,Instr.loadAt,Instr.sureAddr,this]
def zH {α:Type}(S:St C) (id T:Nat) (i:Int) (K:(U:Nat)->Sl (C.D U)->G3 α):G3 α:=match S.heap id with
 |some (.orow T' s g)=>chk (Nat.beq T T' && g.rd) ((zd s i).bind fun q=>match Z1 C T' q with
  | .sl U u _=>K U u
  |_=>none)
 |_=>none
theorem xp {α:Type}(hA:Abs S ν vs ids L b Z PV) {id T:Nat}{i:Int}{K:(U:Nat)->Sl (C.D U)->G3 α}{a:α}(h:zH S id T i K=some a) :
    ∃ U u,K U u=some a/\∀ w,xn Z PV w->SlR C Z w ((ν.adr id).sub i.toNat) U u:=by
  unfold zH at h;split at h
  · rename_i T' s g hs;obtain ⟨hc,h⟩:=zb h;simp only [g9] at hc;obtain ⟨q,hq,h⟩:=jy h;split at h
    ·rename_i U u c hu;refine ⟨U,u,h,fun w hw=>?_⟩;obtain ⟨m,hm,_⟩:=hA.at hs;obtain ⟨hh,hr,hsub⟩:=hw.get hm;have hr:zo (Zh C T') T' (ν.hdr id) (hpl C T' (ν.adr id).sub s g) Z hh:=hr;obtain ⟨cs,k,k1,k2,_⟩:=zgI (w:=w) hr hsub hq;exact k1.slr (Own.rd_fl hc.2 _) k2 hu
    ·cases h
  ·cases h
omit [Dfr] in
theorem SlR.cases {w:World}{v:Value}{U:Nat}{u:Sl (C.D U)}(h:SlR C Z w v U u) (hw:xn Z PV w):(tSl (zE C U)).vrel Z v u\/xn Z [.row (zE C U).o U v u] w:=by
 rcases h with ⟨c,h⟩ | ⟨h,h1,h2⟩
 ·exact .inl h.vrel
 ·exact .inr ⟨hw.1,h,Sep.one h1,h2⟩
omit [Dfr] in
theorem SlR.form {w:World}{v:Value}{U:Nat}{u:Sl (C.D U)}(h:SlR C Z w v U u) (hw:xn Z PV w):∃ a c,v = .slice a u.xs.length c/\(a=none->u.xs.length=0)/\u.xs.length<=c:=by
 rcases h.cases hw with hv | hv
 ·obtain ⟨a,n,c,rfl,k1,k2,k3,k4,k5,_⟩:=Yv.1 hv;grind
 ·obtain ⟨hh,hr,_⟩:=hv.get (m:=0) rfl;obtain ⟨a,c,rfl,k2,k3,k3',k4,k5⟩:=zo.form hr;grind
def xF (P:Program) (S:St C) (t:TypeId):AV C.D->G3 (AV C.D)
 | .pc id off=>match S.heap id with
  |some (.cell cs)=>Yc P t cs off
  |_=>none
 | .pz T x off=>Yc P t (C.emb T x) off
 | .pr id T i off=>match S.heap id with
  |some (.row T' s)=>chk (Nat.beq T T') ((zd s i).bind fun x=>Yc P t (C.emb T' x) off)
  |some (.orow T' s g)=>chk (Nat.beq T T') ((zd s i).bind fun x=>Yc P t (zd5 C T' x id i) off)
  |_=>none
 | .nx id T i (.elem U k off)=>zH S id T i fun U' u=>chk (Nat.beq U U') ((zd u k).bind fun y=>Yc P t (C.emb U' y) off)
 |_=>none
theorem zeH {T:Nat}{q:C.D T}{cell:Nat->Value}(h:∀ (j:Nat) A,(C.emb T q)[j]?=some A->Rv C Z (cell j) A):VRs C Z ν ((List.range (C.size T)).map cell) (C.emb T q):=by
 refine .of (by simp [C.len]) fun j u A h1 h2=>?_
 have hj:j < C.size T:=by grind
 rw [GA,List.getElem?_range hj,GB] at h1;cases h1;exact (h j A h2).vr
theorem zaT {T:Nat}{q:C.D T}{cs:List Value}(h:(zE C T).rel Z cs q):VRs C Z ν cs (C.emb T q):=
 .of (by rw [h.1,C.len]) fun j u A h1 h2=>by
  obtain ⟨w,e,r⟩:=h.2 j A h2;rw [h1] at e;cases e;exact r.vr
omit [Dfr] in
theorem SlR.elem {w:World}{v:Value}{U:Nat}{u:Sl (C.D U)}(h:SlR C Z w v U u) (hw:xn Z PV w) {k:Int}{y:C.D U}(hy:zd u k=some y) :
    ∃ cs,VRs C Z ν cs (C.emb U y)/\∀ (j:Nat) (q:Value),cs[j]?=some q->w.cell? ((zh v (k.toNat * C.size U)).add j)=some q:=by
  rcases h with ⟨c,h⟩ | ⟨h,h1,h2⟩
  · obtain ⟨hy0,hyi⟩:=yB.1 hy;cases h with
    | @sl _ _ _ a n cc cell h1 h2 h3 h4 h5 h6 h7 h8=>
      refine ⟨(List.range (C.size U)).map (cell k.toNat),zeH fun j A hj=>h8 _ _ _ _ hyi hj,fun j q hj=>?_⟩;rw [GA] at hj;have hjl:j < C.size U:=by
        cases hr:(List.range (C.size U))[j]? with
        |none=>grind
        |some z=>grind
      rw [List.getElem?_range hjl,GB] at hj;cases hj;have:j < (C.emb U y).length:=by rw [C.len];exact hjl
      obtain ⟨ad,ha,hc⟩:=h7 _ _ _ _ hyi (GI this);subst ha;have:=hw.1.cell hc;show w.cell? (((zh (.slice (some ad) n cc) _)).add j)=_;rw [show zh (.slice (some ad) n cc) (k.toNat * C.size U)=ad.add (k.toNat * C.size U) from rfl,Addr.add_add];exact this
  ·obtain ⟨cs,e1,e2⟩:=zan (w:=w) h1 h2 hy (ZS.of (Xo.self (zE C U))) (by show 0+C.size U<=C.size U;omega);exact ⟨cs,zaT e1,fun j q hj=>by have:=e2 j q hj;rw [Ue] at this;exact this⟩
theorem zom (hA:Abs S ν vs ids L b Z PV) (h:xF P S t (S.op x)=some A):Yl P Z PV L b ⟨some d,.load t x,ty,ps,af,g⟩ (fun v=>VR C Z ν v A):=by
 intro w hw;have hop:=hA.op x;unfold xF at h;split at h
 ·rename_i id off e;rw [e] at hop;have hop:opv L b x = .pointer (some ((ν.adr id).add off)):=hop;split at h
  ·rename_i cs hcs;obtain ⟨m,hm,_⟩:=hA.at hcs;obtain ⟨hh,hr,hsub⟩:=hw.get hm;have hr:ZW (ν.adr id).a (vs id) hh:=hr;have hc:=hA.cell id cs hcs;exact wr h hc.len hop (fun j u hj=>hr.cell hsub hj) fun agg=>((hc.drop off).take _).val
  ·cases h
 ·rename_i T q off e;rw [e] at hop;obtain ⟨ad,cell,hv,h1,h2⟩:=hop.pz_inv;have hc:=zeH (ν:=ν) h2;refine wr h hc.len hv (fun j u hj=>?_) fun agg=>((hc.drop off).take _).val
  rw [GA] at hj;have hjl:j < C.size T:=by
   cases hr:(List.range (C.size T))[j]? with
   |none=>grind
   |some z=>grind
  rw [List.getElem?_range hjl,GB] at hj;cases hj;have:j < (C.emb T q).length:=by rw [C.len];exact hjl
  exact hw.1.cell (h1 j _ (GI this))
 ·rename_i id T i off e;rw [e] at hop;have hop:opv L b x = .pointer (some (zh (ν.hdr id) (i.toNat * C.size T+off))):=hop;split at h
  ·rename_i T' s hs;obtain ⟨hT,h⟩:=zb h;obtain rfl:=jz hT;cases hq:zd s i with
   |none=>grind
   |some q=>
    rw [hq] at h;have h:Yc P t (C.emb T q) off=some A:=h;obtain ⟨m,hm,_⟩:=hA.at hs;obtain ⟨hh,hr,hsub⟩:=hw.get hm;have hr:zo (zE C T).o T (ν.hdr id) s Z hh:=hr;obtain ⟨cs,h1,h2⟩:=zan (w:=w) hr hsub hq (ZS.of (Xo.self (zE C T))) (by show 0+C.size T<=C.size T;omega);have hc:=zaT (ν:=ν) h1;rw [<- Yb] at hop;exact wr (a:=zh (ν.hdr id) (i.toNat * C.size T)) h hc.len hop (fun j u hj=>by have:=h2 j u hj;rw [Ue] at this;exact this) fun agg=>((hc.drop off).take _).val
  ·rename_i T' s gg hs;obtain ⟨hT,h⟩:=zb h;obtain rfl:=jz hT;obtain ⟨q,hq,h⟩:=jy h;obtain ⟨m,hm,_⟩:=hA.at hs;obtain ⟨hh,hr,hsub⟩:=hw.get hm;have hr:zo (Zh C T) T (ν.hdr id) (hpl C T (ν.adr id).sub s gg) Z hh:=hr;obtain ⟨cs,kf,k1,k2,k3⟩:=zgI (w:=w) hr hsub hq;have hc:=k1.vrs (ν:=ν);rw [<- Yb] at hop;exact wr h hc.len hop k3 fun agg=>((hc.drop off).take _).val
  ·cases h
 ·rename_i id T i U k off e;rw [e] at hop;have hop:opv L b x = .pointer (some (zh ((ν.adr id).sub i.toNat) (k.toNat * C.size U+off))):=hop.1;obtain ⟨U',u,h,hS⟩:=xp hA h;obtain ⟨hU,h⟩:=zb h;obtain rfl:=jz hU;obtain ⟨y,hy,h⟩:=jy h;obtain ⟨cs,hc,k3⟩:=(hS w hw).elem (ν:=ν) hw hy;rw [<- Yb] at hop;exact wr h hc.len hop k3 fun agg=>((hc.drop off).take _).val
 ·cases h
def XR (P:Program) (t:TypeId) (bo:BinOp) (A B:AV C.D):G3 (AV C.D):=
 match A,B with
 | .int k i,.int k' j=>chk (decide (k=k')) (zc0 bo k i j)
 | .str s,.str u=>match bo with
  | .eql=>some (.bool (decide (s=u)))
  | .neq=>some (.bool (decide (s≠u)))
  | .add=>chk (decide (s.size+u.size<=9223372036854775807)) (some (.str (s++u)))
  |_=>none
 | .bool e,.bool q=>match P.underlying t,bo with
  |some .bool,.eql=>some (.bool (e == q))
  |some .bool,.neq=>some (.bool (e != q))
  |_,_=>none
 | .sl _ s _,.nils=>match P.underlying t,bo with
  |some (.slice _),.eql=>some (.bool !s.nn)
  |some (.slice _),.neq=>some (.bool s.nn)
  |_,_=>none
 | .nils,.nils=>match P.underlying t,bo with
  |some (.slice _),.eql=>some (.bool true)
  |some (.slice _),.neq=>some (.bool false)
  |_,_=>none
 | .pnil,.pnil=>evPtr P t bo true
 | .pc _ _,.pnil=>evPtr P t bo false
 | .pr _ _ _ _,.pnil=>evPtr P t bo false
 | .nx _ _ _ (.elem _ _ _),.pnil=>evPtr P t bo false
 | .pz _ _ _,.pnil=>evPtr P t bo false
 | .agg xs,.agg ys=>match bo with
  | .eql=>chk (!P.eqGuardType P.depth t) ((eqA P 8 t (.agg xs) (.agg ys)).bind fun r=>some (.bool r))
  | .neq=>chk (!P.eqGuardType P.depth t) ((eqA P 8 t (.agg xs) (.agg ys)).bind fun r=>some (.bool !r))
  |_=>none
 |_,_=>none
where
 evPtr (P:Program) (t:TypeId) (bo:BinOp) (r:Bool):G3 (AV C.D):=match P.underlying t,bo with
  |some (.pointer _),.eql=>some (.bool r)
  |some (.pointer _),.neq=>some (.bool !r)
  |_,_=>none
theorem vJ {bo:BinOp}{r:Bool}{a:G3 Addr}(h:XR.evPtr P t bo r=some A) (hx:opv L b x = .pointer a) (hr:a.isNone=r) (hy:opv L b y = .pointer none):Yl P Z PV L b ⟨some d,.binOp bo t x y t',ty,ps,af,g⟩ (fun v=>VR C Z ν v A):=by
 unfold XR.evPtr at h;split at h
 ·rename_i e hu;cases h;exact .of (zko hu hx hy hr) Rv.bool
 ·rename_i e hu;cases h;exact .of (zkp hu hx hy (by rw [hr])) Rv.bool
 ·cases h
theorem zuE {s u:ByteArray}(hx:opv L b x = .string s) (hy:opv L b y = .string u) (hl:s.size+u.size<=9223372036854775807):zZ P Z PV L b ⟨some d,.binOp .add t x y t',ty,ps,af,g⟩ (.string (s++u)):=fun w _=>by
 have h2:¬ (((s.size+u.size:Nat):Int) > IntKind.i64.max):=by
  have:IntKind.i64.max=9223372036854775807:=by decide
  grind
 simp only [execOp,hx,hy,eqGuard,binOp,Op.stringOp,js h2];rfl
theorem zeI {w:World}{ms:Array (String×TypeId)}{u:TypeId}{a:Value}(hu:P.underlying t=some (.interface ms)):(Op.equal t (.iface u a) .nilIface).run P w = .ok false w:=by
 show (Op.equalIn (9999+1) t (.iface u a) .nilIface).run P w = .ok false w;unfold Op.equalIn;simp only [GV,GU hu,GW];rfl
theorem zeJ {w:World}{ms:Array (String×TypeId)}(hu:P.underlying t=some (.interface ms)):(Op.equal t .nilIface .nilIface).run P w = .ok true w:=by
 show (Op.equalIn (9999+1) t .nilIface .nilIface).run P w = .ok true w;unfold Op.equalIn;simp only [GV,GU hu,GW];rfl
theorem zp1 (hA:Abs S ν vs ids L b Z PV) {bo:BinOp}(h:XR P t bo (S.op x) (S.op y)=some A):Yl P Z PV L b ⟨some d,.binOp bo t x y t',ty,ps,af,g⟩ (fun v=>VR C Z ν v A):=by
 have hx:=hA.op x;have hy:=hA.op y;unfold XR at h;split at h
 all_goals try (cases h;done)
 all_goals try (rename_i e1 e2;rw [e1] at hx;rw [e2] at hy)
 ·obtain ⟨hk,h2⟩:=zb h;obtain rfl:=Us hk;exact zp0 h2 hx.int_inv hy.int_inv
 ·split at h
  ·cases h;exact .of (zuC hx.str_inv hy.str_inv) Rv.bool
  ·cases h;exact .of (zuD hx.str_inv hy.str_inv) Rv.bool
  ·obtain ⟨hk,h2⟩:=zb h;cases h2;exact .of (zuE hx.str_inv hy.str_inv (Us hk)) Rv.str
  ·cases h
 ·split at h
  ·rename_i hu;cases h;exact .of (zuA hu hx.bool_inv hy.bool_inv) Rv.bool
  ·rename_i hu;cases h;exact .of (zuB hu hx.bool_inv hy.bool_inv) Rv.bool
  ·cases h
 ·have hy:opv L b y = .slice none 0 0:=hy;split at h
  ·rename_i hu;cases h;exact .of (wV hu rfl hy hx.sl_vrel) Rv.bool
  ·rename_i hu;cases h;exact .of (wW hu rfl hy hx.sl_vrel) Rv.bool
  ·cases h
 ·have hy:opv L b y = .slice none 0 0:=hy;have hx:VR C Z ν (opv L b x) (.sl 0 ⟨[],false⟩ true):=by rw [show opv L b x = .slice none 0 0 from hx];exact ziN
  split at h
  ·rename_i hu;cases h;exact .of (wV hu rfl hy hx.sl_vrel) Rv.bool
  ·rename_i hu;cases h;exact .of (wW hu rfl hy hx.sl_vrel) Rv.bool
  ·cases h
 ·exact vJ h hx.pnil_inv rfl hy.pnil_inv
 ·have hx:opv L b x = .pointer (some _):=hx;exact vJ h hx rfl hy.pnil_inv
 ·have hx:opv L b x = .pointer (some _):=hx;exact vJ h hx rfl hy.pnil_inv
 ·have hx:opv L b x = .pointer (some _):=hx.1;exact vJ h hx rfl hy.pnil_inv
 ·obtain ⟨ad,cell,hv,_⟩:=hx.pz_inv;exact vJ h hv rfl hy.pnil_inv
 ·have hx':=hx;have hy':=hy;obtain ⟨us,e3,_⟩:=hx';obtain ⟨ws,e4,_⟩:=hy';split at h
  ·obtain ⟨hg,h⟩:=zb h;simp only [Ut] at hg;obtain ⟨r,hq,h⟩:=jy h;cases h;have:=zol hq hx hy;rw [e3,e4] at this;exact .of (ziJ hg e3 e4 (by decide) this) Rv.bool
  ·obtain ⟨hg,h⟩:=zb h;simp only [Ut] at hg;obtain ⟨r,hq,h⟩:=jy h;cases h;have:=zol hq hx hy;rw [e3,e4] at this;exact .of (ziK hg e3 e4 (by decide) this) Rv.bool
  ·cases h
def zc1 (P:Program) (t:TypeId) (m:Nat) (A:AV C.D):G3 (AV C.D):=
 match P.underlying t with
 |some (.struct fs)=>(match fs[m]? with
  |some f=>(match P.info? f.type with
   |some ti=>chk (!Nat.beq ti.size 0) (match A with
    | .pc id off=>some (.pc id (off+f.offset))
    | .pr id T i off=>some (.pr id T i (off+f.offset))
    | .nx id T i (.elem U k off)=>some (.nx id T i (.elem U k (off+f.offset)))
    | .pz T q off=>some (.pz T q (off+f.offset))
    |_=>none)
   |none=>none)
  |none=>none)
 |_=>none
theorem zlK (hA:Abs S ν vs ids L b Z PV) {m:Nat}(h:zc1 P t m (S.op x)=some A):Yl P Z PV L b ⟨some d,.fieldAddr t x m,ty,ps,af,g⟩ (fun v=>VR C Z ν v A):=by
 have hx:=hA.op x;unfold zc1 at h;split at h
 ·rename_i fs hu;split at h
  ·rename_i f hf;split at h
   ·rename_i ti hi;obtain ⟨hz,h⟩:=zb h;have hz:ti.size≠0:=fun e=>by rw [e] at hz;cases hz
    split at h
    ·rename_i id off e;rw [e] at hx;cases h;exact .of (Wu hu hf hi hz (show opv L b x = .pointer (some _) from hx) rfl) (by show _=Value.pointer (some _);rw [Addr.add_add])
    ·rename_i id T i off e;rw [e] at hx;cases h;exact .of (Wu hu hf hi hz (show opv L b x = .pointer (some _) from hx) rfl) (by show _=Value.pointer (some _);rw [Yb,Nat.add_assoc])
    ·rename_i id T i U k off e;rw [e] at hx;cases h;exact .of (Wu hu hf hi hz (show opv L b x = .pointer (some _) from hx.1) rfl) ⟨by show _=Value.pointer (some _);rw [Yb,Nat.add_assoc],rfl⟩
    ·rename_i T q off e;rw [e] at hx;cases h;obtain ⟨ad,cell,hv,h1,h2⟩:=hx.pz_inv;exact .of (Wu hu hf hi hz hv rfl) (by rw [Addr.add_add];exact Rv.pz cell h1 h2)
    ·cases h
   ·cases h
  ·cases h
 ·cases h
def zcc {D:Nat->Type}{β:Type}(sz id off:Nat) (i:Int):Nat->(AV D->G3 β)->G3 β
 |0,_=>none
 |j+1,K=>bif decide (i=(j:Int)) then K (.pc id (off+j * sz)) else zcc sz id off i j K
theorem zgJ {D:Nat->Type}{β γ:Type}{sz id off:Nat}{i:Int}{K:AV D->G3 β}{L:β->G3 γ}:∀ {n:Nat},(zcc sz id off i n K).bind L=zcc sz id off i n fun A=>(K A).bind L
 |0=>rfl
 |j+1=>by
  unfold zcc;cases decide (i=(j:Int)) with
  |true=>rfl
  |false=>exact zgJ
theorem zfV {D:Nat->Type}{sz id off:Nat}{i:Int}{A:AV D}:∀ {n:Nat},zcc sz id off i n some=some A->∃ j,j < n/\i=(j:Int)/\A = .pc id (off+j * sz)
 |0,h=>by cases h
 |j+1,h=>by
  unfold zcc at h;cases hd:decide (i=(j:Int)) with
  |true=>
   grind
  |false=>
   rw [hd] at h;obtain ⟨k,h1,h2,h3⟩:=zfV h;grind
def Xp (P:Program) (S:St C) (t:TypeId) (A B:AV C.D):G3 (AV C.D):=
 match P.underlying t with
 |some (.slice e)=>(match P.info? e with
  |some ti=>(match A,B with
   | .sl T s _,.int _ i=>chk (Nat.beq ti.size (C.size T)) ((zd s i).bind fun q=>some (.pz T q 0))
   | .row id,.int _ i=>(match S.heap id with
    |some (.row T s)=>chk (Nat.beq ti.size (C.size T)) ((zd s i).bind fun _=>some (.pr id T i 0))
    |some (.orow T s g)=>chk (Nat.beq ti.size (C.size T)) ((zd s i).bind fun _=>some (.pr id T i 0))
    |_=>none)
   | .nx id T i .whole,.int _ k=>zH S id T i fun U u=>chk (Nat.beq ti.size (C.size U)) ((zd u k).bind fun _=>some (.nx id T i (.elem U k 0)))
   | .nx id T i (.part U lo hi),.int _ k=>zH S id T i fun U' u=>chk (Nat.beq U U' && Nat.beq ti.size (C.size U)) ((Zv u lo hi).bind fun u'=>(zd u' k).bind fun _=>some (.nx id T i (.elem U (lo+k) 0)))
   |_,_=>none)
  |none=>none)
 |some (.array n e)=>(match P.info? e with
  |some ti=>(match A,B with
   | .pc id off,.int .i64 i=>chk (!Nat.beq ti.size 0) (zcc ti.size id off i n some)
   |_,_=>none)
  |none=>none)
 |_=>none
theorem ztl {T:Nat}{s:Sl (C.D T)}{cl:Bool}{v:Value}(h:VR C Z ν v (.sl T s cl)) {i:Int}{q:C.D T}(hq:zd s i=some q):VR C Z ν (.pointer (some (zh v (i.toNat * C.size T)))) (.pz T q 0):=by
 have hr:Rv C Z v (.sl T s cl):=h;obtain ⟨h0,hg⟩:=yB.1 hq;cases hr with
 | @sl _ _ _ a n c cell h1 h2 h3 h4 h5 h6 h7 h8=>
  cases a with
  |none=>
   grind
  |some ad=>
   have e:zh (.slice (some ad) n c) (i.toNat * C.size T)=(ad.add (i.toNat * C.size T)).add 0:=by
    rw [Addr.add_add];rfl
   rw [e];refine Rv.pz (cell i.toNat) (fun j B hj=>?_) (fun j B hj=>h8 _ _ _ _ hg hj);obtain ⟨ad',ha,hc⟩:=h7 _ _ _ _ hg hj;cases ha;rw [Addr.add_add];exact hc
theorem zlL (hA:Abs S ν vs ids L b Z PV) (h:Xp P S t (S.op x) (S.op y)=some A):Yl P Z PV L b ⟨some d,.indexAddr t x y,ty,ps,af,g⟩ (fun v=>VR C Z ν v A):=by
 have hx:=hA.op x;have hy:=hA.op y;unfold Xp at h;split at h
 ·rename_i e hu;split at h
  ·rename_i ti hi;split at h
   ·rename_i T s cl k i e1 e2;rw [e1] at hx;rw [e2] at hy;obtain ⟨hz,h⟩:=zb h;have hz:ti.size=(zE C T).size:=jz hz;obtain ⟨q,hq,h⟩:=jy h;cases h;exact .of (zal hu hi hz rfl hy.int_inv hx.sl_vrel hq) (ztl hx hq)
   ·rename_i id k i e1 e2;rw [e1] at hx;rw [e2] at hy;split at h
    ·rename_i T s hs;obtain ⟨hz,h⟩:=zb h;have hz:ti.size=(zE C T).o.size:=jz hz;obtain ⟨q,hq,h⟩:=jy h;cases h;obtain ⟨m,hm,_⟩:=hA.at hs;have hx:opv L b x=ν.hdr id:=hx;exact .of (V8 m hu hi hz hx hy.int_inv hm hq) (by show _=Value.pointer (some _);rw [Ue];rfl)
    ·rename_i T s gg hs;obtain ⟨hz,h⟩:=zb h;have hz:ti.size=(Zh C T).size:=jz hz;obtain ⟨q,hq,h⟩:=jy h;cases h;obtain ⟨m,hm,_⟩:=hA.at hs;have hx:opv L b x=ν.hdr id:=hx;exact .of (V8 m hu hi hz hx hy.int_inv hm (wZ hq)) (by show _=Value.pointer (some _);rw [Ue];rfl)
    ·cases h
   ·rename_i id T i k0 k e1 e2;rw [e1] at hx;rw [e2] at hy;obtain ⟨U,u,h,hS⟩:=xp hA h;obtain ⟨hz,h⟩:=zb h;have hz:ti.size=(zE C U).size:=jz hz;obtain ⟨q,hq,h⟩:=jy h;cases h;have hx:opv L b x=(ν.adr id).sub i.toNat:=hx.1;intro w hw;refine ⟨.pointer (some (zh ((ν.adr id).sub i.toNat) (k.toNat * C.size U))),?_,by show _=Value.pointer (some _);grind,rfl⟩;rcases (hS w hw).cases hw with hv | hv
    ·exact zal (PV:=PV) hu hi hz hx hy.int_inv hv hq w hw
    ·exact V8 (PV:=[.row (zE C U).o U ((ν.adr id).sub i.toNat) u]) (T:=(zE C U).o) 0 hu hi hz hx hy.int_inv rfl hq w hv
   ·rename_i id T i U lo hi2 k0 k e1 e2;rw [e1] at hx;rw [e2] at hy;obtain ⟨U',u,h,hS⟩:=xp hA h;obtain ⟨hz,h⟩:=zb h;simp only [g9] at hz;obtain rfl:=jz hz.1;have hz:ti.size=C.size U:=jz hz.2;obtain ⟨u',hq,h⟩:=jy h;obtain ⟨y0,hq2,h⟩:=jy h;cases h;obtain ⟨g1,g2,g3,rfl⟩:=Wv hq;have hk:=zak hq2;simp only [GQ,Uk] at hk;have hy:=hy.int_inv;have hx:opv L b x=WH ((ν.adr id).sub i.toNat) lo hi2 (C.size U):=hx.1;intro w hw;obtain ⟨a,c,hv,k1,k2⟩:=(hS w hw).form hw;rw [hv] at hx;refine ⟨.pointer (some (zh ((ν.adr id).sub i.toNat) ((lo+k).toNat * C.size U))),?_,by show _=Value.pointer (some _);grind,rfl⟩;cases a with
    |none=>grind
    |some ad=>
     have hc:¬ (c:Int)=lo:=by omega
     have hkl:¬ max (hi2 - lo) 0<=k:=by omega
     have hs:(lo+k).toNat=lo.toNat+k.toNat:=by omega
     simp [execOp,hx,hy,Instr.indexAt,asIntOf,GU hu,sizeOf,typeInfo,hi,hz,zh,WH,hc,hk.1,hkl,hv,hs,Addr.add_add,GR]
   ·cases h
  ·cases h
 ·rename_i n e hu;split at h
  ·rename_i ti hi;split at h
   ·rename_i id off i e1 e2;rw [e1] at hx;rw [e2] at hy;obtain ⟨hz,h⟩:=zb h;have hz:ti.size≠0:=fun e=>by rw [e] at hz;cases hz
    obtain ⟨j,hj,hij,rfl⟩:=zfV h;subst hij;exact .of (zkn hu hi hz hx hy.int_inv hj rfl) (by show _=Value.pointer (some _);rw [Addr.add_add])
   ·cases h
  ·cases h
 ·cases h
def Zw (S:St C) (dflt:Int):G3 Operand->G3 Int
 |none=>some dflt
 |some x=>match S.op x with
  | .int _ i=>some i
  |_=>none
theorem Xq (hA:Abs S ν vs ids L b Z PV) {dflt i:Int}{o:G3 Operand}(h:Zw S dflt o=some i):xE L b o dflt i:=by
 cases o with
 |none=>simp only [Zw] at h;cases h;exact rfl
 |some x=>
  have hx:=hA.op x;simp only [Zw] at h;split at h
  ·rename_i k j e;rw [e] at hx;cases h;exact ⟨k,hx.int_inv⟩
  ·cases h
def Y7 (P:Program) (S:St C) (t:TypeId) (A:AV C.D) (lo hi:G3 Operand):G3 (AV C.D):=
 match P.underlying t,A with
 |some .string,.str s=>(match Zw S 0 lo,Zw S s.size hi with
  |some i,some j=>(ZB s i j).bind fun u=>some (.str u)
  |_,_=>none)
 |some (.slice e),.sl T s _=>(match P.info? e,Zw S 0 lo,Zw S s.len hi with
  |some ti,some i,some j=>chk (Nat.beq ti.size (C.size T)) ((Zv s i j).bind fun u=>some (.sl T u false))
  |_,_,_=>none)
 |some (.slice e),.nx id T k .whole=>(match P.info? e,Zw S 0 lo with
  |some ti,some i=>zH S id T k fun U u=>(match Zw S u.len hi with
   |some j=>chk (Nat.beq ti.size (C.size U)) ((Zv u i j).bind fun _=>some (.nx id T k (.part U i j)))
   |none=>none)
  |_,_=>none)
 |_,_=>none
theorem ziO {e:TypeId}{ti:TypeInfo}{lo hi:G3 Operand}{i j:Int}{a:G3 Addr}{m c z:Nat}(hu:P.underlying t=some (.slice e)) (hi':P.info? e=some ti) (hz:ti.size=z)
    (hx:opv L b x = .slice a m c) (hmc:m<=c) (hl:xE L b lo 0 i) (hh:xE L b hi (m:Int) j) (h1:0<=i) (h2:i<=j) (h3:j<=m) :
    zZ P Z PV L b ⟨some d,.slice t x lo hi none,ty,ps,af,g⟩ (WH (.slice a m c) i j z):=fun w hw=>by
  have hb:=xS (P:=P) (w:=w) (isS:=true) (m:=m) (c:=c) hl hh h1 h2 (by omega);have hs2:(Instr.sliceAt t (.slice a m c) (lo.map (opv L b)) (hi.map (opv L b)) none).run P w = .ok (.slice (if (c:Int)=i then a else a.map (·.add (i.toNat * z))) (j - i).toNat (c - i.toNat)) w:=by
    unfold Instr.sliceAt Instr.slice;simp only [GV,GU hu,GW];simp only [GV,GW,hb,sizeOf,typeInfo,GX,hi',GT,hz];rw [show j.toNat - i.toNat=(j - i).toNat by omega];grind
  simp only [execOp,hx,GV,hs2,GW,GT,Option.map_none,WH]
theorem zlM (hA:Abs S ν vs ids L b Z PV) {lo hi:G3 Operand}(h:Y7 P S t (S.op x) lo hi=some A):Yl P Z PV L b ⟨some d,.slice t x lo hi none,ty,ps,af,g⟩ (fun v=>VR C Z ν v A):=by
 have hx:=hA.op x;unfold Y7 at h;split at h
 ·rename_i s hu e;rw [e] at hx;split at h
  ·rename_i i j h1 h2;obtain ⟨u,hq,h⟩:=jy h;cases h;exact .of (zfT hu hx.str_inv (Xq hA h1) (Xq hA h2) hq) Rv.str
  ·cases h
 ·rename_i e T s cl hu e1;rw [e1] at hx;split at h
  ·rename_i ti i j hi h1 h2;obtain ⟨hz,h⟩:=zb h;have hz:ti.size=(zE C T).size:=jz hz;obtain ⟨u,hq,h⟩:=jy h;cases h;obtain ⟨v,hv,hr⟩:=zfR (P:=P) (PV:=PV) (d:=d) (ty:=ty) (ps:=ps) (af:=af) (g:=g) hu hi hz rfl hx.sl_vrel (Xq hA h1) (Xq hA h2) hq;exact .of hr (Rv.of_vrel hv).vr
  ·cases h
 ·rename_i e id T k hu e1;rw [e1] at hx;split at h
  ·rename_i ti i hi h1;obtain ⟨U,u,h,hS⟩:=xp hA h;split at h
   ·rename_i j h2;obtain ⟨hz,h⟩:=zb h;have hz:ti.size=C.size U:=jz hz;obtain ⟨u',hq,h⟩:=jy h;cases h;obtain ⟨g1,g2,g3,_⟩:=Wv hq;have hx:opv L b x=(ν.adr id).sub k.toNat:=hx.1;intro w hw;obtain ⟨a,c,hv,k1,k2⟩:=(hS w hw).form hw;have hx2:opv L b x = .slice a u.xs.length c:=by rw [hx,hv]
    refine ⟨_,ziO (PV:=PV) hu hi hz hx2 k2 (Xq hA h1) (Xq hA h2) g1 g2 g3 w hw,?_,rfl⟩;show _=WH ((ν.adr id).sub k.toNat) i j (C.size U);rw [hv]
   ·cases h
  ·cases h
 ·cases h
def wu (P:Program) (S:St C) (t:TypeId) (A:AV C.D):G3 (AV C.D):=
 match P.underlying t,A with
 |some .string,.str s=>some (.int .i64 s.size)
 |some (.slice _),.sl _ s _=>some (.int .i64 s.len)
 |some (.slice _),.nils=>some (.int .i64 0)
 |some (.slice _),.row id=>(match S.heap id with
  |some (.row _ s)=>some (.int .i64 s.len)
  |some (.orow _ s _)=>some (.int .i64 s.len)
  |_=>none)
 |some (.slice _),.nx id T i .whole=>zH S id T i fun _ u=>some (.int .i64 u.len)
 |some (.slice _),.nx id T k (.part U i j)=>zH S id T k fun U' u=>chk (Nat.beq U U') ((Zv u i j).bind fun _=>some (.int .i64 (j - i)))
 |_,_=>none
theorem zp2 (hA:Abs S ν vs ids L b Z PV) (h:wu P S t (S.op x)=some A):Yl P Z PV L b ⟨some d,.call {callee :=.builtin .len,args:= #[x],argTypes:= #[t]},ty,ps,af,g⟩ (fun v=>VR C Z ν v A):=by
 have hx:=hA.op x;unfold wu at h;split at h
 ·rename_i hu e;rw [e] at hx;cases h;exact .of (ziC hu hx.str_inv) Rv.int
 ·rename_i hu e;rw [e] at hx;cases h;exact .of (vH hu rfl hx.sl_vrel) Rv.int
 ·rename_i hu e;rw [e] at hx;cases h;have hx:VR C Z ν (opv L b x) (.sl 0 ⟨[],false⟩ true):=by rw [show opv L b x = .slice none 0 0 from hx];exact ziN
  exact .of (vH hu rfl hx.sl_vrel) Rv.int
 ·rename_i id hu e;rw [e] at hx;split at h
  ·rename_i T s hs;cases h;obtain ⟨m,hm,_⟩:=hA.at hs;exact .of (zb5 m hu (show opv L b x=ν.hdr id from hx) hm) Rv.int
  ·rename_i T s gg hs;cases h;obtain ⟨m,hm,_⟩:=hA.at hs;rw [<- zok (sub:=(ν.adr id).sub) (g:=gg)];exact .of (zb5 m hu (show opv L b x=ν.hdr id from hx) hm) Rv.int
  ·cases h
 ·rename_i id T i hu e;rw [e] at hx;obtain ⟨U,u,h,hS⟩:=xp hA h;cases h;have hx:opv L b x=(ν.adr id).sub i.toNat:=hx.1;intro w hw;refine ⟨.int .i64 u.len,?_,Rv.int⟩;rcases (hS w hw).cases hw with hv | hv
  ·exact vH (PV:=PV) hu hx hv w hw
  ·exact zb5 (PV:=[.row (zE C U).o U ((ν.adr id).sub i.toNat) u]) (T:=(zE C U).o) 0 hu hx rfl w hv
 ·rename_i id T k U i j hu e;rw [e] at hx;obtain ⟨U',u,h,hS⟩:=xp hA h;obtain ⟨hz,h⟩:=zb h;obtain rfl:=jz hz;obtain ⟨u',hq,h⟩:=jy h;cases h;obtain ⟨g1,g2,g3,_⟩:=Wv hq;have hx:opv L b x=WH ((ν.adr id).sub k.toNat) i j (C.size U):=hx.1;intro w hw;refine ⟨.int .i64 (j - i),?_,Rv.int⟩;obtain ⟨a,c,hv,k1,k2⟩:=(hS w hw).form hw;rw [hv] at hx;have hji:(((j - i).toNat:Nat):Int)=j - i:=by omega
  simp [execOp,resolve,invoke,builtin,hx,WH,Builtin.len_,GU hu,goInt,hji]
 ·cases h
end
end
section
variable [Dfr]
section
variable {C:Cod}{S:St C}{ν:Val}{vs:Nat->List Value}{ids:List Nat}{L:List (Nat×Value)}{b:Nat->Value}{Z:FS}{PV:List Priv}{P:Program}
variable {t t' ty:TypeId}{x y z:Operand}{d:Nat}{ps:String}{af:Array Edge}{g:G3 (Nat×Bool)}{A:AV C.D}
def Yw {D:Nat->Type}:AV D->Bool
 | .agg cs=>cs.all AV.leaf
 |v=>v.leaf
def W6 {D:Nat->Type}(pls:List (Nat×Nat)):List (AV D)->List (Nat×AV D)->G3 (List (AV D))
 |cs,[]=>some cs
 |cs,(i,c)::r=>match pls[i]? with
  |none=>none
  |some (off,size)=>chk (Yw c && (Nat.beq (zq c).length size && Nat.ble (off+(zq c).length) cs.length)) (W6 pls (cs.take off++zq c++cs.drop (off+(zq c).length)) r)
theorem zcd {D:Nat->Type}{A:AV D}(h:Yw A=true):A.leaf=true\/∃ cs,A = .agg cs/\cs.all AV.leaf=true:=by
 cases A
 case agg cs=>exact .inr ⟨cs,rfl,h⟩
 all_goals exact .inl h
theorem Zy {v:Value}(h:VR C Z ν v A) (hs:Yw A=true) (hh:∀ i,(ν.hdr i).oneCell'=true):VRs C Z ν v.cells.toList (zq A)/\∀ u∈v.cells.toList,u.oneCell'=true:=by
 rcases zcd hs with hl | ⟨cs,rfl,hs⟩
 ·refine ⟨h.cells (.inl hl) hh,fun u hu=>?_⟩;have h1:=h.one hl hh;have e:v.cells.toList=[v]:=by cases v <;> simp_all [Value.oneCell',Value.cells]
  grind
 ·obtain ⟨us,rfl,k⟩:=h;refine ⟨by simpa [Value.cells,zq] using k,fun u hu=>?_⟩;have hu:u∈us:=by simpa [Value.cells] using hu
  obtain ⟨j,hj⟩:=List.mem_iff_getElem?.1 hu;have hl:=k.len;have hjl:=(GC.1 hj).1;have hc:=GI (show j < cs.length by omega);exact (k.rel hj hc).one (Uu.1 hs _ (GS hc)) hh
theorem zd6 (hh:∀ i,(ν.hdr i).oneCell'=true) (pls:List (Nat×Nat)):∀ (ps:List (Nat×AV C.D)) (us:List (Nat×Value)) (cs r:List (AV C.D)) (ws:List Value),us.map (·.1)=ps.map (·.1)->(∀ (j:Nat) u B,us[j]?=some u->ps[j]?=some B->VR C Z ν u.2 B.2)->VRs C Z ν ws cs->W6 pls cs ps=some r->
    ∃ rs,Vt pls ws (us.map fun u=>(u.1,u.2.cells.toList))=some rs/\VRs C Z ν rs r
  |[],us,cs,r,ws,h1,h2,h3,h4=>by
    simp only [W6] at h4;cases h4;have:us=[]:=by simpa using h1
    subst this;exact ⟨ws,rfl,h3⟩
  |(i,c)::ps,[],cs,r,ws,h1,h2,h3,h4=>by simp at h1
  |(i,c)::ps,(j,u)::us,cs,r,ws,h1,h2,h3,h4=>by
    simp only [GE,List.cons.injEq] at h1;obtain ⟨rfl,h1⟩:=h1;simp only [W6] at h4;simp only [GE,Vt];cases hp:pls[j]? with
    |none=>grind
    |some q=>
      obtain ⟨off,size⟩:=q;rw [hp] at h4;simp only at h4 |-
      obtain ⟨hc,h5⟩:=zb h4;simp only [g9] at hc;obtain ⟨c1,c2,c3⟩:=hc;have hcu:=(Zy (h2 0 (j,u) (j,c) rfl rfl) c1 hh).1;have hl:=hcu.len;have hl2:=h3.len;rw [<- hl] at c2 c3 h5;rw [<- hl2] at c3;rw [c2,c3];simp only [Bool.and_self,Uv];exact zd6 hh pls ps us _ r _ h1 (fun k u B hu hB=>h2 (k+1) u B (by simpa using hu) (by simpa using hB)) (((h3.take off).append hcu).append (h3.drop _)) h5
def zeK (P:Program):List Field->G3 (List (Nat×Nat))
 |[]=>some []
 |f::fs=>match P.info? f.type,zeK P fs with
  |some ti,some r=>some ((f.offset,ti.size)::r)
  |_,_=>none
theorem ziP:∀ {fs:List Field}{pls:List (Nat×Nat)},zeK P fs=some pls->fs.map (fun f=>(P.info? f.type).map fun i=>(f.offset,i.size))=pls.map some
 |[],pls,h=>by simp only [zeK] at h;cases h;rfl
 |f::fs,pls,h=>by
  simp only [zeK] at h;split at h
  ·rename_i ti r hi hr;cases h;simp [hi,ziP hr]
  ·cases h
def zce (size n:Nat):List (Nat×Nat):=(List.range n).map fun i=>(i * size,size)
theorem zgK {p q:Nat->G3 (Nat×Nat)}(h:∀ i x,p i=some x->q i=some x):∀ (ps:List (Nat×Value)) (cs r:Array Value),Instr.fill p cs ps=some r->Instr.fill q cs ps=some r
 |[],cs,r,hf=>hf
 |(i,v)::ps,cs,r,hf=>by
  simp only [Instr.fill] at hf |-
  cases hp:p i with
  |none=>grind
  |some x=>
   rw [hp] at hf;rw [h i x hp];obtain ⟨off,size⟩:=x;simp only at hf |-
   split at hf
   ·cases hf
   ·rename_i hc;rw [js hc];exact zgK h ps _ r hf
theorem zlN {n:Nat}{e:TypeId}{ti te:TypeInfo}{zv:Value}{parts:Array (Nat×Operand)}{vs:List (Nat×Value)}{pcs:List (Nat×List Value)}{cs:List Value}(hu:P.underlying t=some (.array n e)) (hi:P.info? t=some ti) (he:P.info? e=some te) (hz:ti.zero=some zv)
    (hp:(parts.toList.map fun q=>(q.1,opv L b q.2))=vs) (hc:zb8 vs pcs) (hf:Vt (zce te.size n) zv.cells.toList pcs=some cs) :
    zZ P Z PV L b ⟨some d,.build t parts,ty,ps,af,g⟩ (.agg cs.toArray):=fun w _=>by
  have hpa:(parts.map fun (q:Nat×Operand)=>(q.1,opv L b q.2)).toList=vs:=by rw [Array.toList_map];exact hp
  have hfill:=zgK (q:=fun i=>some (i * te.size,te.size)) (fun i x hx=>by
    simp only [zce,GA] at hx;cases hr:(List.range n)[i]? with
    |none=>grind
    |some j=>
      rw [hr] at hx;have:j=i:=by
        grind
      grind) _ _ _ (ziG (zce te.size n) vs pcs zv.cells cs hc hf)
  have:(Instr.build t (parts.map fun q=>(q.1,opv L b q.2))).run P w = .ok (.agg cs.toArray) w:=by
    unfold Instr.build;simp only [GV,zeroValue,sizeOf,typeInfo,GX,GW,hi,he,GT,hz,GU hu,hpa,hfill]
  simp only [execOp,GV,this,GW,GT]
def WS {α:Type}(l:List α) (i:Int):G3 α:=if 0<=i then l[i.toNat]? else none
def zaU {D:Nat->Type}:List (AV D)->G3 (List ByteArray)
 |[]=>some []
 | .str s::r=>(zaU r).bind fun l=>some (s::l)
 |_=>none
def zc2 {D:Nat->Type}(k:IntKind):List (AV D)->G3 (List Int)
 |[]=>some []
 | .int k' n::r=>chk (decide (k'=k)) ((zc2 k r).bind fun l=>some (n::l))
 |_=>none
def zeL (n:Nat) (cs:List (AV C.D)) (i:Int):G3 (AV C.D):=chk (Nat.beq n cs.length) (match zaU cs with
 |some l=>(WS l i).bind fun s=>some (.str s)
 |none=>(match cs with
  | .int k _::_=>(zc2 k cs).bind fun l=>(WS l i).bind fun m=>some (.int k m)
  |_=>none))
theorem zgL {α:Type}{l:List α}{i:Int}{x:α}(h:WS l i=some x):0<=i/\l[i.toNat]?=some x:=by
 unfold WS at h;grind
theorem zgM:∀ {cs:List (AV C.D)}{l:List ByteArray},zaU cs=some l->∀ {j:Nat}{s:ByteArray},l[j]?=some s->cs[j]?=some (.str s)
 |[],l,h,j,s,hj=>by simp only [zaU] at h;grind
 |A::r,l,h,j,s,hj=>by
  cases A <;> simp only [zaU] at h <;> try (cases h;done)
  obtain ⟨l',h1,h2⟩:=jy h;cases h2;cases j with
  |zero=>grind
  |succ j=>simpa using zgM h1 (by simpa using hj)
theorem zgN {k:IntKind}:∀ {cs:List (AV C.D)}{l:List Int},zc2 k cs=some l->∀ {j:Nat}{m:Int},l[j]?=some m->cs[j]?=some (.int k m)
 |[],l,h,j,s,hj=>by simp only [zc2] at h;grind
 |A::r,l,h,j,s,hj=>by
  cases A <;> simp only [zc2] at h <;> try (cases h;done)
  obtain ⟨hk,h⟩:=zb h;have:=Us hk;subst this;obtain ⟨l',h1,h2⟩:=jy h;cases h2;cases j with
  |zero=>grind
  |succ j=>simpa using zgN h1 (by simpa using hj)
theorem zon {n:Nat}{cs:List (AV C.D)}{i:Int}{A:AV C.D}(h:zeL n cs i=some A):0<=i/\i < n/\cs[i.toNat]?=some A:=by
 obtain ⟨hn,h⟩:=zb h;have hn:=jz hn
 have key:∀ {A:AV C.D},0<=i->cs[i.toNat]?=some A->0<=i/\i < n/\cs[i.toNat]?=some A:=fun h0 h1=>⟨h0,by
  grind,h1⟩
 split at h
 ·rename_i l hl;obtain ⟨s,hs,h⟩:=jy h;cases h;obtain ⟨h0,h1⟩:=zgL hs;exact key h0 (zgM hl h1)
 ·split at h
  ·obtain ⟨l,hl,h⟩:=jy h;obtain ⟨m,hm,h⟩:=jy h;cases h;obtain ⟨h0,h1⟩:=zgL hm;exact key h0 (zgN hl h1)
  ·cases h
theorem zp3 {p:Nat->Prop}{n:Nat}{cs:List (AV C.D)}{i:Int}{A:AV C.D}(h:zeL n cs i=some A):(∃ s,A = .str s)\/∃ k m,A = .int k m:=by
 obtain ⟨_,h⟩:=zb h;split at h
 ·obtain ⟨s,hs,h⟩:=jy h;grind
 ·split at h
  ·obtain ⟨l,hl,h⟩:=jy h;obtain ⟨m,hm,h⟩:=jy h;grind
  ·cases h
def zao (P:Program) (t:TypeId) (A B:AV C.D):G3 (AV C.D):=match P.underlying t,A,B with
 |some .string,.str s,.int _ i=>(Zb s i).bind fun c=>some (.int .u8 c)
 |some (.array n e),.agg cs,.int _ i=>(match P.underlying e,P.info? e with
  |some td,some te=>chk (!Zd td && Nat.beq te.size 1) (zeL n cs i)
  |_,_=>none)
 |_,_,_=>none
theorem zlO {n:Nat}{e:TypeId}{td:TypeDesc}{te:TypeInfo}{cs:List Value}{k:IntKind}{i:Int}{v:Value}(hu:P.underlying t=some (.array n e)) (hud:P.underlying e=some td) (hi:P.info? e=some te) (hd:Zd td=false) (h1:te.size=1) (hx:opv L b x = .agg cs.toArray) (hy:opv L b y = .int k i) (h0:0<=i) (hn:i < n) (hv:cs[i.toNat]?=some v) :
    zZ P Z PV L b ⟨some d,.index t x y,ty,ps,af,g⟩ v:=fun w _=>by
  have hagg:(Go.isAgg e).run P w=Result.ok (Zd td) w:=by
    unfold Go.isAgg;rw [GV,GU hud];cases td <;> rfl
  have:(Instr.index t (.agg cs.toArray) (.int k i)).run P w = .ok v w:=by
    unfold Instr.index;simp only [asIntOf,GV,GT,GW,GU hu];rw [jr ⟨h0,hn⟩];simp only [part,sizeOf,typeInfo,GX,hi,h1,GV,GT,GW,hagg,hd,Nat.mul_one,List.getElem?_toArray,hv];simp
  simp only [execOp,hx,hy,GV,this,GW,GT]
theorem zoo (hA:Abs S ν vs ids L b Z PV) (h:zao P t (S.op x) (S.op y)=some A):Yl P Z PV L b ⟨some d,.index t x y,ty,ps,af,g⟩ (fun v=>VR C Z ν v A):=by
 have hx:=hA.op x;have hy:=hA.op y;unfold zao at h;split at h
 ·rename_i hu e1 e2;rw [e1] at hx;rw [e2] at hy;obtain ⟨c,hc,h⟩:=jy h;cases h;exact .of (zfS hu hx.str_inv hy.int_inv hc) Rv.int
 ·rename_i hu e1 e2;rw [e1] at hx;rw [e2] at hy;split at h
  ·rename_i td te hud hi;obtain ⟨hc,h2⟩:=zb h;simp only [g9,Ut] at hc;obtain ⟨h0,hn,hcs⟩:=zon h2;obtain ⟨us,e3,hr⟩:=hx;obtain ⟨u,hu1,hu2⟩:=hr.get _ A hcs;exact .of (zlO hu hud hi hc.1 (jz hc.2) e3 hy.int_inv h0 hn hu1) hu2
  ·cases h
 ·cases h
def w5 (P:Program) (S:St C) (t:TypeId) (parts:List (Nat×Operand)):G3 (AV C.D):=
 match P.underlying t,P.info? t with
 |some (.struct fs),some ti=>(match ti.zero,zeK P fs.toList with
  |some zv,some pls=>(W6 pls (zv.cells.toList.map yd) (parts.map fun q=>(q.1,S.op q.2))).bind fun cs=>some (.agg cs)
  |_,_=>none)
 |some (.array n e),some ti=>(match ti.zero,P.info? e with
  |some zv,some te=>(W6 (zce te.size n) (zv.cells.toList.map yd) (parts.map fun q=>(q.1,S.op q.2))).bind fun cs=>some (.agg cs)
  |_,_=>none)
 |_,_=>none
theorem zaV:∀ us:List (Nat×Value),zb8 us (us.map fun u=>(u.1,u.2.cells.toList))
 |[]=>trivial
 |(i,v)::us=>⟨rfl,rfl,zaV us⟩
theorem zlP (hA:Abs S ν vs ids L b Z PV) {parts:Array (Nat×Operand)}(h:w5 P S t parts.toList=some A):Yl P Z PV L b ⟨some d,.build t parts,ty,ps,af,g⟩ (fun v=>VR C Z ν v A):=by
 unfold w5 at h;split at h
 ·rename_i fs ti hu hi;split at h
  ·rename_i zv pls hz hp;obtain ⟨cs,hf,h⟩:=jy h;cases h
   obtain ⟨rs,h1,h2⟩:=zd6 (Z:=Z) (ν:=ν) hA.one pls _ (parts.toList.map fun q=>(q.1,opv L b q.2)) _ cs zv.cells.toList (by simp) (fun j u B hu hB=>by
    rw [GA] at hu hB;cases hq:parts.toList[j]? with
    |none=>grind
    |some q=>rw [hq] at hu hB;cases hu;cases hB;exact hA.op q.2) (X8 _) hf
   exact .of (zth hu hi hz (ziP hp) rfl (zaV _) h1) ⟨rs,rfl,h2⟩
  ·cases h
 ·rename_i n e ti hu hi;split at h
  ·rename_i zv te hz he;obtain ⟨cs,hf,h⟩:=jy h;cases h
   obtain ⟨rs,h1,h2⟩:=zd6 (Z:=Z) (ν:=ν) hA.one (zce te.size n) _ (parts.toList.map fun q=>(q.1,opv L b q.2)) _ cs zv.cells.toList (by simp) (fun j u B hu hB=>by
    rw [GA] at hu hB;cases hq:parts.toList[j]? with
    |none=>grind
    |some q=>rw [hq] at hu hB;cases hu;cases hB;exact hA.op q.2) (X8 _) hf
   exact .of (zlN hu hi he hz rfl (zaV _) h1) ⟨rs,rfl,h2⟩
  ·cases h
 ·cases h
def zc3 (P:Program) (t:TypeId) (m:Nat) (A:AV C.D):G3 (AV C.D):=
 match P.underlying t,A with
 |some (.struct fs),.agg cs=>(match fs[m]? with
  |some f=>Yc P f.type cs f.offset
  |none=>none)
 |_,_=>none
theorem zlQ (hA:Abs S ν vs ids L b Z PV) {m:Nat}(h:zc3 P t m (S.op x)=some A):Yl P Z PV L b ⟨some d,.field t x m,ty,ps,af,g⟩ (fun v=>VR C Z ν v A):=by
 have hx:=hA.op x;unfold zc3 at h;split at h
 ·rename_i fs cs hu e;rw [e] at hx;split at h
  ·rename_i f hf;obtain ⟨td,ti,hud,hi,h1,h2,rfl⟩:=Vu h;obtain ⟨us,hv,k⟩:=hx;have hl2:((us.drop f.offset).take ti.size).length=ti.size:=by rw [<- h1];simp [k.len]
   exact .of (zti hu hf hud hi hv rfl hl2 h2 rfl) ((k.drop _).take _).val
  ·cases h
 ·cases h
theorem zc4 (hA:Abs S ν vs ids L b Z PV):∀ l:List Operand,VRs C Z ν (l.map (opv L b)) (l.map S.op)
 |[]=>trivial
 |x::l=>⟨hA.op x,zc4 hA l⟩
def XJ (P:Program) (S:St C) (t:TypeId) (bo:BinOp) (A B:AV C.D):G3 (AV C.D):=match A with
 | .row id=>(match B,S.heap id with
  | .nils,some (.row _ s)=>(match P.underlying t,bo with
   |some (.slice _),.eql=>some (.bool !s.nn)
   |some (.slice _),.neq=>some (.bool s.nn)
   |_,_=>none)
  | .nils,some (.orow _ s _)=>(match P.underlying t,bo with
   |some (.slice _),.eql=>some (.bool !s.nn)
   |some (.slice _),.neq=>some (.bool s.nn)
   |_,_=>none)
  |_,_=>none)
 | .nx id T i .whole=>(match B with
  | .nils=>zH S id T i fun _ s=>(match P.underlying t,bo with
   |some (.slice _),.eql=>some (.bool !s.nn)
   |some (.slice _),.neq=>some (.bool s.nn)
   |_,_=>none)
  |_=>none)
 |A=>XR P t bo A B
theorem zop (hA:Abs S ν vs ids L b Z PV) {bo:BinOp}(h:XJ P S t bo (S.op x) (S.op y)=some A):Yl P Z PV L b ⟨some d,.binOp bo t x y t',ty,ps,af,g⟩ (fun v=>VR C Z ν v A):=by
 have hx:=hA.op x;have hy:=hA.op y;unfold XJ at h;split at h
 ·rename_i id ex;rw [ex] at hx;split at h
  ·rename_i T s ey hs;rw [ey] at hy;have hy:opv L b y = .slice none 0 0:=hy;have hx:opv L b x=ν.hdr id:=hx;obtain ⟨m,hm,_⟩:=hA.at hs;split at h
   ·rename_i hu;cases h;exact .of (V6 m hu hx hy hm) Rv.bool
   ·rename_i hu;cases h;exact .of (V7 m hu hx hy hm) Rv.bool
   ·cases h
  ·rename_i T s gg ey hs;rw [ey] at hy;have hy:opv L b y = .slice none 0 0:=hy;have hx:opv L b x=ν.hdr id:=hx;obtain ⟨m,hm,_⟩:=hA.at hs;split at h
   ·rename_i hu;cases h;exact .of (V6 m hu hx hy hm) Rv.bool
   ·rename_i hu;cases h;exact .of (V7 m hu hx hy hm) Rv.bool
   ·cases h
  ·cases h
 ·rename_i id T i ex;rw [ex] at hx;split at h
  ·rename_i ey;rw [ey] at hy;have hy:opv L b y = .slice none 0 0:=hy;have hx:opv L b x=(ν.adr id).sub i.toNat:=hx.1;obtain ⟨U,u,h2,hS⟩:=xp hA h;clear h;split at h2
   ·rename_i hu;cases h2;intro w hw;refine ⟨.bool !u.nn,?_,Rv.bool⟩;rcases (hS w hw).cases hw with hv | hv
    ·exact wV (PV:=PV) hu hx hy hv w hw
    ·exact V6 (PV:=[.row (zE C U).o U ((ν.adr id).sub i.toNat) u]) (T:=(zE C U).o) 0 hu hx hy rfl w hv
   ·rename_i hu;cases h2;intro w hw;refine ⟨.bool u.nn,?_,Rv.bool⟩;rcases (hS w hw).cases hw with hv | hv
    ·exact wW (PV:=PV) hu hx hy hv w hw
    ·exact V7 (PV:=[.row (zE C U).o U ((ν.adr id).sub i.toNat) u]) (T:=(zE C U).o) 0 hu hx hy rfl w hv
   ·cases h2
  ·cases h
 ·exact zp1 hA h
def yL:Operand->Bool
 | .const .nilIface=>true
 |_=>false
def xG (P:Program) (S:St C) (t:TypeId) (bo:BinOp) (x y:Operand):G3 (AV C.D):=bif yL y then
    (match P.underlying t,S.op x,bo with
    |some (.interface _),.ifc _ _,.eql=>some (.bool false)
    |some (.interface _),.ifc _ _,.neq=>some (.bool true)
    |some (.interface _),.nili,.eql=>some (.bool true)
    |some (.interface _),.nili,.neq=>some (.bool false)
    |_,_,_=>none)
  else XJ P S t bo (S.op x) (S.op y)
theorem X9 {y:Operand}(h:yL y=true):y = .const .nilIface:=by
 unfold yL at h;grind
theorem zoq (hA:Abs S ν vs ids L b Z PV) {bo:BinOp}(h:xG P S t bo x y=some A):Yl P Z PV L b ⟨some d,.binOp bo t x y t',ty,ps,af,g⟩ (fun v=>VR C Z ν v A):=by
 unfold xG at h;cases hy:yL y with
 |false=>rw [hy] at h;exact zop hA h
 |true=>
  rw [hy,Uv] at h;have:=X9 hy;subst this;have hx:=hA.op x;have hy:opv L b (.const .nilIface) = .nilIface:=rfl;split at h
  ·rename_i ms u B hu ex;rw [ex] at hx;cases h;obtain ⟨v,e,_⟩:=hx;exact .of (v :=.bool false) (fun w _=>by simp [execOp,e,hy,eqGuard,binOp,zeI hu]) Rv.bool
  ·rename_i ms u B hu ex;rw [ex] at hx;cases h;obtain ⟨v,e,_⟩:=hx;exact .of (v :=.bool true) (fun w _=>by simp [execOp,e,hy,eqGuard,binOp,zeI hu]) Rv.bool
  ·rename_i ms hu ex;rw [ex] at hx;cases h;exact .of (v :=.bool true) (fun w _=>by simp [execOp,hx.nili_inv,hy,eqGuard,binOp,zeJ hu]) Rv.bool
  ·rename_i ms hu ex;rw [ex] at hx;cases h;exact .of (v :=.bool false) (fun w _=>by simp [execOp,hx.nili_inv,hy,eqGuard,binOp,zeJ hu]) Rv.bool
  ·cases h
theorem ztm {t:TypeId}{td:TypeDesc}(hu:P.underlying t=some td) (hn:∀ ms,td ≠.interface ms) (x:Operand):zZ P Z PV L b ⟨some d,.makeInterface t x,ty,ps,af,g⟩ (.iface t (opv L b x)):=fun w _=>by
 simp only [execOp,Instr.makeInterface,GV,GU hu,GW];cases td <;> first | rfl | exact absurd rfl (hn _)
def zeM (q:Bool) (A B:AV C.D):G3 (AV C.D):=match A,B with
 | .int k i,.int k' j=>chk (decide (k=k')) (some (.int k (bif q then i else j)))
 | .bool i,.bool j=>some (.bool (bif q then i else j))
 | .str i,.str j=>some (.str (bif q then i else j))
 | .sl T s _,.sl T' s' _=>if h:T'=T then some (.sl T (bif q then s else h ▸ s') false) else none
 | .pnil,.pnil=>some .pnil
 | .nils,.nils=>some .nils
 | .pc i o,.pc i' o'=>chk (Nat.beq i i' && Nat.beq o o') (some (.pc i o))
 | .row i,.row i'=>chk (Nat.beq i i') (some (.row i))
 |_,_=>none
theorem VR.unclip {v:Value}{T:Nat}{s:Sl (C.D T)}{c:Bool}(h:VR C Z ν v (.sl T s c)):VR C Z ν v (.sl T s false):=(Rv.of_vrel h.sl_vrel).vr
theorem zp4 {q:Bool}{A B R:AV C.D}(h:zeM q A B=some R) {v:Value}(hv:VR C Z ν v (bif q then A else B)):VR C Z ν v R:=by
 unfold zeM at h;split at h
 ·obtain ⟨e,h2⟩:=zb h;grind
 ·grind
 ·grind
 ·split at h
  ·rename_i e;subst e;cases h;cases q <;> exact VR.unclip hv
  ·cases h
 ·grind
 ·grind
 ·obtain ⟨e,h2⟩:=zb h;simp only [g9] at e;have e1:=jz e.1;have e2:=jz e.2;grind
 ·obtain ⟨e,h2⟩:=zb h;have e1:=jz e;grind
 ·cases h
def zeN (q:Bool) (A B:AV C.D):G3 (AV C.D):=match zeM q A B with
 |some R=>some R
 |none=>bif q then some A else some B
theorem ziQ {q:Bool}{A B R:AV C.D}(h:zeN q A B=some R) {v:Value}(hv:VR C Z ν v (bif q then A else B)):VR C Z ν v R:=by
 unfold zeN at h;split at h
 ·rename_i e;cases h;exact zp4 e hv
 grind
def zaW (P:Program) (A:AV C.D) (t:TypeId) (ok:Bool):G3 (AV C.D):=match P.underlying t,P.info? t with
 |some (.interface _),_=>none
 |some _,some ti=>(match ok,A with
  |true,.ifc t' A=>chk (Nat.beq t' t) (some (.tup [A,.bool true]))
  |true,.nili=>(match ti.zero with
   |some zv=>some (.tup [zaR zv,.bool false])
   |none=>none)
  |_,_=>none)
 |_,_=>none
theorem zkv (hA:Abs S ν vs ids L b Z PV) {x:Operand}{xt t:TypeId}{ok:Bool}(h:zaW P (S.op x) t ok=some A):Yl P Z PV L b ⟨some d,.typeAssert x xt t ok,ty,ps,af,g⟩ (fun v=>VR C Z ν v A):=by
 unfold zaW at h;have hx:=hA.op x;split at h
 ·cases h
 ·rename_i td ti hn hu hi;split at h
  ·rename_i t' B e;rw [e] at hx;obtain ⟨hc,h2⟩:=zb h;have hc:=jz hc;subst hc;cases h2;obtain ⟨u,hu1,hu2⟩:=hx;refine .of (v :=.tuple #[u,.bool true]) (fun w _=>?_) ⟨[u,.bool true],rfl,hu2,Rv.bool,trivial⟩;cases td <;> first | exact absurd rfl (hn _) | simp [execOp,Instr.typeAssert,GU hu,hu1]
  ·rename_i e;rw [e] at hx;split at h
   ·rename_i zv hz;cases h;refine .of (v :=.tuple #[zv,.bool false]) (fun w _=>?_) ⟨[zv,.bool false],rfl,ziM zv,Rv.bool,trivial⟩;cases td <;> first | exact absurd rfl (hn _) | simp [execOp,Instr.typeAssert,GU hu,hx.nili_inv,zeroValue,typeInfo,hi,hz]
   ·cases h
  ·cases h
 ·cases h
def zcf {D:Nat->Type}:List (AV D)->Bool
 |[.tup _]=>true
 |[A]=>A.leaf
 |_=>true
def zor {D:Nat->Type}:List (AV D)->Bool
 |[A]=>A.leaf
 |_=>true
theorem ztn (f:Nat) (hone:∀ i,(ν.hdr i).oneCell'=true) {vals:List Value}{caps:List (AV C.D)}(hr:VRs C Z ν vals caps) (h:zor caps=true):V9 f vals = .func (.func f) #[] vals.toArray:=by
 match vals,caps,hr with
 |[],_,_=>rfl
 |[v],[A],hr=>
  refine zkS f fun u hu=>?_
  rw [Uw.1 hu];exact hr.1.one h hone
 |u::v::l,_,_=>cases u <;> rfl
def zap (S:St C) (f:Nat) (fs caps:List Operand):G3 (AV C.D):=match fs with
 |[]=>chk (zor (caps.map S.op)) (some (.clo f (caps.map S.op)))
 |fs=>match caps with
  |[]=>some (.clo f [.tup (fs.map S.op)])
  |_=>none
theorem zlR (hA:Abs S ν vs ids L b Z PV) {f:Nat}{fs caps:Array Operand}(h:zap S f fs.toList caps.toList=some A):Yl P Z PV L b ⟨some d,.makeFunc (.func f) fs caps,ty,ps,af,g⟩ (fun v=>VR C Z ν v A):=by
 unfold zap at h;split at h
 ·rename_i e;obtain ⟨hc,h2⟩:=zb h;cases h2;have hr:=zc4 hA caps.toList;exact .of (zeE (fs:=[]) (by rw [e];rfl) rfl) ⟨_,(ztn f hA.one hr hc).symm,hr⟩
 ·split at h
  ·rename_i e;cases h;exact .of (zeE (cs:=[]) rfl (by rw [e];rfl)) ⟨[.tuple (fs.toList.map (opv L b)).toArray],rfl,⟨_,rfl,zc4 hA _⟩,trivial⟩
  ·cases h
def yI (P:Program) (S:St C) (ty:TypeId):Op->G3 (AV C.D)
 | .move x=>some (zca P ty (S.op x))
 | .assign x=>some (zca P ty (S.op x))
 | .pick c a e=>match S.op c with
  | .bool q=>zeN q (S.op a) (S.op e)
  |_=>none
 | .nilCheck x=>match S.op x with
  | .pc id off=>some (.pc id off)
  | .pr id T i off=>some (.pr id T i off)
  | .pz T q off=>some (.pz T q off)
  | .nx id T i (.elem U k off)=>some (.nx id T i (.elem U k off))
  |_=>none
 | .binOp bo t x y _=>xG P S t bo x y
 | .makeInterface t x=>match P.underlying t with
  |some (.interface _)=>none
  |some _=>some (.ifc t (S.op x))
  |none=>none
 | .typeAssert x _ t ok=>zaW P (S.op x) t ok
 | .unOp .not _ x=>match S.op x with
  | .bool q=>some (.bool !q)
  |_=>none
 | .unOp .neg _ x=>match S.op x with
  | .int k i=>some (.int k (k.wrap (0 - i)))
  |_=>none
 | .convert t t' x=>match P.underlying t,P.underlying t',S.op x with
  |some _,some (.int k'),.int _ i=>some (.int k' (k'.wrap i))
  |_,_,_=>none
 | .makeFunc (.func f) fs caps=>zap S f fs.toList caps.toList
 | .extract x i=>match S.op x with
  | .tup us=>(us[i]?).bind fun A=>some (zca P ty A)
  |_=>none
 | .build t parts=>w5 P S t parts.toList
 | .field t x m=>zc3 P t m (S.op x)
 | .fieldAddr t x m=>zc1 P t m (S.op x)
 | .indexAddr t x y=>Xp P S t (S.op x) (S.op y)
 | .load t x=>xF P S t (S.op x)
 | .index t x y=>zao P t (S.op x) (S.op y)
 | .slice t x lo hi none=>Y7 P S t (S.op x) lo hi
 | .call ⟨.builtin .len,args,ts⟩=>match args.toList,ts.toList with
  |[x],[t]=>wu P S t (S.op x)
  |_,_=>none
 | .call ⟨.builtin .min,args,ts⟩=>match args.toList with
  |[x,y]=>(match S.op x,S.op y with
   | .int k i,.int k' j=>chk (decide (k=k')) (some (.int k (if j < i then j else i)))
   |_,_=>none)
  |_=>none
 | .call ⟨.builtin .max,args,ts⟩=>match args.toList with
  |[x,y]=>(match S.op x,S.op y with
   | .int k i,.int k' j=>chk (decide (k=k')) (some (.int k (if i < j then j else i)))
   |_,_=>none)
  |_=>none
 |_=>none
theorem zuF {α:Type}{a:Array α}{x:α}(h:a.toList=[x]):a = #[x]:=by grind
theorem zcg {α:Type}{a:Array α}{x y:α}(h:a.toList=[x,y]):a = #[x,y]:=by grind
theorem zto (hA:Abs S ν vs ids L b Z PV) {op:Op}(h:yI P S ty op=some A):Yl P Z PV L b ⟨some d,op,ty,ps,af,g⟩ (fun v=>VR C Z ν v A):=by
 unfold yI at h;split at h
 ·cases h;exact .of (zuz rfl) (zcb (hA.op _))
 ·cases h;exact .of (zpV rfl) (zcb (hA.op _))
 ·rename_i c a e;have hc:=hA.op c;split at h
  ·rename_i q e1;rw [e1] at hc;cases q with
   |true=>exact .of (zpW hc.bool_inv rfl rfl) (ziQ h (hA.op _))
   |false=>exact .of (zpX hc.bool_inv rfl rfl) (ziQ h (hA.op _))
  ·cases h
 ·rename_i x;have hx:=hA.op x;split at h
  ·rename_i e;rw [e] at hx;cases h;exact .of (W5 (show opv L b x = .pointer (some _) from hx)) (by rfl)
  ·rename_i e;rw [e] at hx;cases h;exact .of (W5 (show opv L b x = .pointer (some _) from hx)) (by rfl)
  ·rename_i e;rw [e] at hx;cases h;obtain ⟨ad,cell,hv,h1,h2⟩:=hx.pz_inv;exact .of (W5 hv) (by grind)
  ·rename_i e;rw [e] at hx;cases h;exact .of (W5 (show opv L b x = .pointer (some _) from hx.1)) ⟨rfl,rfl⟩
  ·cases h
 ·exact zoq hA h
 ·rename_i t x;split at h
  ·cases h
  ·rename_i td hn hu;cases h;exact .of (ztm hu (fun ms e=>hn ms e) x) ⟨_,rfl,hA.op x⟩
  ·cases h
 ·exact zkv hA h
 ·rename_i x;have hx:=hA.op x;split at h
  ·rename_i e;rw [e] at hx;cases h;exact .of (zwK hx.bool_inv) Rv.bool
  ·cases h
 ·rename_i x;have hx:=hA.op x;split at h
  ·rename_i e;rw [e] at hx;cases h;exact .of (zwL hx.int_inv) Rv.int
  ·cases h
 ·rename_i t t' x;have hx:=hA.op x;split at h
  ·rename_i hu hu' e;rw [e] at hx;cases h;exact .of (zho hu hu' hx.int_inv) Rv.int
  ·cases h
 ·exact zlR hA h
 ·rename_i x i;have hx:=hA.op x;split at h
  ·rename_i us e;rw [e] at hx;obtain ⟨B,hB,h⟩:=jy h;cases h;obtain ⟨ws,hv,k⟩:=hx;obtain ⟨u,hu,hr⟩:=k.get i B hB;exact .of (zoh hv (by simpa using hu)) (zcb hr)
  ·cases h
 ·exact zlP hA h
 ·exact zlQ hA h
 ·exact zlK hA h
 ·exact zlL hA h
 ·exact zom hA h
 ·exact zoo hA h
 ·exact zlM hA h
 ·split at h
  ·rename_i e1 e2;rw [zuF e1,zuF e2];exact zp2 hA h
  ·cases h
 ·split at h
  ·rename_i x y e1;rw [zcg e1];have hx:=hA.op x;have hy:=hA.op y;split at h
   ·rename_i e2 e3;rw [e2] at hx;rw [e3] at hy;obtain ⟨hk,h2⟩:=zb h;obtain rfl:=Us hk;cases h2;exact .of (zwM hx.int_inv hy.int_inv) Rv.int
   ·cases h
  ·cases h
 ·split at h
  ·rename_i x y e1;rw [zcg e1];have hx:=hA.op x;have hy:=hA.op y;split at h
   ·rename_i e2 e3;rw [e2] at hx;rw [e3] at hy;obtain ⟨hk,h2⟩:=zb h;obtain rfl:=Us hk;cases h2;exact .of (zwN hx.int_inv hy.int_inv) Rv.int
   ·cases h
  ·cases h
 ·cases h
end
end
section
variable [Dfr]
structure Kp where
 m:Nat
 le:m<=64
 ν0:Val
mutual
def AV.ok {D:Nat->Type}(p:Nat->Prop):AV D->Prop
 | .row id=>p id
 | .pc id _=>p id
 | .pr id _ _ _=>p id
 | .nx id _ _ _=>p id
 | .agg cs=>AV.oks p cs
 | .tup cs=>AV.oks p cs
 | .clo _ cs=>AV.oks p cs
 | .ifc _ A=>AV.ok p A
 |_=>True
def AV.oks {D:Nat->Type}(p:Nat->Prop):List (AV D)->Prop
 |[]=>True
 |A::As=>AV.ok p A/\AV.oks p As
end
mutual
def AV.sub {D:Nat->Type}(id:Nat) (R:AV D):AV D->AV D
 | .row j=>bif Nat.beq j id then R else .row j
 | .pc j o=>bif Nat.beq j id then .und else .pc j o
 | .pr j T i o=>bif Nat.beq j id then .und else .pr j T i o
 | .nx j T i x=>bif Nat.beq j id then .und else .nx j T i x
 | .agg cs =>.agg (AV.subs id R cs)
 | .tup cs =>.tup (AV.subs id R cs)
 | .clo f cs =>.clo f (AV.subs id R cs)
 | .ifc t A =>.ifc t (AV.sub id R A)
 |A=>A
def AV.subs {D:Nat->Type}(id:Nat) (R:AV D):List (AV D)->List (AV D)
 |[]=>[]
 |A::As=>AV.sub id R A::AV.subs id R As
end
section
variable {κ:Kp}{C:Cod}{S:St C}{ν ν':Val}{vs:Nat->List Value}{ids:List Nat}{L:List (Nat×Value)}{b:Nat->Value}{Z:FS}{PV:List Priv}{P:Program}
variable {t t' ty:TypeId}{x y z:Operand}{d:Nat}{ps:String}{af:Array Edge}{g:G3 (Nat×Bool)}{A:AV C.D}
omit [Dfr] in
mutual
theorem AV.ok_mono {D:Nat->Type}{p q:Nat->Prop}(h:∀ i,p i->q i):∀ {A:AV D},A.ok p->A.ok q
 | .row _,k=>h _ k
 | .pc _ _,k=>h _ k
 | .pr _ _ _ _,k=>h _ k
 | .nx _ _ _ _,k=>h _ k
 | .agg cs,k=>AV.oks_mono h (A:=cs) k
 | .tup cs,k=>AV.oks_mono h (A:=cs) k
 | .clo _ cs,k=>AV.oks_mono h (A:=cs) k
 | .ifc _ A,k=>AV.ok_mono h (A:=A) k
 | .int _ _,_=>trivial
 | .bool _,_=>trivial
 | .str _,_=>trivial
 | .sl _ _ _,_=>trivial
 | .pz _ _ _,_=>trivial
 | .pnil,_=>trivial
 | .nils,_=>trivial
 | .nilf,_=>trivial
 | .nili,_=>trivial
 | .und,_=>trivial
theorem AV.oks_mono {D:Nat->Type}{p q:Nat->Prop}(h:∀ i,p i->q i):∀ {A:List (AV D)},AV.oks p A->AV.oks q A
 |[],_=>trivial
 |A::As,⟨k,l⟩=>⟨AV.ok_mono h k,AV.oks_mono h l⟩
end
omit [Dfr] in
mutual
theorem VR.congr {p:Nat->Prop}(h:∀ i,p i->ν.hdr i=ν'.hdr i/\ν.adr i=ν'.adr i):∀ {A:AV C.D}{v:Value},A.ok p->VR C Z ν v A->VR C Z ν' v A
 | .row _,_,k,r=>by have:=(h _ k).1;rw [show _=ν.hdr _ from r,this];rfl
 | .pc _ _,_,k,r=>by have:=(h _ k).2;rw [show _=Value.pointer (some ((ν.adr _).add _)) from r,this];rfl
 | .pr _ _ _ _,_,k,r=>by have:=(h _ k).1;rw [show _=Value.pointer (some (zh (ν.hdr _) _)) from r,this];rfl
 | .nx _ _ _ _,_,k,r=>by refine ⟨?_,r.2⟩;rw [<- (h _ k).2];exact r.1
 | .agg cs,_,k,⟨vs,e,r⟩=>⟨vs,e,VRs.congr h k r⟩
 | .tup cs,_,k,⟨vs,e,r⟩=>⟨vs,e,VRs.congr h k r⟩
 | .clo _ cs,_,k,⟨vs,e,r⟩=>⟨vs,e,VRs.congr h k r⟩
 | .ifc _ A,_,k,⟨u,e,r⟩=>⟨u,e,VR.congr h k r⟩
 | .int _ _,_,_,r=>r
 | .bool _,_,_,r=>r
 | .str _,_,_,r=>r
 | .sl _ _ _,_,_,r=>r
 | .pz _ _ _,_,_,r=>r
 | .pnil,_,_,r=>r
 | .nils,_,_,r=>r
 | .nilf,_,_,r=>r
 | .nili,_,_,r=>r
 | .und,_,_,_=>trivial
theorem VRs.congr {p:Nat->Prop}(h:∀ i,p i->ν.hdr i=ν'.hdr i/\ν.adr i=ν'.adr i):∀ {cs:List (AV C.D)}{vs:List Value},AV.oks p cs->VRs C Z ν vs cs->VRs C Z ν' vs cs
 |[],[],_,_=>trivial
 |A::As,v::vs,⟨k,l⟩,⟨r,s⟩=>⟨VR.congr h k r,VRs.congr h l s⟩
 |[],_::_,_,r=>r.elim
 |_::_,[],_,r=>r.elim
end
omit [Dfr] in
mutual
theorem AV.ok_sub {D:Nat->Type}{p:Nat->Prop}{id:Nat}{R:AV D}(hR:R.ok fun j=>p j/\j≠id):∀ {A:AV D},A.ok p->(AV.sub id R A).ok fun j=>p j/\j≠id
 | .row j,k=>by
  unfold AV.sub;cases e:Nat.beq j id with
  |true=>exact hR
  |false=>exact ⟨k,fun e'=>by rw [e'] at e;simp at e⟩
 | .pc j o,k=>by
  unfold AV.sub;cases e:Nat.beq j id with
  |true=>trivial
  |false=>exact ⟨k,fun e'=>by rw [e'] at e;simp at e⟩
 | .pr j _ _ _,k=>by
  unfold AV.sub;cases e:Nat.beq j id with
  |true=>trivial
  |false=>exact ⟨k,fun e'=>by rw [e'] at e;simp at e⟩
 | .nx j _ _ _,k=>by
  unfold AV.sub;cases e:Nat.beq j id with
  |true=>trivial
  |false=>exact ⟨k,fun e'=>by rw [e'] at e;simp at e⟩
 | .agg cs,k=>AV.oks_sub hR (A:=cs) k
 | .tup cs,k=>AV.oks_sub hR (A:=cs) k
 | .clo _ cs,k=>AV.oks_sub hR (A:=cs) k
 | .ifc _ A,k=>AV.ok_sub hR (A:=A) k
 | .int _ _,_=>trivial
 | .bool _,_=>trivial
 | .str _,_=>trivial
 | .sl _ _ _,_=>trivial
 | .pz _ _ _,_=>trivial
 | .pnil,_=>trivial
 | .nils,_=>trivial
 | .nilf,_=>trivial
 | .nili,_=>trivial
 | .und,_=>trivial
theorem AV.oks_sub {D:Nat->Type}{p:Nat->Prop}{id:Nat}{R:AV D}(hR:R.ok fun j=>p j/\j≠id):∀ {A:List (AV D)},AV.oks p A->AV.oks (fun j=>p j/\j≠id) (AV.subs id R A)
 |[],_=>trivial
 |A::As,⟨k,l⟩=>⟨AV.ok_sub hR k,AV.oks_sub hR l⟩
end
omit [Dfr] in
mutual
theorem VR.sub {id:Nat}{R:AV C.D}(hR:VR C Z ν (ν.hdr id) R):∀ {A:AV C.D}{v:Value},VR C Z ν v A->VR C Z ν v (AV.sub id R A)
 | .row j,v,r=>by
  unfold AV.sub;cases e:Nat.beq j id with
  |true=>have:=jz e;subst this;rw [show v=ν.hdr j from r];exact hR
  |false=>exact r
 | .pc j o,v,r=>by
  unfold AV.sub;cases e:Nat.beq j id with
  |true=>trivial
  |false=>exact r
 | .pr j _ _ _,v,r=>by
  unfold AV.sub;cases e:Nat.beq j id with
  |true=>trivial
  |false=>exact r
 | .nx j _ _ _,v,r=>by
  unfold AV.sub;cases e:Nat.beq j id with
  |true=>trivial
  |false=>exact r
 | .agg cs,_,⟨vs,e,r⟩=>⟨vs,e,VRs.sub hR r⟩
 | .tup cs,_,⟨vs,e,r⟩=>⟨vs,e,VRs.sub hR r⟩
 | .clo _ cs,_,⟨vs,e,r⟩=>⟨vs,e,VRs.sub hR r⟩
 | .ifc _ A,_,⟨u,e,r⟩=>⟨u,e,VR.sub hR r⟩
 | .int _ _,_,r=>r
 | .bool _,_,r=>r
 | .str _,_,r=>r
 | .sl _ _ _,_,r=>r
 | .pz _ _ _,_,r=>r
 | .pnil,_,r=>r
 | .nils,_,r=>r
 | .nilf,_,r=>r
 | .nili,_,r=>r
 | .und,_,_=>trivial
theorem VRs.sub {id:Nat}{R:AV C.D}(hR:VR C Z ν (ν.hdr id) R):∀ {cs:List (AV C.D)}{vs:List Value},VRs C Z ν vs cs->VRs C Z ν vs (AV.subs id R cs)
 |[],[],_=>trivial
 |A::As,v::vs,⟨r,s⟩=>⟨VR.sub hR r,VRs.sub hR s⟩
 |[],_::_,r=>r.elim
 |_::_,[],r=>r.elim
end
omit [Dfr] in
structure AbsL (κ:Kp) (S:St C) (ν:Val) (vs:Nat->List Value) (ids:List Nat) (L:List (Nat×Value)) (b:Nat->Value) (Z:FS) (PV:List Priv):Prop extends Abs S ν vs ids L b Z PV where
 live:∀ t,(S.env t).ok fun id=>(S.heap id).isSome=true
 livec:∀ id cs,S.heap id=some (.cell cs)->AV.oks (fun id=>(S.heap id).isSome=true) cs
 keep:∀ k,k < κ.m->(S.heap k).isSome=true->ν.hdr k=κ.ν0.hdr k/\(ν.adr k).a=(κ.ν0.adr k).a/\(ZT (S.heap k)=true->(ν.adr k).sub=(κ.ν0.adr k).sub)
omit [Dfr] in
def zz (κ:Kp) (S:St C) (L:List (Nat×Value)) (b:Nat->Value) (Z:FS) (PV:List Priv):Prop:=∃ ν vs ids,AbsL κ S ν vs ids L b Z PV
def Ent.sub (id:Nat) (R:AV C.D):Ent C->Ent C
 | .cell cs =>.cell (AV.subs id R cs)
 | .row T s =>.row T s
 | .obj k T b s =>.obj k T b s
 | .orow T s g =>.orow T s g
def St.sub (S:St C) (id:Nat) (R:AV C.D):St C:=
 {env:=fun t=>AV.sub id R (S.env t),heap:=fun j=>bif Nat.beq j id then none else (S.heap j).map (Ent.sub id R)}
theorem zp5 {id:Nat}{R:AV C.D}{o:G3 (Ent C)}:ZT (o.map (Ent.sub id R))=ZT o:=by
 cases o with
 |none=>rfl
 |some e=>cases e <;> rfl
theorem vK {α β:Type}(f:α->β):∀ (l:List α) (m:Nat),(l.map f).eraseIdx m=(l.eraseIdx m).map f
 |[],_=>rfl
 |_::_,0=>rfl
 |a::l,m+1=>by simp [vK f l m]
omit [Dfr] in
theorem AbsL.sub (h:AbsL κ S ν vs ids L b Z PV) {id m:Nat}{R:AV C.D}{τ:FS}{PV':List Priv}(hm:ids[m]?=some id) (hl:Z.le τ) (hR:VR C τ ν (ν.hdr id) R) (hR2:R.ok fun j=>(S.heap j).isSome=true/\j≠id) (hP:PV.eraseIdx m=PV') :
    AbsL κ (S.sub id R) ν vs (ids.eraseIdx m) L b τ PV':=by
  have hmem:∀ j,j∈ids.eraseIdx m↔j∈ids/\j≠id:=by
    intro j;have hp:=List.pairwise_iff_getElem.1 (GD.1 h.nd);obtain ⟨hml,hid⟩:=GC.1 hm;rw [List.mem_eraseIdx_iff_getElem];constructor
    ·grind
    ·rintro ⟨hj,hne⟩;obtain ⟨i,hi,rfl⟩:=List.getElem_of_mem hj;grind
  have hheap:∀ j,j≠id->(S.sub id R).heap j=(S.heap j).map (Ent.sub id R):=fun j hj=>by
    show (bif Nat.beq j id then none else _)=_;cases e:Nat.beq j id with
    |true=>exact absurd (jz e) hj
    |false=>rfl
  have hid0:(S.sub id R).heap id=none:=by
    show (bif Nat.beq id id then none else _)=_;simp
  have hlive:∀ j,((S.heap j).isSome=true/\j≠id)↔((S.sub id R).heap j).isSome=true:=fun j=>by
    grind
  refine ⟨⟨List.Nodup.sublist (List.eraseIdx_sublist _ _) h.nd,fun j=>?_,?_,fun j cs hc=>?_,fun t=>VR.sub hR ((h.env t).mono hl),h.one⟩,fun t=>?_,fun j cs hc=>?_,fun k hk hs=>have q:=h.keep k hk ((hlive k).2 hs).1;⟨q.1,q.2.1,fun hf=>q.2.2 (by rw [hheap k ((hlive k).2 hs).2,zp5] at hf;exact hf)⟩⟩
  ·rw [hmem,h.dom];exact hlive j
  · rw [<- hP,h.pv,vK];apply Ux;intro j hj;have:=((hmem j).1 hj).2;rw [hheap j this];cases S.heap j with
    |none=>rfl
    |some e=>cases e <;> rfl
  · by_cases e:j=id
    ·grind
    · rw [hheap j e] at hc;cases hj:S.heap j with
      |none=>grind
      |some en=>
        rw [hj] at hc;cases en with
        |cell cs0=>cases hc;exact VRs.sub hR ((h.cell j cs0 hj).mono hl)
        |row T s=>cases hc
        |obj k T b s=>cases hc
        |orow T s g=>cases hc
  ·exact AV.ok_mono (fun j hj=>(hlive j).1 hj) (AV.ok_sub hR2 (h.live t))
  · by_cases e:j=id
    ·grind
    · rw [hheap j e] at hc;cases hj:S.heap j with
      |none=>grind
      |some en=>
        rw [hj] at hc;cases en with
        |cell cs0=>cases hc;exact AV.oks_mono (fun j hj=>(hlive j).1 hj) (AV.oks_sub hR2 (h.livec j cs0 hj))
        |row T s=>cases hc
        |obj k T b s=>cases hc
        |orow T s g=>cases hc
def Ent.hd (e:Ent C) (v:Value):Value:=match e with
 | .row _ _=>v
 | .obj _ _ _ _=>v
 | .orow _ _ _=>v
 | .cell _ =>.slice none 0 0
def Ent.at (e:Ent C) (v:Value) (a:Loc):Value:=match e with
 | .row _ _=>v
 | .obj _ _ _ _=>v
 | .orow _ _ _=>v
 | .cell _ =>.pointer (some a.a)
omit [Dfr] in
def Ent.pv (e:Ent C) (v:Value) (a:Loc) (us:List Value):Priv:=match e with
 | .cell _ =>.cell a.a us
 | .row T s =>.row (zE C T).o T v s
 | .obj k T b s=>C.opv k T v a.a b s
 | .orow T s g =>.row (Zh C T) T v (hpl C T a.sub s g)
theorem AbsL.new (h:AbsL κ S ν vs ids L b Z PV) {id:Nat}(h0:S.heap id=none) (h64:κ.m<=id) {e:Ent C}{v:Value}{a:Loc}{us:List Value}{A:AV C.D}{p:Priv}(hv:∀ ν',ν'.hdr id=e.hd v->ν'.adr id=a->VR C Z ν' (e.at v a) A/\A.ok fun j=>j=id)
    (hone:v.oneCell'=true) (hp:p=e.pv v a us) (hc:∀ cs,e = .cell cs->VRs C Z ν us cs/\AV.oks (fun id=>(S.heap id).isSome=true) cs) {u:Value} (hu:u=e.at v a) {d:Nat} :
    zz κ {env:=upd S.env d A,heap:=upd S.heap id (some e)} ((d,u)::L) b Z (p::PV):=by
  let ν':Val:={hdr:=upd ν.hdr id (e.hd v),adr:=upd ν.adr id a}
  let vs':=upd vs id us
  have hne:∀ j,(S.heap j).isSome=true->j≠id:=fun j hj e=>by grind
  have hag:∀ j,(S.heap j).isSome=true->ν.hdr j=ν'.hdr j/\ν.adr j=ν'.adr j:=fun j hj=>⟨(zm (hne j hj)).symm,(zm (hne j hj)).symm⟩
  have hlv:∀ j,(S.heap j).isSome=true->(upd S.heap id (some e) j).isSome=true:=fun j hj=>by rw [zm (hne j hj)];exact hj
  have hid:id ∉ ids:=fun hm=>by have:=(h.dom id).1 hm;grind
  obtain ⟨hA1,hA2⟩:=hv ν' zl zl;refine ⟨ν',vs',id::ids,⟨⟨List.nodup_cons.2 ⟨hid,h.nd⟩,fun j=>?_,?_,fun j cs hj=>?_,fun t=>?_,fun i=>?_⟩,fun t=>?_,fun j cs hj=>?_,fun k hk hs=>?_⟩⟩
  · by_cases e':j=id
    ·subst e';show _↔(upd S.heap j (some e) j).isSome=true;rw [zl];simp
    ·show _↔(upd S.heap id (some e) j).isSome=true;rw [zm e',Ua,h.dom];grind
  · rw [GE,h.pv];refine List.cons_eq_cons.2 ⟨?_,Ux fun j hj=>?_⟩
    · show p=zG C ν' vs' id (upd S.heap id (some e) id);rw [hp,zl];cases e with
      |cell cs=>simp [zG,vs',ν',zl,Ent.pv]
      |row T s=>simp [zG,ν',zl,Ent.hd,Ent.pv]
      |obj k T b s=>simp [zG,ν',zl,Ent.hd,Ent.pv]
      |orow T s g=>simp [zG,ν',zl,Ent.hd,Ent.pv]
    · have hj':=hne j ((h.dom j).1 hj);show zG C ν vs j (S.heap j)=zG C ν' vs' j (upd S.heap id (some e) j);rw [zm hj'];cases S.heap j with
      |none=>rfl
      |some en=>cases en <;> simp [zG,vs',ν',zm hj']
  · by_cases e':j=id
    ·subst e';have hj:upd S.heap j (some e) j=_:=hj;rw [zl] at hj;cases hj;show VRs C Z ν' (upd vs j us j) cs;rw [zl];exact (hc cs rfl).1.congr hag (hc cs rfl).2
    ·have hj:upd S.heap id (some e) j=_:=hj;rw [zm e'] at hj;show VRs C Z ν' (upd vs id us j) cs;rw [zm e'];exact (h.cell j cs hj).congr hag (h.livec j cs hj)
  · show VR C Z ν' (look ((d,u)::L) b t) (upd S.env d A t);unfold look upd;cases e':Nat.beq t d with
    |true=>grind
    |false=>exact (h.env t).congr hag (h.live t)
  · by_cases e':i=id
    ·subst e';show (upd ν.hdr i _ i).oneCell'=true;rw [zl];cases e <;> first | exact hone | rfl
    ·show (upd ν.hdr id _ i).oneCell'=true;rw [zm e'];exact h.one i
  · show (upd S.env d A t).ok fun j=>(upd S.heap id (some e) j).isSome=true
    unfold upd;cases e':Nat.beq t d with
    |true=>exact AV.ok_mono (fun j hj=>by subst hj;simp) hA2
    |false=>exact AV.ok_mono (fun j hj=>by grind) (h.live t)
  · by_cases e':j=id
    ·subst e';have hj:upd S.heap j (some e) j=_:=hj;rw [zl] at hj;cases hj;exact AV.oks_mono hlv (hc cs rfl).2
    ·have hj:upd S.heap id (some e) j=_:=hj;rw [zm e'] at hj;exact AV.oks_mono hlv (h.livec j cs hj)
  · have hne':k≠id:=by omega
    have hs:(upd S.heap id (some e) k).isSome=true:=hs;rw [zm hne'] at hs;have:=hag k hs;have h2:=h.keep k hk hs;refine ⟨this.1.symm.trans h2.1,(congrArg Loc.a this.2).symm.trans h2.2.1,fun hf=>(congrArg Loc.sub this.2).symm.trans (h2.2.2 ?_)⟩;have hf:ZT (upd S.heap id (some e) k)=true:=hf;rw [zm hne'] at hf;exact hf
mutual
def AV.knx {D:Nat->Type}(q:Nat->Bool):AV D->AV D
 | .nx j T i x=>bif q j then .und else .nx j T i x
 | .agg cs =>.agg (AV.knxs q cs)
 | .tup cs =>.tup (AV.knxs q cs)
 | .clo f cs =>.clo f (AV.knxs q cs)
 | .ifc t A =>.ifc t (AV.knx q A)
 |A=>A
def AV.knxs {D:Nat->Type}(q:Nat->Bool):List (AV D)->List (AV D)
 |[]=>[]
 |A::As=>AV.knx q A::AV.knxs q As
end
omit [Dfr] in
mutual
theorem VR.knx {p:Nat->Prop}{q:Nat->Bool}(h:∀ i,p i->ν.hdr i=ν'.hdr i/\(ν.adr i).a=(ν'.adr i).a) (hq:∀ i,p i->q i=false->(ν.adr i).sub=(ν'.adr i).sub):∀ {A:AV C.D}{v:Value},A.ok p->VR C Z ν v A->VR C Z ν' v (AV.knx q A)
 | .row _,_,k,r=>by have:=(h _ k).1;rw [show _=ν.hdr _ from r,this];rfl
 | .pc _ _,_,k,r=>by have:=(h _ k).2;rw [show _=Value.pointer (some ((ν.adr _).a.add _)) from r,this];rfl
 | .pr _ _ _ _,_,k,r=>by have:=(h _ k).1;rw [show _=Value.pointer (some (zh (ν.hdr _) _)) from r,this];rfl
 | .nx j _ _ _,_,k,r=>by
  unfold AV.knx;cases e:q j with
  |true=>trivial
  |false=>refine ⟨?_,r.2⟩;rw [<- hq j k e];exact r.1
 | .agg cs,_,k,⟨vs,e,r⟩=>⟨vs,e,VRs.knx h hq k r⟩
 | .tup cs,_,k,⟨vs,e,r⟩=>⟨vs,e,VRs.knx h hq k r⟩
 | .clo _ cs,_,k,⟨vs,e,r⟩=>⟨vs,e,VRs.knx h hq k r⟩
 | .ifc _ A,_,k,⟨u,e,r⟩=>⟨u,e,VR.knx h hq k r⟩
 | .int _ _,_,_,r=>r
 | .bool _,_,_,r=>r
 | .str _,_,_,r=>r
 | .sl _ _ _,_,_,r=>r
 | .pz _ _ _,_,_,r=>r
 | .pnil,_,_,r=>r
 | .nils,_,_,r=>r
 | .nilf,_,_,r=>r
 | .nili,_,_,r=>r
 | .und,_,_,_=>trivial
theorem VRs.knx {p:Nat->Prop}{q:Nat->Bool}(h:∀ i,p i->ν.hdr i=ν'.hdr i/\(ν.adr i).a=(ν'.adr i).a) (hq:∀ i,p i->q i=false->(ν.adr i).sub=(ν'.adr i).sub):∀ {cs:List (AV C.D)}{vs:List Value},AV.oks p cs->VRs C Z ν vs cs->VRs C Z ν' vs (AV.knxs q cs)
 |[],[],_,_=>trivial
 |A::As,v::vs,⟨k,l⟩,⟨r,s⟩=>⟨VR.knx h hq k r,VRs.knx h hq l s⟩
 |[],_::_,_,r=>r.elim
 |_::_,[],_,r=>r.elim
end
omit [Dfr] in
mutual
theorem AV.ok_knx {D:Nat->Type}{p:Nat->Prop}{q:Nat->Bool}:∀ {A:AV D},A.ok p->(AV.knx q A).ok p
 | .row _,k=>k
 | .pc _ _,k=>k
 | .pr _ _ _ _,k=>k
 | .nx j _ _ _,k=>by
  unfold AV.knx;cases q j with
  |true=>trivial
  |false=>exact k
 | .agg cs,k=>AV.oks_knx (A:=cs) k
 | .tup cs,k=>AV.oks_knx (A:=cs) k
 | .clo _ cs,k=>AV.oks_knx (A:=cs) k
 | .ifc _ A,k=>AV.ok_knx (A:=A) k
 | .int _ _,_=>trivial
 | .bool _,_=>trivial
 | .str _,_=>trivial
 | .sl _ _ _,_=>trivial
 | .pz _ _ _,_=>trivial
 | .pnil,_=>trivial
 | .nils,_=>trivial
 | .nilf,_=>trivial
 | .nili,_=>trivial
 | .und,_=>trivial
theorem AV.oks_knx {D:Nat->Type}{p:Nat->Prop}{q:Nat->Bool}:∀ {A:List (AV D)},AV.oks p A->AV.oks p (AV.knxs q A)
 |[],_=>trivial
 |A::As,⟨k,l⟩=>⟨AV.ok_knx k,AV.oks_knx l⟩
end
def Ent.knx (q:Nat->Bool):Ent C->Ent C
 | .cell cs =>.cell (AV.knxs q cs)
 | .row T s =>.row T s
 | .obj k T b s =>.obj k T b s
 | .orow T s g =>.orow T s g
end
variable [Dfr]
inductive Out (C:Cod) where
 |go (S:St C)
 |pan (v:AV C.D) (S:St C)
def nid (d j:Nat):Nat:=(d+1) * 64+j
def isNone {α:Type}:G3 α->Bool
 |none=>true
 |some _=>false
theorem Yx (κ:Kp) (d j:Nat):κ.m<=nid d j:=by have:=κ.le;unfold nid;omega
theorem Zi {α:Type}{x:G3 α}(h:isNone x=true):x=none:=by cases x <;> first | rfl | cases h
section
variable {κ:Kp}{C:Cod}{S:St C}{ν:Val}{vs:Nat->List Value}{ids:List Nat}{L:List (Nat×Value)}{b:Nat->Value}{Z:FS}{PV:List Priv}{P:Program}
variable {t t' ty:TypeId}{x y z:Operand}{d:Nat}{ps:String}{af:Array Edge}{g:G3 (Nat×Bool)}{A:AV C.D}{n:Nat}{w0:Start}{σ0:FS}{o:Oper}{X:G3 (Out C)}
def x8 (C:Cod) (Z:FS) (u:Value) (v:AV C.D):Prop:=v.ok (fun _=>False)/\∀ ν:Val,(∀ i,(ν.hdr i).oneCell'=true)->VR C Z ν u v
def OpA (κ:Kp) (P:Program) (n:Nat) (w0:Start) (σ0:FS) (o:Oper) (X:G3 (Out C)) (L:List (Nat×Value)) (b:Nat->Value) (Z:FS) (PV:List Priv):Prop:=
 ∀ out,X=some out->∀ a w,Inv w0 σ0 Z PV w->Fits n L b a->∀ (K:Act->World->Prop) (Q:Exit->Act->World->Prop),
  (∀ S',out = .go S'->∀ L' Z' PV' a' w',Inv w0 σ0 Z' PV' w'->Fits n L' b a'->zz κ S' L' b Z' PV'->K a' w')->
  (∀ v S',out = .pan v S'->∀ u Z' PV' w',Inv w0 σ0 Z' PV' w'->zz κ S' L b Z' PV'->x8 C Z' u v->Q (.panic [{v:=u,recovered:=false}]) a w')->o.wp P a w K Q
theorem OpA.of (h:wq P n w0 σ0 o X L b Z PV fun p' L' Z' PV'=>∀ r,p'=some r->∃ S',r = .go S'/\zz κ S' L' b Z' PV'):OpA κ P n w0 σ0 o X L b Z PV:=by
 intro out hX a w hi hf K Q hK hP;refine h out hX a w hi hf K Q ?_;grind
omit [Dfr] in
theorem AbsL.put (h:AbsL κ S ν vs ids L b Z PV) {v:Value}(hv:VR C Z ν v A) (hl:A.ok fun id=>(S.heap id).isSome=true):AbsL κ (S.put d A) ν vs ids ((d,v)::L) b Z PV:=by
 refine ⟨⟨h.nd,h.dom,h.pv,h.cell,fun t=>?_,h.one⟩,fun t=>?_,h.livec,h.keep⟩
 ·show VR C Z ν (look ((d,v)::L) b t) (upd S.env d A t);unfold look upd;cases Nat.beq t d with
  |true=>exact hv
  |false=>exact h.env t
 ·show (upd S.env d A t).ok _;unfold upd;cases Nat.beq t d with
  |true=>exact hl
  |false=>exact h.live t
theorem Vv (h:AbsL κ S ν vs ids L b Z PV) {op:Op}(hn:Nat.blt d n=true) (he:yI P S ty op=some A) (hl:A.ok fun id=>(S.heap id).isSome=true) :
    OpA κ P n w0 σ0 ⟨some d,op,ty,ps,af,g⟩ (some (.go (S.put d A))) L b Z PV:=
  .of ((zto h.toAbs he).ok hn rfl fun v hv r hr=>⟨_,(Option.some.inj hr).symm,ν,vs,ids,h.put hv hl⟩)
def St.frz1 (S:St C) (id:Nat):St C:=match S.heap id with
 |some (.row T s)=>S.sub id (.sl T s false)
 |some (.orow T s g)=>bif g.rd then S.sub id (.sl T s false) else S
 |_=>S
def St.frz (S:St C):List Nat->St C
 |[]=>S
 |id::r=>(S.frz1 id).frz r
omit [Dfr] in
theorem Abs.idx (h:Abs S ν vs ids L b Z PV) {id:Nat}{e:Ent C}(he:S.heap id=some e):∃ m:Nat,PV[m]?=some (zG C ν vs id (some e))/\ids[m]?=some id:=h.at he
theorem zp6 (h:zz κ S L b Z PV) (id:Nat) {w:World}(hi:Inv w0 σ0 Z PV w):∃ Z' PV',Inv w0 σ0 Z' PV' w/\zz κ (S.frz1 id) L b Z' PV':=by
 unfold St.frz1;split
 ·rename_i T s hs;obtain ⟨ν,vs,ids,h⟩:=h;obtain ⟨m,hm,hid⟩:=h.at hs;obtain ⟨h1,hh,hsub,hle,hi'⟩:=hi.freeze hm;have hh:zo (zE C T).o T (ν.hdr id) s Z h1:=hh;refine ⟨_,_,hi',ν,vs,_,h.sub hid hle ?_ trivial rfl⟩;exact (Rv.of_vrel (hh.fast hle fun b o v e=>x7 b o v e)).vr
 ·rename_i T s g hs;cases hg:g.rd with
  |false=>grind
  |true=>
   obtain ⟨ν,vs,ids,h⟩:=h;obtain ⟨m,hm,hid⟩:=h.at hs;obtain ⟨h1,hh,hsub,hle,hi'⟩:=hi.freeze hm;have hh:zo (Zh C T) T (ν.hdr id) (hpl C T (ν.adr id).sub s g) Z h1:=hh;refine ⟨_,_,hi',ν,vs,_,h.sub hid hle ?_ trivial rfl⟩;exact (Rv.of_vrel (ziL hg (hh.fast hle fun b o v e=>x7 b o v e))).vr
 grind
theorem zc5:∀ (l:List Nat) {S:St C}{Z:FS}{PV:List Priv}(h:zz κ S L b Z PV) {w:World}(hi:Inv w0 σ0 Z PV w),∃ Z' PV',Inv w0 σ0 Z' PV' w/\zz κ (S.frz l) L b Z' PV'
 |[],S,Z,PV,h,w,hi=>⟨Z,PV,hi,h⟩
 |id::r,S,Z,PV,h,w,hi=>by
  obtain ⟨Z',PV',hi',h'⟩:=zp6 h id hi;exact zc5 r h' hi'
theorem OpA.frz (l:List Nat) (h:zz κ S L b Z PV) (k:∀ Z' PV',zz κ (S.frz l) L b Z' PV'->OpA κ P n w0 σ0 o X L b Z' PV'):OpA κ P n w0 σ0 o X L b Z PV:=by
 intro out hX a w hi hf K Q hK hP;obtain ⟨Z',PV',hi',h'⟩:=zc5 l h hi;exact k Z' PV' h' out hX a w hi' hf K Q hK hP
def zaX (S:St C) (d:Nat) (cs:List (AV C.D)):G3 (Out C):=
 chk (isNone (S.heap (nid d 0))) (some (.go {env:=upd S.env d (.pc (nid d 0) 0),heap:=upd S.heap (nid d 0) (some (.cell cs))}))
theorem AbsL.oks_op (h:AbsL κ S ν vs ids L b Z PV) (x:Operand):(S.op x).ok fun id=>(S.heap id).isSome=true:=by
 cases x with
 |tmp t=>exact h.live t
 |const v=>
  have h1:∀ v:Value,(yd v:AV C.D).ok fun id=>(S.heap id).isSome=true:=by
   intro v;unfold yd;split <;> trivial
  have h2:∀ l:List Value,AV.oks (fun id=>(S.heap id).isSome=true) (l.map (yd (D:=C.D))):=by
   intro l
   induction l with
   |nil=>trivial
   |cons v l ih=>exact ⟨h1 v,ih⟩
  show (zaR v:AV C.D).ok _;unfold zaR;split
  ·exact h2 _
  ·exact h1 _
 |global _=>trivial
 |func f=>trivial
theorem AV.oks_cells {D:Nat->Type}{p:Nat->Prop}:∀ {A:AV D},A.ok p->AV.oks p (zq A):=by
 intro A h;cases A
 case agg cs=>exact h
 all_goals exact ⟨h,trivial⟩
theorem zos (h:AbsL κ S ν vs ids L b Z PV) (hn:Nat.blt d n=true) (hs:Yw (S.op x)=true):OpA κ P n w0 σ0 ⟨some d,.box t x,ty,ps,af,g⟩ (zaX S d (zq (S.op x))) L b Z PV:=by
 intro out hX;obtain ⟨h0,hX⟩:=zb hX;have h0:=Zi h0;obtain ⟨hc,_⟩:=Zy (h.op x) hs h.one;refine (OpA.of (zoi hn rfl fun c r hr=>⟨_,(Option.some.inj hr).symm,?_⟩):OpA κ P n w0 σ0 _ (some (.go _)) L b Z PV) out hX;refine h.new h0 (Yx κ d 0) (e :=.cell _) (v :=.slice none 0 0) (a:=⟨c,fun _ =>.slice none 0 0⟩) (us:=(opv L b x).cells.toList) (A :=.pc (nid d 0) 0) (fun ν' h1 h2=>⟨?_,by show nid d 0=nid d 0;rfl⟩) rfl rfl (fun cs hcs=>?_) (by simp [Ent.at,Addr.add])
 ·show Value.pointer (some c) = .pointer (some ((ν'.adr _).add 0));rw [h2];simp [Addr.add]
 ·cases hcs;exact ⟨hc,AV.oks_cells (h.oks_op x)⟩
theorem Yy {p:Nat->Prop}:∀ l:List Value,AV.oks p (l.map (yd (D:=C.D)))
 |[]=>trivial
 |v::l=>⟨by unfold yd;split <;> trivial,Yy l⟩
def zot (S:St C) (d k T:Nat):G3 (Out C):=
 chk (isNone (S.heap (nid d 0))) (some (.go {env:=upd S.env d (.pc (nid d 0) 0),heap:=upd S.heap (nid d 0) (some (.obj k T ⟨#[]⟩ ⟨[],false⟩))}))
def xN (P:Program) (S:St C) (d:Nat) (t:TypeId):G3 (Out C):=match P.info? t with
 |some ti=>(match ti.zero with
  |some zv=>(match C.oal t zv.cells.toList with
   |some (k,T)=>zot S d k T
   |none=>zaX S d (zv.cells.toList.map yd))
  |none=>none)
 |none=>none
theorem zlS (h:AbsL κ S ν vs ids L b Z PV) (hn:Nat.blt d n=true):OpA κ P n w0 σ0 ⟨some d,.alloc t,ty,ps,af,g⟩ (xN P S d t) L b Z PV:=by
 intro out hX;unfold xN at hX;split at hX
 ·rename_i ti hi;split at hX
  ·rename_i zv hz;split at hX
   ·rename_i k T ho;obtain ⟨h0,hX⟩:=zb hX;cases hX;have h0:=Zi h0;intro a w hi' hf K Q hK hP;have hrun:(execOp a.eval ⟨some d,.alloc t,ty,ps,af,g⟩).run P w = .ok (.value (.pointer (some ⟨w.heap.size,0,none⟩))) (w.alloc (.cells zv.cells t (0,0))):=by
     rw [hf.eval];simp [execOp,Instr.alloc,zeroValue,typeInfo,hi,hz,newVar,newRow,newObj,Sem.run]
    unfold Oper.wp;rw [hrun,Oper.upon_value]
    have hi2:Inv w0 σ0 Z (C.opv k T (.pointer (some ⟨w.heap.size,0,none⟩)) ⟨w.heap.size,0,none⟩ ⟨#[]⟩ ⟨[],false⟩::PV) (w.alloc (.cells zv.cells t (0,0))):=
     hi'.cons (h1:=z8 w.heap.size t zv.cells) (C.oal_ok t _ k T ho _ _ _ _ (.refl _)) (XQ (Yo _ _)) (Vr _ _ _ _) fun b i hb=>by rw [(Y5 hb).1];grind
    refine hK _ rfl _ Z _ _ _ hi2 (hf.put (by simpa [GZ] using hn) _) ?_;refine h.new h0 (Yx κ d 0) (e :=.obj k T ⟨#[]⟩ ⟨[],false⟩) (v :=.pointer (some ⟨w.heap.size,0,none⟩)) (a:=⟨⟨w.heap.size,0,none⟩,fun _ =>.slice none 0 0⟩) (us:=[]) (A :=.pc (nid d 0) 0) (fun ν' h1 h2=>⟨?_,by show nid d 0=nid d 0;rfl⟩) rfl rfl (fun cs hcs=>by cases hcs) rfl;show Value.pointer (some ⟨w.heap.size,0,none⟩) = .pointer (some ((ν'.adr _).add 0));rw [h2];simp [Addr.add]
   obtain ⟨h0,hX⟩:=zb hX;have h0:=Zi h0;refine (OpA.of (ziD hn hi hz rfl fun c r hr=>⟨_,(Option.some.inj hr).symm,?_⟩):OpA κ P n w0 σ0 _ (some (.go _)) L b Z PV) out hX;refine h.new h0 (Yx κ d 0) (e :=.cell _) (v :=.slice none 0 0) (a:=⟨c,fun _ =>.slice none 0 0⟩) (us:=zv.cells.toList) (A :=.pc (nid d 0) 0) (fun ν' h1 h2=>⟨?_,by show nid d 0=nid d 0;rfl⟩) rfl rfl (fun cs hcs=>?_) (by simp [Ent.at,Addr.add])
   ·show Value.pointer (some c) = .pointer (some ((ν'.adr _).add 0));rw [h2];simp [Addr.add]
   ·cases hcs;exact ⟨X8 _,Yy _⟩
  ·cases hX
 ·cases hX
theorem zaY {id k:Nat}{e:Ent C}(he:ZT (some e)=true->ZT (S.heap id)=true) (h:ZT (upd S.heap id (some e) k)=true):ZT (S.heap k)=true:=by
 by_cases e1:k=id
 ·subst e1;rw [zl] at h;exact he h
 ·rw [zm e1] at h;exact h
theorem AbsL.setCell (h:AbsL κ S ν vs ids L b Z PV) {id m:Nat}{cs cs':List (AV C.D)}{us:List Value}(hc:S.heap id=some (.cell cs)) (hm:ids[m]?=some id) (hr:VRs C Z ν us cs') (hl:AV.oks (fun id=>(S.heap id).isSome=true) cs') :
    AbsL κ {S with heap:=upd S.heap id (some (.cell cs'))} ν (upd vs id us) ids L b Z (PV.set m (.cell (ν.adr id).a us)):=by
  have hlv:∀ j,(S.heap j).isSome=(upd S.heap id (some (.cell cs')) j).isSome:=fun j=>by
    by_cases e:j=id
    ·subst e;rw [zl,hc];rfl
    ·rw [zm e]
  have hml:=(GC.1 hm).1;have hid:=(GC.1 hm).2;refine ⟨⟨h.nd,fun j=>?_,?_,fun j c hj=>?_,h.env,h.one⟩,fun t=>?_,fun j c hj=>?_,fun k hk hs=>have q:=h.keep k hk (by grind);⟨q.1,q.2.1,fun hf=>q.2.2 (zaY (fun h=>by cases h) hf)⟩⟩
  ·show _↔(upd S.heap id (some (.cell cs')) j).isSome=true;rw [<- hlv];exact h.dom j
  · apply GG;intro k;rw [GH,GA,h.pv,Uy];by_cases e:m=k
    ·subst e;rw [jr rfl,jr hml,hm,GB];show _=some (zG C ν (upd vs id us) id (upd S.heap id (some (.cell cs')) id));rw [zl];simp [zG,zl]
    · rw [js e,GA];cases hk:ids[k]? with
      |none=>rfl
      |some j=>
        have hne:j≠id:=fun e'=>by
          have hp:=List.pairwise_iff_getElem.1 (GD.1 h.nd);grind
        simp only [GB];show some (zG C ν vs j (S.heap j))=some (zG C ν (upd vs id us) j (upd S.heap id (some (.cell cs')) j));rw [zm hne];cases S.heap j with
        |none=>rfl
        |some en=>cases en <;> simp [zG,zm hne]
  · have hj:upd S.heap id (some (.cell cs')) j=_:=hj;show VRs C Z ν (upd vs id us j) c;by_cases e:j=id
    ·subst e;rw [zl] at hj |-;grind
    ·rw [zm e] at hj |-;exact h.cell j c hj
  ·exact AV.ok_mono (fun j hj=>by grind) (h.live t)
  · have hj:upd S.heap id (some (.cell cs')) j=_:=hj;refine AV.oks_mono (p:=fun id=>(S.heap id).isSome=true) (fun j hj=>by grind) ?_;by_cases e:j=id
    ·subst e;rw [zl] at hj;grind
    ·rw [zm e] at hj;exact h.livec j c hj
theorem AbsL.setRow (h:AbsL κ S ν vs ids L b Z PV) {id m T:Nat}{s s':Sl (C.D T)}(hc:S.heap id=some (.row T s)) (hm:ids[m]?=some id) :
    AbsL κ {S with heap:=upd S.heap id (some (.row T s'))} ν vs ids L b Z (PV.set m (.row (zE C T).o T (ν.hdr id) s')):=by
  have hlv:∀ j,(S.heap j).isSome=(upd S.heap id (some (.row T s')) j).isSome:=fun j=>by
    by_cases e:j=id
    ·subst e;rw [zl,hc];rfl
    ·rw [zm e]
  have hml:=(GC.1 hm).1;have hid:=(GC.1 hm).2;refine ⟨⟨h.nd,fun j=>?_,?_,fun j c hj=>?_,h.env,h.one⟩,fun t=>?_,fun j c hj=>?_,fun k hk hs=>have q:=h.keep k hk (by grind);⟨q.1,q.2.1,fun hf=>q.2.2 (zaY (fun h=>by cases h) hf)⟩⟩
  ·show _↔(upd S.heap id (some (.row T s')) j).isSome=true;rw [<- hlv];exact h.dom j
  · apply GG;intro k;rw [GH,GA,h.pv,Uy];by_cases e:m=k
    ·subst e;rw [jr rfl,jr hml,hm,GB];show _=some (zG C ν vs id (upd S.heap id (some (.row T s')) id));rw [zl];rfl
    · rw [js e,GA];cases hk:ids[k]? with
      |none=>rfl
      |some j=>
        have hne:j≠id:=fun e'=>by
          have hp:=List.pairwise_iff_getElem.1 (GD.1 h.nd);grind
        simp only [GB];show some (zG C ν vs j (S.heap j))=some (zG C ν vs j (upd S.heap id (some (.row T s')) j));rw [zm hne]
  · have hj:upd S.heap id (some (.row T s')) j=_:=hj;by_cases e:j=id
    ·subst e;rw [zl] at hj;cases hj
    ·rw [zm e] at hj;exact h.cell j c hj
  ·exact AV.ok_mono (fun j hj=>by grind) (h.live t)
  · have hj:upd S.heap id (some (.row T s')) j=_:=hj;refine AV.oks_mono (p:=fun id=>(S.heap id).isSome=true) (fun j hj=>by grind) ?_;by_cases e:j=id
    ·subst e;rw [zl] at hj;cases hj
    ·rw [zm e] at hj;exact h.livec j c hj
end
variable [Dfr]
section
variable {ρ:Type}{n:Nat}{w0:Start}{σ0 Z:FS}{p:G3 ρ}{L:List (Nat×Value)}{b:Nat->Value}{PV:List Priv}{P:Program}
variable {H:G3 ρ->List (Nat×Value)->FS->List Priv->Prop}{d:Nat}{v:Value}{t t' ty:TypeId}{ps:String}{af:Array Edge}{g:G3 (Nat×Bool)}{x y z:Operand}{k:IntKind}{i j:Int}
theorem zaq {α:Type}{T:Ty α}{e:TypeId}{s:Sl α}{ti:TypeInfo}{q q':α}{us:List Value}{off:Nat}(m:Nat) (hm:PV[m]?=some (.row T.o e v s)) (hi':P.info? t=some ti) (hx:opv L b x = .pointer (some (zh v (i.toNat * T.size+off)))) (hy:(opv L b y).cells.toList=us)
    (hs:ti.size=us.length) (h0:0 < us.length) (hone:∀ u∈us,u.oneCell'=true) (hq:zd s i=some q) (hoff:off+us.length<=T.size) (hr:∀ cs,T.rel Z cs q->T.rel Z (cs.take off++us++cs.drop (off+us.length)) q')
    (h:H p L Z (PV.set m (.row T.o e v (s.set i q')))):wq P n w0 σ0 ⟨none,.store t x y,ty,ps,af,g⟩ p L b Z PV H:=by
  intro r hp a w hi hf K Q hK;have key:∃ w',(storeCells (zh v (i.toNat * T.size+off)) us).run P w = .ok () w'/\Inv w0 σ0 Z (PV.set m (.row T.o e v (s.set i q'))) w':=by
    have hne:us≠[]:=by intro e;subst e;simp at h0
    have main:∀ hA,zo T.o e v s Z hA->hA.sub w->∃ w' hA',(storeCells (zh v (i.toNat * T.size+off)) us).run P w = .ok () w'/\zo T.o e v (s.set i q') Z hA'/\hA'.sub w'/\Ext w hA w'/\∀ b i,(hA' b i).isSome->(hA b i).isSome\/w.heap.size<=b:=by
      intro hA k1 subA;obtain ⟨g1,g2,m1,m2,n1,n2,d3⟩:=(vI (v:=v) (e:=e) (i:=i) k1 hq).uncons;obtain ⟨cs,c1,c2,p1,p2,p3,p4,p5⟩:=m2.one_of;have p5:T.rel Z cs q:=p5;have hcl:cs.length=T.size:=T.len p5;have hsz:T.o.size=T.size:=rfl;rw [hsz] at p4;have l12:c1.le hA:=p1.trans n2;have hsp:=p4.1;have hadd:(zh v (i.toNat * T.size)).add off=⟨(zh v (i.toNat * T.size)).block,(zh v (i.toNat * T.size)).off+off,none⟩:=Addr.add_eq _ hsp off;have hcells:∀ j,j < us.length->∃ y,c1 (zh v (i.toNat * T.size)).block ((zh v (i.toNat * T.size)).off+off+j+1)=some (.cell y):=fun j hj=>
        ⟨_,by rw [show (zh v (i.toNat * T.size)).off+off+j=(zh v (i.toNat * T.size)).off+(off+j) by omega];exact p4.2 (off+j) _ (GI (by omega))⟩
      have hlt2:(zh v (i.toNat * T.size)).block < w.heap.size:=by
        obtain ⟨y,hy⟩:=hcells 0 (by omega);exact Bit.at_lt (subA _ _ _ (l12 _ _ _ hy))
      obtain ⟨w',j1,j2,j3⟩:=zaO (P:=P) (subA.mono l12) hlt2 hcells hone hne;have hdom:∀ b i',((c1.put (zh v (i.toNat * T.size)).block ((zh v (i.toNat * T.size)).off+off) us) b i').isSome->(c1 b i').isSome:=fun b i' hx=>zc.put_dom (fun j hj=>by obtain ⟨y,hy⟩:=hcells j hj;simp [hy]) hx
      have dcg:c1.disj g1:=(d3.mono (.refl _) p1).symm;have hd':∀ {f:zc},c1.disj f->(c1.put (zh v (i.toNat * T.size)).block ((zh v (i.toNat * T.size)).off+off) us).disj f:=fun {f} df b i'=>by
        cases hx:c1.put (zh v (i.toNat * T.size)).block ((zh v (i.toNat * T.size)).off+off) us b i' with
        |none=>exact .inl rfl
        |some y=>
          have:=hdom b i' (by rw [hx];rfl);rcases df b i' with z | z
          ·rw [z] at this;cases this
          ·exact .inr z
      have hcell':ZW (zh v (i.toNat * T.size)) (cs.take off++us++cs.drop (off+us.length)) (c1.put (zh v (i.toNat * T.size)).block ((zh v (i.toNat * T.size)).off+off) us):=by
        refine ⟨hsp,fun j u hj=>?_⟩;rw [Y6 (by omega) rfl] at hj;split at hj
        ·rename_i hin;rw [show (zh v (i.toNat * T.size)).off+j+1=(zh v (i.toNat * T.size)).off+off+(j - off)+1 by omega];exact zc.put_in hj
        ·rw [zc.put_out (by omega)];exact p4.2 j u hj
      have dg:g1.disj (c1.put (zh v (i.toNat * T.size)).block ((zh v (i.toNat * T.size)).off+off) us):=(hd' dcg).symm;refine ⟨w',g1.or (c1.put (zh v (i.toNat * T.size)).block ((zh v (i.toNat * T.size)).off+off) us),?_,?_,?_,j3.mono l12,fun b i' hx =>.inl ?_⟩
      ·rw [<- Yb,hadd];exact j1
      ·exact m1 Z _ q' _ (.refl _) dg ⟨_,_,zc.none,.refl _,zc.none_le _,zc.disj_none _,hcell',hr cs p5⟩ (zc.le_or _ _) (zc.le_or_right dg)
      ·exact zc.or_sub (j3.frag dcg (subA.mono n1)) j2
      · unfold zc.or at hx;cases hx1:g1 b i' with
        |some y=>exact n1.isSome (by simp [hx1])
        |none=>rw [hx1] at hx;exact l12.isSome (hdom b i' (by simpa using hx))
    obtain ⟨hh,hsep,hg⟩:=hi.own;obtain ⟨h1',h2',e1,e2,e3,e4,e5,_⟩:=hsep.pick hm;obtain ⟨w',_,hrun,_⟩:=main h1' e1 (hg.sub.mono e2);refine ⟨w',hrun,hi.change hm fun g hg' hgs=>?_⟩;obtain ⟨w'',hA',hrun',q1,q2,q3,q4⟩:=main g hg' hgs;rw [hrun] at hrun';cases hrun';exact ⟨hA',q1,q2,q3,q4⟩
  obtain ⟨w',hst,hi2⟩:=key;have hsz:(opv L b y).cells.size=us.length:=by rw [<- hy];simp
  have:(execOp a.eval ⟨none,.store t x y,ty,ps,af,g⟩).run P w = .ok .skip w':=by
    rw [hf.eval];simp only [execOp,Instr.storeAt,Instr.sureAddr,hx,storeVar,sizeOf,typeInfo,GV,GT,GX,GW,hi',hsz,hs,Ui,not_true,jk,hy,hst]
  unfold Oper.wp;rw [this,Oper.upon_skip];exact hK p L Z _ _ _ hp hi2 hf h
end
section
variable {κ:Kp}{C:Cod}{S:St C}{ν:Val}{vs:Nat->List Value}{ids:List Nat}{L:List (Nat×Value)}{b:Nat->Value}{Z:FS}{PV:List Priv}{P:Program}
variable {t t' ty:TypeId}{x y z:Operand}{d:Nat}{ps:String}{af:Array Edge}{g:G3 (Nat×Bool)}{A:AV C.D}{n:Nat}{w0:Start}{σ0:FS}{o:Oper}{X:G3 (Out C)}
mutual
def AV.rows {D:Nat->Type}:AV D->List Nat
 | .row id=>[id]
 | .agg cs=>AV.rowss cs
 | .tup cs=>AV.rowss cs
 | .clo _ cs=>AV.rowss cs
 | .ifc _ A=>AV.rows A
 |_=>[]
def AV.rowss {D:Nat->Type}:List (AV D)->List Nat
 |[]=>[]
 |A::As=>AV.rows A++AV.rowss As
end
theorem zeO {τ:FS}{ν:Val}{u:Value}{A B:AV C.D}(h:VR C τ ν u A) (l:leA A B):VR C τ ν u B:=by
 rcases l with rfl | ⟨T,s,c,rfl,rfl⟩ | ⟨T,c,rfl,rfl⟩
 ·exact h
 ·exact (Rv.of_vrel (h.sl_vrel)).vr
 ·rw [show u = .slice none 0 0 from h];have:VR C τ ν (.slice none 0 0) (.sl T ⟨[],false⟩ true):=ziN;obtain ⟨a,n,cc,e1,e2,e3⟩:=Rv.slAt (show Rv C τ _ (.sl T ⟨[],false⟩ true) from this);rw [e1];exact (Rv.of_slAt e2 fun _=>e3 rfl).vr
theorem zaZ {τ:FS}{ν:Val}:∀ {us:List Value}{cs ds:List (AV C.D)},VRs C τ ν us cs->zd4 cs ds->VRs C τ ν us ds
 |[],[],[],_,_=>trivial
 |u::us,A::cs,B::ds,⟨h,k⟩,⟨l,m⟩=>⟨zeO h l,zaZ k m⟩
 |[],[],_::_,_,l=>l.elim
 |[],_::_,_,h,_=>h.elim
 |_::_,[],_,h,_=>h.elim
 |_::_,_::_,[],_,l=>l.elim
theorem zar {τ:FS}{ν:Val}{T:Nat}{us:List Value}{cs:List (AV C.D)}{q:C.D T}(h:VRs C τ ν us cs) (hq:C.imp T cs=some q):(zE C T).rel τ us q:=by
 have h2:=zaZ h (C.imp_ok T cs q hq);refine ⟨by rw [h2.len,C.len],fun j A hj=>?_⟩;obtain ⟨u,e,r⟩:=h2.get j A hj;exact ⟨u,e,r.rv (C.base T q A (GS hj))⟩
theorem ziR {D:Nat->Type}:∀ {cs ds:List (AV D)},zd4 cs ds->cs.length=ds.length
 |[],[],_=>rfl
 |_::cs,_::ds,⟨_,h⟩=>by simp [ziR h]
 |[],_::_,h=>h.elim
 |_::_,[],h=>h.elim
end
variable [Dfr]
section
variable {ρ:Type}{n:Nat}{w0:Start}{σ0 Z:FS}{p:G3 ρ}{L:List (Nat×Value)}{b:Nat->Value}{PV PV':List Priv}{P:Program}
variable {H:G3 ρ->List (Nat×Value)->FS->List Priv->Prop}{d:Nat}{v:Value}{t ty:TypeId}{ps:String}{af:Array Edge}{g:G3 (Nat×Bool)}{x:Operand}
end
section
variable {κ:Kp}{C:Cod}{S:St C}{ν:Val}{vs:Nat->List Value}{ids:List Nat}{L:List (Nat×Value)}{b:Nat->Value}{Z:FS}{PV:List Priv}{P:Program}
variable {t t' ty:TypeId}{x y z:Operand}{d:Nat}{ps:String}{af:Array Edge}{g:G3 (Nat×Bool)}{A:AV C.D}{n:Nat}{w0:Start}{σ0:FS}{o:Oper}{X:G3 (Out C)}
def yo (P:Program) (S:St C) (t:TypeId) (x y:Operand):G3 (Out C):=
  match P.info? t,S.op x with
  |some ti,.pc id off=>(match S.heap id with
    |some (.cell cs)=>chk (Yw (S.op y) && (Nat.beq ti.size (zq (S.op y)).length && (Nat.ble (off+(zq (S.op y)).length) cs.length && Nat.blt 0 (zq (S.op y)).length)))
        (some (.go {S with heap:=upd S.heap id (some (.cell (cs.take off++zq (S.op y)++cs.drop (off+(zq (S.op y)).length))))}))
    |_=>none)
  |some ti,.pr _ _ _ _=>go ti (S.frz (AV.rows (S.op y)))
  |_,_=>none
where
  go (ti:TypeInfo) (S:St C):G3 (Out C):=match S.op x with
    | .pr id T i off=>(match S.heap id with
      |some (.row T' s)=>chk (Nat.beq T T' && (Yw (S.op y) && (Nat.beq ti.size (zq (S.op y)).length && (Nat.ble (off+(zq (S.op y)).length) (C.size T') && Nat.blt 0 (zq (S.op y)).length))))
          ((zd s i).bind fun q=>(C.imp T' ((C.emb T' q).take off++zq (S.op y)++(C.emb T' q).drop (off+(zq (S.op y)).length))).bind fun q'=>
            some (.go {S with heap:=upd S.heap id (some (.row T' (s.set i q')))}))
      |_=>none)
    |_=>none
theorem zou {l:List Value}(h:∀ u∈l,u.oneCell'=true):zb7 l:=by
 induction l with
 |nil=>trivial
 |cons a l ih=>exact ⟨h a (by simp),ih fun u hu=>h u (Uz _ hu)⟩
theorem AV.oks_append {D:Nat->Type}{p:Nat->Prop}:∀ {l m:List (AV D)},AV.oks p l->AV.oks p m->AV.oks p (l++m)
 |[],_,_,h=>h
 |_::_,_,⟨a,k⟩,h=>⟨a,AV.oks_append k h⟩
theorem AV.oks_iff {D:Nat->Type}{p:Nat->Prop}:∀ {l:List (AV D)},AV.oks p l↔∀ A∈l,A.ok p
 |[]=>by simp [AV.oks]
 |a::l=>by simp [AV.oks,AV.oks_iff (l:=l)]
theorem AV.oks_take {D:Nat->Type}{p:Nat->Prop}{l:List (AV D)}(h:AV.oks p l) (m:Nat):AV.oks p (l.take m):=AV.oks_iff.2 fun A hA=>AV.oks_iff.1 h A (List.mem_of_mem_take hA)
theorem AV.oks_drop {D:Nat->Type}{p:Nat->Prop}{l:List (AV D)}(h:AV.oks p l) (m:Nat):AV.oks p (l.drop m):=AV.oks_iff.2 fun A hA=>AV.oks_iff.1 h A (List.mem_of_mem_drop hA)
theorem zlT (h:AbsL κ S ν vs ids L b Z PV):OpA κ P n w0 σ0 ⟨none,.store t x y,ty,ps,af,g⟩ (yo P S t x y) L b Z PV:=by
 intro out hX;unfold yo at hX;split at hX
 ·rename_i ti id off hi ex;have hx:=h.op x;rw [ex] at hx;split at hX
  ·rename_i cs hcs;obtain ⟨hc,hX⟩:=zb hX;simp only [g9] at hc;obtain ⟨c1,c2,c3,c4⟩:=hc;obtain ⟨hu,hone⟩:=Zy (h.op y) c1 h.one;obtain ⟨m,hm,hid⟩:=h.at hcs;have hcv:=h.cell id cs hcs;have hlen:=hu.len;rw [<- hlen] at c2 c3 c4;rw [<- hcv.len] at c3;refine (OpA.of (zhm m hi (show opv L b x = .pointer (some _) from hx) rfl (jz c2) (zou hone) hm c3 rfl rfl c4 fun r hr=>⟨_,(Option.some.inj hr).symm,?_⟩):OpA κ P n w0 σ0 _ (some (.go _)) L b Z PV) out hX;have hnew:=((hcv.take off).append hu).append (hcv.drop (off+(opv L b y).cells.toList.length));have e:cs.drop (off+(opv L b y).cells.toList.length)=cs.drop (off+(zq (S.op y)).length):=by rw [hlen]
   rw [e] at hnew;have:=h.setCell (cs':=cs.take off++zq (S.op y)++cs.drop (off+(zq (S.op y)).length)) hcs hid hnew (AV.oks_append (AV.oks_append (AV.oks_take (h.livec id cs hcs) _) (AV.oks_cells (h.oks_op y))) (AV.oks_drop (h.livec id cs hcs) _));exact ⟨ν,_,ids,this⟩
  ·cases hX
 ·rename_i ti i1 i2 i3 i4 hi ex;refine OpA.frz (AV.rows (S.op y)) ⟨ν,vs,ids,h⟩ (fun Z' PV' h'=>?_) out hX;clear hX ex h;generalize S.frz (AV.rows (S.op y))=S at h' |-
  obtain ⟨ν,vs,ids,h⟩:=h';intro out hX;unfold yo.go at hX;have hx:=h.op x;split at hX
  ·rename_i id T i off ex;rw [ex] at hx;split at hX
   ·rename_i T' s hs;obtain ⟨hc,hX⟩:=zb hX;simp only [g9] at hc;obtain ⟨c0,c1,c2,c3,c4⟩:=hc;obtain rfl:=jz c0;obtain ⟨q,hq,hX⟩:=jy hX;obtain ⟨q',hq',hX⟩:=jy hX;obtain ⟨hu,hone⟩:=Zy (h.op y) c1 h.one;obtain ⟨m,hm,hid⟩:=h.at hs;have hlen:=hu.len;rw [<- hlen] at c2 c3 c4;refine (OpA.of (zaq (T:=zE C T) (q:=q) (q':=q') m hm hi (show opv L b x = .pointer (some _) from hx) rfl (jz c2) (by simpa [GZ] using c4) hone hq (Uf c3) (fun cs hcs=>?_) fun r hr=>⟨_,(Option.some.inj hr).symm,?_⟩):OpA κ P n w0 σ0 _ (some (.go _)) L b Z' PV') out hX
    ·have hcv:=zaT (ν:=ν) hcs;have hnew:=((hcv.take off).append hu).append (hcv.drop (off+(opv L b y).cells.toList.length));have e:(C.emb T q).drop (off+(opv L b y).cells.toList.length)=(C.emb T q).drop (off+(zq (S.op y)).length):=by rw [hlen]
     rw [e] at hnew;exact zar hnew hq'
    ·exact ⟨ν,vs,ids,h.setRow hs hid⟩
   ·cases hX
  ·cases hX
 ·cases hX
theorem AbsL.newRow (h:AbsL κ S ν vs ids L b Z PV) {id T:Nat}(h0:S.heap id=none) (h64:κ.m<=id) {s:Sl (C.D T)}{v:Value}(hone:v.oneCell'=true) :
    zz κ {env:=upd S.env d (.row id),heap:=upd S.heap id (some (.row T s))} ((d,v)::L) b Z (.row (zE C T).o T v s::PV):=
  h.new h0 h64 (e :=.row T s) (v:=v) (a:=default) (us:=[]) (A :=.row id) (fun ν' h1 h2=>⟨by show v=ν'.hdr id;rw [h1];rfl,by show id=id;rfl⟩) hone rfl (fun cs hc=>by cases hc) rfl
theorem zaa {T:Nat}{s:Sl (C.D T)}{v:Value}{PV:List Priv}{w:World}(hi:Inv w0 σ0 Z (.row (zE C T).o T v s::PV) w):v.oneCell'=true:=by
 obtain ⟨hh,hr,_⟩:=hi.held.get (m:=0) rfl;obtain ⟨q,c,rfl,_⟩:=zo.form hr;rfl
theorem OpA.of2 (h:wq P n w0 σ0 o X L b Z PV fun p' L' Z' PV'=>(∃ w,Inv w0 σ0 Z' PV' w)->∀ r,p'=some r->∃ S',r = .go S'/\zz κ S' L' b Z' PV'):OpA κ P n w0 σ0 o X L b Z PV:=by
 intro out hX a w hi hf K Q hK hP;refine h out hX a w hi hf K Q ?_;intro p' L' Z' PV' a' w' hp hi' hf' hH;obtain ⟨S',e,hA⟩:=hH ⟨w',hi'⟩ out hp;grind
end
variable [Dfr]
section
variable {κ:Kp}{C:Cod}{S:St C}{ν:Val}{vs:Nat->List Value}{ids:List Nat}{L:List (Nat×Value)}{b:Nat->Value}{Z:FS}{PV:List Priv}{P:Program}
variable {t t' ty:TypeId}{x y z:Operand}{d:Nat}{ps:String}{af:Array Edge}{g:G3 (Nat×Bool)}{A:AV C.D}{n:Nat}{w0:Start}{σ0:FS}{o:Oper}{X:G3 (Out C)}
def Yd (S:St C) (e:Nat):List Operand->G3 (List (C.D e))
 |[]=>some []
 |x::r=>chk (Yw (S.op x)) ((C.imp e (zq (S.op x))).bind fun q=>(Yd S e r).bind fun qs=>some (q::qs))
theorem zch (h:AbsL κ S ν vs ids L b Z PV) {e:Nat}:∀ {l:List Operand}{xs:List (C.D e)},Yd S e l=some xs->(zE C e).rels Z (yN (l.map (opv L b))) xs/\l.length=xs.length/\∀ v∈l.map (opv L b),v.cells.size=C.size e
 |[],xs,hx=>by simp only [Yd] at hx;cases hx;exact ⟨rfl,rfl,by simp⟩
 |x::r,xs,hx=>by
  simp only [Yd] at hx;obtain ⟨hs,hx⟩:=zb hx;obtain ⟨q,hq,hx⟩:=jy hx;obtain ⟨qs,hqs,hx⟩:=jy hx;cases hx;obtain ⟨h1,h2,h3⟩:=zch h hqs;have hu:=(Zy (h.op x) hs h.one).1;have hr:=zar hu hq;refine ⟨⟨(opv L b x).cells.toList,_,by simp [yN],hr,h1⟩,by simp [h2],fun v hv=>?_⟩;rcases Ua.1 hv with rfl | hv
  ·have:=hr.1;grind
  grind
def zc6:List (Nat×Operand)->Nat->Bool
 |[],_=>true
 |(i,_)::r,k=>Nat.beq i k && zc6 r (k+1)
theorem za0:∀ {l:List (Nat×Operand)}{k:Nat},zc6 l k=true->(l.map fun q=>(q.1,opv L b q.2))=zaP k ((l.map (·.2)).map (opv L b))
 |[],_,_=>rfl
 |(i,x)::r,k,h=>by
  simp only [zc6,g9] at h;obtain rfl:=jz h.1;simp [zaP,za0 h.2]
def YL (P:Program) (S0:St C) (d:Nat) (t:TypeId) (m:Nat) (parts:List (Nat×Operand)):G3 (Out C):=
 go (S0.frz (AV.rowss (parts.map fun q=>S0.op q.2)))
where
  go (S:St C):G3 (Out C):=match P.underlying t with
    |some (.slice e)=>(match P.info? e with
      |some ti=>(match ti.zero with
        |some zv=>chk (Nat.beq ti.size (C.size e) && (Nat.blt 0 (C.size e) && (Nat.ble (m * C.size e) 16777216 && (Nat.beq parts.length m && (zc6 parts 0 && isNone (S.heap (nid d 0)))))))
            ((Yd S e (parts.map (·.2))).bind fun xs=>some (.go {env:=upd S.env d (.row (nid d 0)),heap:=upd S.heap (nid d 0) (some (.row e ⟨xs,true⟩))}))
        |none=>none)
      |none=>none)
    |_=>none
theorem zkw (h:AbsL κ S ν vs ids L b Z PV) (hn:Nat.blt d n=true) {m:Nat}{parts:Array (Nat×Operand)}:OpA κ P n w0 σ0 ⟨some d,.buildSlice t m parts,ty,ps,af,g⟩ (YL P S d t m parts.toList) L b Z PV:=by
 unfold YL;refine OpA.frz (AV.rowss (parts.toList.map fun q=>S.op q.2)) ⟨ν,vs,ids,h⟩ fun Z' PV' h'=>?_
 clear h;generalize S.frz _=S at h' |-
 obtain ⟨ν,vs,ids,h⟩:=h';intro out hX;unfold YL.go at hX;split at hX
 ·rename_i e hu;split at hX
  ·rename_i ti hi;split at hX
   ·rename_i zv hz;obtain ⟨hc,hX2⟩:=zb hX;simp only [g9] at hc;obtain ⟨c1,c2,c3,c4,c5,c6⟩:=hc;have h0:=Zi c6;obtain ⟨xs,hxs,hX3⟩:=jy hX2;obtain ⟨r1,r2,r3⟩:=zch h hxs;have hlen:((parts.toList.map (·.2)).map (opv L b)).length=m:=by
     have:=jz c4;grind
    refine (OpA.of2 (WR (T:=(zE C e).o) (vs:=(parts.toList.map (·.2)).map (opv L b)) (xs:=xs) [] PV' hn hu hi hz (jz c1) c3 c2 (za0 c5) hlen (fun hh _=>⟨zc.none,zc.none_le _,Ty.rels_o.2 r1,by grind,r3⟩) fun v hw r hr=>⟨_,(Option.some.inj hr).symm,?_⟩):OpA κ P n w0 σ0 _ (some (.go _)) L b Z' PV') out hX3;obtain ⟨w,hw⟩:=hw;exact h.newRow h0 (Yx κ d 0) (zaa hw)
   ·cases hX
  ·cases hX
 ·cases hX
theorem AbsL.front (h:AbsL κ S ν vs ids L b Z PV) {id m:Nat}{pv:Priv}(hm:ids[m]?=some id) (hp:PV[m]?=some pv) :
    AbsL κ S ν vs (id::ids.eraseIdx m) L b Z (pv::PV.eraseIdx m)/\∀ w,Inv w0 σ0 Z PV w->Inv w0 σ0 Z (pv::PV.eraseIdx m) w:=by
  have hmem:∀ j,j∈id::ids.eraseIdx m↔j∈ids:=by
    intro j;obtain ⟨hml,hid⟩:=GC.1 hm;rw [Ua,List.mem_eraseIdx_iff_getElem];constructor
    ·grind
    ·intro hj;obtain ⟨i,hi,rfl⟩:=List.getElem_of_mem hj;grind
  refine ⟨⟨⟨?_,fun j=>?_,?_,h.cell,h.env,h.one⟩,h.live,h.livec,h.keep⟩,fun w hi=>hi.sub_own fun gg k=>?_⟩
  ·have hp:=List.pairwise_iff_getElem.1 (GD.1 h.nd);obtain ⟨hml,hid⟩:=GC.1 hm;refine List.nodup_cons.2 ⟨fun hj=>?_,List.Nodup.sublist (List.eraseIdx_sublist _ _) h.nd⟩;obtain ⟨i,hi,hne,e⟩:=List.mem_eraseIdx_iff_getElem.1 hj;grind
  ·rw [hmem];exact h.dom j
  · have:pv=zG C ν vs id (S.heap id):=by
      rw [h.pv,GA,hm,GB] at hp;grind
    rw [GE,<- vK,<- h.pv,this]
  ·obtain ⟨h1,h2,k1,k2,k3,k4,k5,_⟩:=k.pick hp;exact .cons k1 k5 k2 k3 k4
theorem OpA.pv {PV':List Priv}(hi:∀ w,Inv w0 σ0 Z PV w->Inv w0 σ0 Z PV' w) (h:OpA κ P n w0 σ0 o X L b Z PV'):OpA κ P n w0 σ0 o X L b Z PV:=
 fun out hX a w hinv=>h out hX a w (hi w hinv)
theorem AbsL.renew {id:Nat}{pv:Priv}(h:AbsL κ S ν vs (id::ids) L b Z (pv::PV)) {id' T:Nat}(h0:S.heap id'=none) (h64:κ.m<=id') {s:Sl (C.D T)}{v:Value}(hone:v.oneCell'=true) :
    zz κ {env:=upd (S.sub id .und).env d (.row id'),heap:=upd (S.sub id .und).heap id' (some (.row T s))} ((d,v)::L) b Z (.row (zE C T).o T v s::PV):=by
  have h1:=h.sub (id:=id) (m:=0) (R :=.und) rfl (FS.le.refl Z) trivial trivial rfl;refine h1.newRow ?_ h64 hone;show (bif Nat.beq id' id then none else (S.heap id').map _)=none;grind
def WI {T T':Nat}(s:Sl (C.D T')):G3 (List (C.D T)):=if h:T'=T then some (h ▸ s.xs) else none
def za1 (S:St C) (T:Nat):AV C.D->G3 (List (C.D T))
 | .sl _ s _=>WI s
 | .row id=>match S.heap id with
  |some (.row _ s)=>WI s
  |_=>none
 | .nils=>some []
 |_=>none
theorem zkT (h:AbsL κ S ν vs ids L b Z PV) {T:Nat}{ts:List (C.D T)}(hs:za1 S T (S.op y)=some ts) (w:World) (hw:xn Z PV w) :
    ∃ gA news,gA.le zc.none/\(zE C T).o.rels Z gA news ts/\zam w (opv L b y) ts.length news:=by
  have hy:=h.op y;unfold za1 at hs;split at hs
  · rename_i T' s c e;rw [e] at hy;unfold WI at hs;split at hs
    ·rename_i hT;subst hT;cases hs;obtain ⟨gA,news,h1,h2,h3⟩:=zhn (A:=[]) hy.sl_vrel w zc.none hw Sep.nil (fun _ _ _ e=>by cases e);grind
    ·cases hs
  · rename_i id e;rw [e] at hy;split at hs
    · rename_i T' s hh;unfold WI at hs;split at hs
      ·rename_i hT;subst hT;cases hs;obtain ⟨m,hm,_⟩:=h.at hh;rw [show opv L b y=ν.hdr id from hy];obtain ⟨gA,news,h1,h2,h3⟩:=zlH (A:=[]) m hm w zc.none hw Sep.nil (fun _ _ _ e=>by cases e);grind
      ·cases hs
    ·cases hs
  ·rename_i e;rw [e] at hy;cases hs;rw [show opv L b y = .slice none 0 0 from hy];exact ⟨zc.none,[],zc.none_le _,OTy.rels_nil,.inl ⟨rfl,rfl,rfl⟩⟩
  ·cases hs
def yJ (P:Program) (S:St C) (d:Nat) (t:TypeId) (x y:Operand):G3 (Out C):=
  match P.underlying t with
  |some (.slice e)=>(match P.info? e with
    |some ti=>(match ti.zero with
      |some zv=>chk (Nat.beq ti.size (C.size e) && (Nat.blt 0 (C.size e) && (Nat.beq zv.cells.size (C.size e) && isNone (S.heap (nid d 0)))))
          (match S.op x with
          | .row id=>(match S.heap id with
            |some (.row T s)=>chk (Nat.beq T e) ((za1 S T (S.op y)).bind fun ts=>(zp ti.bytes s ts).bind fun s'=>
                some (.go {env:=upd (S.sub id .und).env d (.row (nid d 0)),heap:=upd (S.sub id .und).heap (nid d 0) (some (.row T s'))}))
            |_=>none)
          | .nils=>(za1 S e (S.op y)).bind fun ts=>(zp ti.bytes ⟨[],false⟩ ts).bind fun s'=>
                some (.go {env:=upd S.env d (.row (nid d 0)),heap:=upd S.heap (nid d 0) (some (.row e s'))})
          |_=>none)
      |none=>none)
    |none=>none)
  |_=>none
theorem zdK (h:AbsL κ S ν vs ids L b Z PV) (hn:Nat.blt d n=true):OpA κ P n w0 σ0 ⟨some d,.call {callee :=.builtin .append,args:= #[x,y],argTypes:= #[t,t]},ty,ps,af,g⟩ (yJ P S d t x y) L b Z PV:=by
 intro out hX;unfold yJ at hX;split at hX
 ·rename_i e hu;split at hX
  ·rename_i ti hi;split at hX
   ·rename_i zv hz;obtain ⟨hc,hX2⟩:=zb hX;simp only [g9] at hc;obtain ⟨c1,c2,c3,c4⟩:=hc;have h0:=Zi c4;have hx:=h.op x;split at hX2
    ·rename_i id ex;rw [ex] at hx;split at hX2
     ·rename_i T s hs;obtain ⟨hT,hX3⟩:=zb hX2;obtain rfl:=jz hT;obtain ⟨ts,hts,hX4⟩:=jy hX3;obtain ⟨m,hm,hid⟩:=h.at hs;obtain ⟨hf,hinv⟩:=h.front (w0:=w0) (σ0:=σ0) hid hm;refine OpA.pv hinv ?_ out hX4;refine OpA.of2 (Vs (T:=(zE C T).o) (s:=s) (ts:=ts) (v:=ν.hdr id) (u:=opv L b y) [] (PV.eraseIdx m) hn hu hi hz (jz c3) (jz c1) c2 hx rfl (fun w gg hw _ _=>?_) fun s' v' hs' hw r hr=>⟨_,(Option.some.inj hr).symm,?_⟩)
      ·obtain ⟨gA,news,k1,k2,k3⟩:=zkT hf hts w hw;exact ⟨gA,news,k1.trans (zc.none_le _),k2,k3⟩
      ·obtain ⟨w,hw⟩:=hw;exact hf.renew h0 (Yx κ d 0) (zaa hw)
     ·cases hX2
    ·rename_i ex;rw [ex] at hx;obtain ⟨ts,hts,hX4⟩:=jy hX2;have hinv:∀ w,Inv w0 σ0 Z PV w->Inv w0 σ0 Z (.row (zE C e).o e (.slice none 0 0) ⟨[],false⟩::PV) w:=fun w hi=>hi.sub_own fun gg k =>.cons (h1:=zc.none) (.inl ⟨rfl,rfl⟩) k (zc.none_le _) (.refl _) (zc.none_disj _)
     refine OpA.pv hinv ?_ out hX4;refine OpA.of2 (Vs (T:=(zE C e).o) (s:=⟨[],false⟩) (ts:=ts) (v :=.slice none 0 0) (u:=opv L b y) [] PV hn hu hi hz (jz c3) (jz c1) c2 hx rfl (fun w gg hw _ _=>?_) fun s' v' hs' hw r hr=>⟨_,(Option.some.inj hr).symm,?_⟩)
     ·obtain ⟨gA,news,k1,k2,k3⟩:=zkT h hts w ⟨hw.1,by
       obtain ⟨hh,k,l⟩:=hw.2;obtain ⟨_,h2,_,q2,_,q4,_⟩:=Sep.uncons k
       exact ⟨h2,q2,l.mono q4⟩⟩
      exact ⟨gA,news,k1.trans (zc.none_le _),k2,k3⟩
     ·obtain ⟨w,hw⟩:=hw;exact h.newRow h0 (Yx κ d 0) (zaa hw)
    ·cases hX2
   ·cases hX
  ·cases hX
 ·cases hX
end
variable [Dfr]
section
variable {κ:Kp}{C:Cod}{S:St C}{ν:Val}{vs:Nat->List Value}{ids:List Nat}{L:List (Nat×Value)}{b:Nat->Value}{Z:FS}{PV:List Priv}{P:Program}
variable {t t' ty:TypeId}{x y z:Operand}{d:Nat}{ps:String}{af:Array Edge}{g:G3 (Nat×Bool)}{A:AV C.D}{n:Nat}{w0:Start}{σ0:FS}{o:Oper}{X:G3 (Out C)}
theorem zkU {p:Nat->Prop}{agg:Bool}{cs:List (AV C.D)}(h:AV.oks p cs):(zaQ agg cs).ok p:=by
 unfold zaQ;cases agg with
 |true=>exact h
 |false=>
  match cs,h with
  |[],_=>trivial
  |[c],h=>exact h.1
  |_::_::_,_=>trivial
theorem w6 {p:Nat->Prop}{cs:List (AV C.D)}{off:Nat}(hp:Yc P t cs off=some A) (h:AV.oks p cs):A.ok p:=by
 obtain ⟨td,ti,_,_,_,_,rfl⟩:=Vu hp;exact zkU (AV.oks_take (AV.oks_drop h _) _)
theorem vp {p:Nat->Prop}:∀ {A:AV C.D},A.base=true->A.ok p
 | .int _ _,_=>trivial
 | .bool _,_=>trivial
 | .str _,_=>trivial
 | .sl _ _ _,_=>trivial
 | .pz _ _ _,_=>trivial
 | .pnil,_=>trivial
 | .nilf,_=>trivial
 | .nili,_=>trivial
 | .clo f [],_=>trivial
 | .ifc t A,h=>vp (A:=A) h
theorem zas {p:Nat->Prop}{T:Nat}{q:C.D T}:AV.oks p (C.emb T q):=AV.oks_iff.2 fun A hA=>vp (C.base T q A hA)
theorem zfW {p:Nat->Prop}(h:A.ok p):(zca P ty A).ok p:=h
theorem zp7 {p:Nat->Prop}{q:Bool}{A B R:AV C.D}(h:zeM q A B=some R) (hA:A.ok p):R.ok p:=by
 unfold zeM at h;split at h
 ·obtain ⟨_,h2⟩:=zb h;cases h2;trivial
 ·cases h;trivial
 ·cases h;trivial
 ·split at h
  ·cases h;trivial
  ·cases h
 ·grind
 ·grind
 ·obtain ⟨_,h2⟩:=zb h;grind
 ·obtain ⟨_,h2⟩:=zb h;grind
 ·cases h
theorem ztp {p:Nat->Prop}{q:Bool}{A B R:AV C.D}(h:zeN q A B=some R) (hA:A.ok p) (hB:B.ok p):R.ok p:=by
 unfold zeN at h;split at h
 ·rename_i e;cases h;exact zp7 e hA
 grind
theorem zd7 {p:Nat->Prop}{pls:List (Nat×Nat)}:∀ {ps:List (Nat×AV C.D)}{cs r:List (AV C.D)},W6 pls cs ps=some r->AV.oks p cs->(∀ q∈ps,q.2.ok p)->AV.oks p r
 |[],cs,r,h,k,_=>by simp only [W6] at h;grind
 |(i,c)::ps,cs,r,h,k,l=>by
  simp only [W6] at h;split at h
  ·cases h
  ·obtain ⟨_,h⟩:=zb h;exact zd7 h (AV.oks_append (AV.oks_append (AV.oks_take k _) (AV.oks_cells (l (i,c) (by simp)))) (AV.oks_drop k _)) fun q hq=>l q (Uz _ hq)
theorem Ye {α:Type}{id T:Nat}{i:Int}{K:(U:Nat)->Sl (C.D U)->G3 α}{a:α}(h:zH S id T i K=some a):∃ U u,K U u=some a:=by
 unfold zH at h;split at h
 ·obtain ⟨_,h⟩:=zb h;obtain ⟨q,hq,h⟩:=jy h;grind
 ·cases h
theorem zp8 {p:Nat->Prop}{T id:Nat}{q:C.D T}{i:Int}(h:p id):AV.oks p (zd5 C T q id i):=AV.oks_iff.2 fun A hA=>by
 unfold zd5 at hA;rcases List.mem_or_eq_of_mem_set hA with h1 | h1
 ·exact vp (C.base T q A h1)
 ·rw [h1];exact h
theorem Vw (h:AbsL κ S ν vs ids L b Z PV) {op:Op}(he:yI P S ty op=some A):A.ok fun id=>(S.heap id).isSome=true:=by
 unfold yI at he;split at he
 ·cases he;exact zfW (h.oks_op _)
 ·cases he;exact zfW (h.oks_op _)
 ·split at he
  ·rename_i q _;exact ztp he (h.oks_op _) (h.oks_op _)
  ·cases he
 ·rename_i x;have hx:=h.oks_op x;grind
 ·rename_i bo t x y _;have key:∀ {A},XR P t bo (S.op x) (S.op y)=some A->A.ok fun id=>(S.heap id).isSome=true:=by
   intro A hh;have kp:∀ {r:Bool} {A:AV C.D},XR.evPtr P t bo r=some A->A.ok fun id=>(S.heap id).isSome=true:=by
    intro r A hh;unfold XR.evPtr at hh;split at hh <;> cases hh <;> trivial
   unfold XR at hh;split at hh
   ·obtain ⟨_,hh⟩:=zb hh;unfold zc0 at hh;split at hh <;> first | (cases hh;done) | (cases hh;trivial) | (obtain ⟨_,_,hh⟩:=jy hh;cases hh;trivial)
   ·split at hh <;> first | (cases hh;done) | (cases hh;trivial) | (obtain ⟨_,hh2⟩:=zb hh;cases hh2;trivial)
   ·split at hh <;> cases hh <;> trivial
   ·split at hh <;> cases hh <;> trivial
   ·split at hh <;> cases hh <;> trivial
   ·exact kp hh
   ·exact kp hh
   ·exact kp hh
   ·exact kp hh
   ·exact kp hh
   ·split at hh
    ·obtain ⟨_,hh⟩:=zb hh;obtain ⟨_,_,hh⟩:=jy hh;cases hh;trivial
    ·obtain ⟨_,hh⟩:=zb hh;obtain ⟨_,_,hh⟩:=jy hh;cases hh;trivial
    ·cases hh
   ·cases hh
  unfold xG at he;cases hy:yL y with
  |true=>
   rw [hy,Uv] at he;split at he <;> first | (cases he;done) | (cases he;trivial)
  |false=>
  rw [hy,G8] at he;unfold XJ at he;split at he
  ·split at he
   ·split at he <;> cases he <;> trivial
   ·split at he <;> cases he <;> trivial
   ·cases he
  ·split at he
   ·obtain ⟨U,u,he⟩:=Ye he;split at he <;> cases he <;> trivial
   ·cases he
  grind
 ·rename_i t x;split at he
  ·cases he
  ·cases he;exact h.oks_op x
  ·cases he
 ·rename_i x _ t ok;unfold zaW at he;split at he
  ·cases he
  ·split at he
   ·rename_i t' B e;obtain ⟨_,he⟩:=zb he;cases he;have:=h.oks_op x;rw [e] at this;exact ⟨this,trivial,trivial⟩
   ·split at he
    ·rename_i zv _;cases he;refine ⟨?_,trivial,trivial⟩;unfold zaR;split
     ·exact Yy _
     ·exact (Yy [_]).1
    ·cases he
   ·cases he
  ·cases he
 ·split at he <;> cases he;trivial
 ·split at he <;> cases he;trivial
 ·split at he <;> cases he;trivial
 ·unfold zap at he;have ops:∀ l:List Operand,AV.oks (fun id=>(S.heap id).isSome=true) (l.map S.op):=fun l=>AV.oks_iff.2 fun A hA=>by
   obtain ⟨x,_,rfl⟩:=U0.1 hA;exact h.oks_op x
  split at he
  ·obtain ⟨_,he⟩:=zb he;cases he;exact ops _
  ·split at he
   ·cases he;exact ⟨ops _,trivial⟩
   ·cases he
 ·rename_i x i;have hx:=h.oks_op x;split at he
  ·rename_i us e;rw [e] at hx;obtain ⟨B,hB,he⟩:=jy he;cases he;exact zfW (AV.oks_iff.1 (show AV.oks _ us from hx) B (GS hB))
  ·cases he
 ·unfold w5 at he;split at he
  ·split at he
   ·obtain ⟨cs,hf,he⟩:=jy he;cases he;exact zd7 hf (Yy _) fun q hq=>by
     obtain ⟨z,_,rfl⟩:=U0.1 hq;exact h.oks_op z.2
   ·cases he
  ·split at he
   ·obtain ⟨cs,hf,he⟩:=jy he;cases he;exact zd7 hf (Yy _) fun q hq=>by
     obtain ⟨z,_,rfl⟩:=U0.1 hq;exact h.oks_op z.2
   ·cases he
  ·cases he
 ·rename_i t x m;have hx:=h.oks_op x;unfold zc3 at he;split at he
  ·rename_i fs cs _ e;rw [e] at hx;split at he
   ·exact w6 he hx
   ·cases he
  ·cases he
 ·rename_i t x m;have hx:=h.oks_op x;unfold zc1 at he;split at he
  ·split at he
   ·split at he
    ·obtain ⟨_,he⟩:=zb he;split at he <;> first | (cases he;done) | (rename_i e;rw [e] at hx;cases he;exact hx)
    ·cases he
   ·cases he
  ·cases he
 ·rename_i t x y;have hx:=h.oks_op x;unfold Xp at he;split at he
  ·split at he
   ·split at he
    ·obtain ⟨_,he⟩:=zb he;obtain ⟨_,_,he⟩:=jy he;cases he;trivial
    ·rename_i e _;rw [e] at hx;split at he
     ·obtain ⟨_,he⟩:=zb he;obtain ⟨_,_,he⟩:=jy he;cases he;exact hx
     ·obtain ⟨_,he⟩:=zb he;obtain ⟨_,_,he⟩:=jy he;cases he;exact hx
     ·cases he
    ·rename_i e _;rw [e] at hx;obtain ⟨U,u,he⟩:=Ye he;obtain ⟨_,he⟩:=zb he;obtain ⟨_,_,he⟩:=jy he;cases he;exact hx
    ·rename_i e _;rw [e] at hx;obtain ⟨U,u,he⟩:=Ye he;obtain ⟨_,he⟩:=zb he;obtain ⟨_,_,he⟩:=jy he;obtain ⟨_,_,he⟩:=jy he;cases he;exact hx
    ·cases he
   ·cases he
  ·split at he
   ·split at he
    ·rename_i e _;rw [e] at hx;obtain ⟨_,he⟩:=zb he;obtain ⟨_,_,_,rfl⟩:=zfV he;exact hx
    ·cases he
   ·cases he
  ·cases he
 ·rename_i t x;unfold xF at he;split at he
  ·split at he
   ·rename_i cs hcs;exact w6 he (h.livec _ cs hcs)
   ·cases he
  ·exact w6 he zas
  ·split at he
   ·obtain ⟨_,he⟩:=zb he;obtain ⟨_,_,he⟩:=jy he;exact w6 he zas
   ·rename_i hs;obtain ⟨_,he⟩:=zb he;obtain ⟨_,_,he⟩:=jy he;exact w6 he (zp8 (by rw [hs];rfl))
   ·cases he
  ·obtain ⟨U,u,he⟩:=Ye he;obtain ⟨_,he⟩:=zb he;obtain ⟨_,_,he⟩:=jy he;exact w6 he zas
  ·cases he
 ·unfold zao at he;split at he
  ·obtain ⟨_,_,he⟩:=jy he;cases he;trivial
  ·split at he
   ·obtain ⟨_,he2⟩:=zb he;rcases zp3 (p:=fun id=>(S.heap id).isSome=true) he2 with ⟨s,rfl⟩ | ⟨k,m,rfl⟩ <;> trivial
   ·cases he
  ·cases he
 ·unfold Y7 at he;split at he
  ·split at he
   ·obtain ⟨_,_,he⟩:=jy he;cases he;trivial
   ·cases he
  ·split at he
   ·obtain ⟨_,he⟩:=zb he;obtain ⟨_,_,he⟩:=jy he;cases he;trivial
   ·cases he
  ·rename_i e;split at he
   ·obtain ⟨U,u,he⟩:=Ye he;split at he
    ·obtain ⟨_,he⟩:=zb he;obtain ⟨_,_,he⟩:=jy he;cases he;have hk:∀ x A,S.op x=A->A.ok fun id=>(S.heap id).isSome=true:=fun x A hA=>hA ▸ h.oks_op x
     exact (show AV.ok _ (AV.nx _ _ _ NX.whole) from hk _ _ e)
    ·cases he
   ·cases he
  ·cases he
 ·split at he
  ·unfold wu at he;split at he
   ·cases he;trivial
   ·cases he;trivial
   ·cases he;trivial
   ·split at he <;> cases he <;> trivial
   ·obtain ⟨U,u,he⟩:=Ye he;cases he;trivial
   ·obtain ⟨U,u,he⟩:=Ye he;obtain ⟨_,he⟩:=zb he;obtain ⟨_,_,he⟩:=jy he;cases he;trivial
   ·cases he
  ·cases he
 ·split at he
  ·split at he
   ·obtain ⟨_,he⟩:=zb he;cases he;trivial
   ·cases he
  ·cases he
 ·split at he
  ·split at he
   ·obtain ⟨_,he⟩:=zb he;cases he;trivial
   ·cases he
  ·cases he
 ·cases he
end
section
variable {P:Program}{w0:Start}{σ0 Z:FS}{PV:List Priv}{w:World}{n:Nat}{L:List (Nat×Value)}{b:Nat->Value}{ρ:Type}{p:G3 ρ}
variable {H:G3 ρ->List (Nat×Value)->FS->List Priv->Prop}{d:Nat}{v:Value}{mt kt et ty:TypeId}{ps:String}{af:Array Edge}{g:G3 (Nat×Bool)}{x y z:Operand}
variable [Dfr]
theorem zlU (hn:Nat.blt d n=true) (h:∀ r,H p ((d,.map (some r))::L) Z (.mp (.map (some r)) []::PV)):wq P n w0 σ0 ⟨some d,.makeMap mt none,ty,ps,af,g⟩ p L b Z PV H:=by
 intro r hp a w hi hf K Q hK;unfold Oper.wp;have hr:(execOp a.eval ⟨some d,.makeMap mt none,ty,ps,af,g⟩).run P w = .ok (.value (.map (some w.heap.size))) (w.alloc (.map #[] 0)):=by
  simp [execOp,Instr.makeMap,Result.andThen]
 rw [hr,Oper.upon_value];have h1:=hi.newObj (o :=.map #[] 0) rfl;refine hK p _ Z (.mp (.map (some w.heap.size)) []::PV) _ _ hp (h1.sub_own fun hh kk=>?_) (hf.put (by simpa [GZ] using hn) _) (h _);obtain ⟨g1,g2,m1,m2,n1,n2,dd⟩:=kk.uncons;exact .cons (h1:=g1) ⟨_,_,_,rfl,m1,rfl⟩ m2 n1 n2 dd
theorem Inv.alike {m:Nat}{q q':Priv}(hm:PV[m]?=some q) (hi:Inv w0 σ0 Z PV w) (h:∀ g:zc,q.holds Z g->g.sub w->q'.holds Z g):Inv w0 σ0 Z (PV.set m q') w:=
 hi.change hm fun g hh hs=>⟨g,h g hh hs,hs,Ext.refl _ _,fun b i hx =>.inl hx⟩
variable {α:Type}[DecidableEq α] {K:MKey α}{k:α}{xs:List (α×Value)}
theorem zov (m:Nat) {ti:TypeInfo}{zv:Value}(hn:Nat.blt d n=true) (hm:PV[m]?=some (.mp v (x6 K xs))) (hx:opv L b x=v) (hy:opv L b y=K.enc k) (hu:P.underlying mt=some (.map kt et)) (hk:P.underlying kt=some K.d) (hi':P.info? et=some ti) (hz:ti.zero=some zv)
    (h:H p ((d,(wo k xs).getD zv)::L) Z PV):wq P n w0 σ0 ⟨some d,.lookup mt x y false,ty,ps,af,g⟩ p L b Z PV H:=by
  intro r hp a w hinv hf K' Q hK;obtain ⟨h1,⟨r0,es,clock,rfl,e2,e3⟩,hsub⟩:=hinv.held.get hm;have hb:w.heap[r0]?=some (.map es clock):=(hsub r0 0 _ e2).1;have hrun:(execOp a.eval ⟨some d,.lookup mt x y false,ty,ps,af,g⟩).run P w = .ok (.value ((wo k xs).getD zv)) w:=by
    rw [hf.eval];have c1:=MapKept.run_getObj_map (P:=P) hb;have c2:=fun e=>MapKept.run_checkKey (P:=P) (w:=w) hk (K.key k) e 9999
    rcases zaM K k es.toList xs 0 e3 with ⟨f1,f2,_⟩ | ⟨v',j,e',f1,f2,f3,f4,_⟩
    ·have c3:=MapKept.run_findKey (P:=P) (w:=w) hk f2;simp [execOp,Instr.lookup,hx,hy,GU hu,c1,c2,c3,f1,Result.andThen,zeroValue,typeInfo,hi',hz]
    ·have c3:=MapKept.run_findKey (P:=P) (w:=w) hk f2;simp [execOp,Instr.lookup,hx,hy,GU hu,c1,c2,c3,f1,Result.andThen]
  unfold Oper.wp;rw [hrun,Oper.upon_value];exact hK p _ Z PV _ _ hp hinv (hf.put (by simpa [GZ] using hn) _) h
theorem ziS (m:Nat) (hm:PV[m]?=some (.mp v (x6 K xs))) (hx:opv L b x=v) (hy:opv L b y=K.enc k) (hu:P.underlying mt=some (.map kt et)) (hk:P.underlying kt=some K.d)
    (h:H p L Z (PV.set m (.mp v (x6 K (vG k (opv L b z) xs))))):wq P n w0 σ0 ⟨none,.mapUpdate mt x y z,ty,ps,af,g⟩ p L b Z PV H:=by
  intro r hp a w hinv hf K' Q hK;obtain ⟨h1,⟨r0,es,clock,rfl,e2,e3⟩,hsub⟩:=hinv.held.get hm;have hb:w.heap[r0]?=some (.map es clock):=(hsub r0 0 _ e2).1;have hml:m < PV.length:=(GC.1 hm).1;have hI:=hinv.alike hm (q' :=.obj r0 (.map es clock)) fun g hg hs=>by
    obtain ⟨r1,es1,c1,q1,q2,q3⟩:=hg;cases q1;have:=(hs r0 0 _ q2).1;rw [hb] at this;cases this;exact q2
  have c1:=MapKept.run_getObj_map (P:=P) hb;have c2:=MapKept.run_checkKey (P:=P) (w:=w) hk (K.key k) false 9999;obtain ⟨es',clock',hrun,hes⟩:∃ es' clock',(execOp a.eval ⟨none,.mapUpdate mt x y z,ty,ps,af,g⟩).run P w = .ok .skip {w with heap:=w.heap.setIfInBounds r0 (.map es' clock')}/\es'.toList.map (fun e=>(e.key,e.val))=x6 K (vG k (opv L b z) xs):=by
    rw [hf.eval];rcases zaM K k es.toList xs 0 e3 with ⟨f1,f2,f3⟩ | ⟨v',j,e',f1,f2,f3,f4,f5⟩
    ·have c3:=MapKept.run_findKey (P:=P) (w:=w) hk f2;have c4:=MapKept.run_setObj_map (P:=P) (.map (es.push {key:=K.enc k,val:=opv L b z,born:=clock}) (clock+1)) hb;refine ⟨es.push {key:=K.enc k,val:=opv L b z,born:=clock},clock+1,by simp [execOp,Instr.mapUpdate,hx,hy,GU hu,c1,c2,c3,c4,Result.andThen],?_⟩;rw [f3];simp [x6] at e3 |-;exact e3
    · have c3:=MapKept.run_findKey (P:=P) (w:=w) hk f2;have hj:es[j]?=some e':=by simpa using f3
      have c5:(Instr.keyThatStays (K.enc k) (K.enc k)).run P w = .ok (K.enc k) w:=by simp [Instr.keyThatStays,K.bits]
      have c4:=fun o=>MapKept.run_setObj_map (P:=P) o hb
      refine ⟨es.modify j fun e=>{e with key:=K.enc k,val:=opv L b z},clock,by simp [execOp,Instr.mapUpdate,hx,hy,GU hu,c1,c2,c3,c4,c5,hj,f4,Result.andThen],?_⟩;rw [f5];have:(es.modify j fun e=>{e with key:=K.enc k,val:=opv L b z}).toList=es.toList.set j {e' with val:=opv L b z}:=by
        rw [Array.toList_modify];apply GG;intro i;rw [List.getElem?_modify,GH];by_cases hij:j=i
        ·subst hij;obtain ⟨hl,_⟩:=GC.1 f3;simp only [jl,f3,GB,jr hl];rw [<- f4];rfl
        ·simp [hij]
      rw [this]
  unfold Oper.wp;rw [hrun];have h2:=hI.setObj (o :=.map es clock) (o' :=.map es' clock') rfl rfl (m:=m) (by rw [List.getElem?_set_self hml]);rw [List.set_set] at h2;have h3:=h2.alike (m:=m) (q :=.obj r0 (.map es' clock')) (q' :=.mp (.map (some r0)) (x6 K (vG k (opv L b z) xs))) (by rw [List.getElem?_set_self hml]) fun g hg _=>⟨r0,es',clock',rfl,hg,hes⟩
  rw [List.set_set] at h3;exact hK p _ Z _ a _ hp h3 hf h
end
variable [Dfr]
section
variable {κ:Kp}{C:Cod}{S:St C}{ν:Val}{vs:Nat->List Value}{ids:List Nat}{L:List (Nat×Value)}{b:Nat->Value}{Z:FS}{PV:List Priv}{P:Program}
variable {t t' ty:TypeId}{x y z:Operand}{d:Nat}{ps:String}{af:Array Edge}{g:G3 (Nat×Bool)}{A:AV C.D}{n:Nat}{w0:Start}{σ0:FS}{o:Oper}{X:G3 (Out C)}
theorem AbsL.setObj (h:AbsL κ S ν vs ids L b Z PV) {id m q T:Nat}{b0:ByteArray}{s s':Sl (C.D T)}(hc:S.heap id=some (.obj q T b0 s)) (hm:ids[m]?=some id) :
    AbsL κ {S with heap:=upd S.heap id (some (.obj q T b0 s'))} ν vs ids L b Z (PV.set m (C.opv q T (ν.hdr id) (ν.adr id).a b0 s')):=by
  have hlv:∀ j,(S.heap j).isSome=(upd S.heap id (some (.obj q T b0 s')) j).isSome:=fun j=>by
    by_cases e:j=id
    ·subst e;rw [zl,hc];rfl
    ·rw [zm e]
  have hml:=(GC.1 hm).1;have hid:=(GC.1 hm).2;refine ⟨⟨h.nd,fun j=>?_,?_,fun j c hj=>?_,h.env,h.one⟩,fun t=>?_,fun j c hj=>?_,fun k hk hs=>have q:=h.keep k hk (by rw [hlv];exact hs);⟨q.1,q.2.1,fun hf=>q.2.2 (zaY (fun h=>by cases h) hf)⟩⟩
  ·show _↔(upd S.heap id (some (.obj q T b0 s')) j).isSome=true;rw [<- hlv];exact h.dom j
  · apply GG;intro k;rw [GH,GA,h.pv,Uy];by_cases e:m=k
    ·subst e;rw [jr rfl,jr hml,hm,GB];show _=some (zG C ν vs id (upd S.heap id (some (.obj q T b0 s')) id));rw [zl];rfl
    · rw [js e,GA];cases hk:ids[k]? with
      |none=>rfl
      |some j=>
        have hne:j≠id:=fun e'=>by
          have hp:=List.pairwise_iff_getElem.1 (GD.1 h.nd);obtain ⟨hkl,hkj⟩:=GC.1 hk;rcases Nat.lt_or_gt_of_ne e with q | q
          ·exact hp m k hml hkl q (by rw [hid,hkj,e'])
          ·exact hp k m hkl hml q (by rw [hid,hkj,e'])
        simp only [GB];show some (zG C ν vs j (S.heap j))=some (zG C ν vs j (upd S.heap id (some (.obj q T b0 s')) j));rw [zm hne]
  · have hj:upd S.heap id (some (.obj q T b0 s')) j=_:=hj;by_cases e:j=id
    ·subst e;rw [zl] at hj;cases hj
    ·rw [zm e] at hj;exact h.cell j c hj
  ·exact AV.ok_mono (fun j hj=>by show (upd S.heap id (some (.obj q T b0 s')) j).isSome=true;rw [<- hlv];exact hj) (h.live t)
  · have hj:upd S.heap id (some (.obj q T b0 s')) j=_:=hj;refine AV.oks_mono (p:=fun id=>(S.heap id).isSome=true) (fun j hj=>by show (upd S.heap id (some (.obj q T b0 s')) j).isSome=true;rw [<- hlv];exact hj) ?_;by_cases e:j=id
    ·subst e;rw [zl] at hj;cases hj
    ·rw [zm e] at hj;exact h.livec j c hj
end
section
variable {κ:Kp}{C:Cod}{S:St C}{ν:Val}{vs:Nat->List Value}{ids:List Nat}{L:List (Nat×Value)}{b:Nat->Value}{Z:FS}{PV:List Priv}{P:Program}
variable {x y z:Operand}{d:Nat}{ps:String}{af:Array Edge}{g:G3 (Nat×Bool)}{n:Nat}{w0:Start}{σ0:FS}{mt kt et ty:TypeId}
variable {α:Type}[DecidableEq α] {T id:Nat}{b0:ByteArray}{K:MKey α}{s:Sl (C.D T)}{k:α}
variable [Dfr]
theorem zgO (M:MapR C.D C.opv T K) (h:AbsL κ S ν vs ids L b Z PV) (hn:Nat.blt d n=true) (hx:S.op x = .row id) (hs:S.heap id=some (.obj M.q T b0 s)) (hy:opv L b y=K.enc k)
    (hu:P.underlying mt=some (.map kt et)) (hk:P.underlying kt=some K.d) {ti:TypeInfo} (hi:P.info? et=some ti) (hz:ti.zero=some (.int .i64 0)) :
    OpA κ P n w0 σ0 ⟨some d,.lookup mt x y false,ty,ps,af,g⟩ (some (.go (S.put d (.int .i64 (Zz k (M.l s)))))) L b Z PV:=by
  have hxv:=h.op x;rw [hx] at hxv;have hxv:opv L b x=ν.hdr id:=hxv;obtain ⟨m,hm,hid⟩:=h.at hs;have hm:PV[m]?=some (C.opv M.q T (ν.hdr id) (ν.adr id).a b0 s):=hm;rw [M.opv] at hm;refine OpA.of (zov (K:=K) (k:=k) m hn hm hxv hy hu hk hi hz fun r hr=>⟨_,(Option.some.inj hr).symm,?_⟩);have e:(wo k (asV (cast (congrArg List M.e) s.xs))).getD (.int .i64 0) = .int .i64 (Zz k (M.l s)):=by
    rw [zgD];unfold Zz MapR.l;cases W3 k (cast (congrArg List M.e) s.xs) <;> rfl
  rw [e];exact ⟨ν,vs,ids,h.put (A :=.int .i64 _) Rv.int trivial⟩
theorem zgP (M:MapR C.D C.opv T K) (h:AbsL κ S ν vs ids L b Z PV) (hx:S.op x = .row id) (hs:S.heap id=some (.obj M.q T b0 s)) (hy:opv L b y=K.enc k) {v:Int}(hz:S.op z = .int .i64 v)
    (hu:P.underlying mt=some (.map kt et)) (hk:P.underlying kt=some K.d) :
    OpA κ P n w0 σ0 ⟨none,.mapUpdate mt x y z,ty,ps,af,g⟩ (some (.go {S with heap:=upd S.heap id (some (.obj M.q T b0 (M.s (Zp k v (M.l s)))))})) L b Z PV:=by
  have hxv:=h.op x;rw [hx] at hxv;have hxv:opv L b x=ν.hdr id:=hxv;have hzv:=h.op z;rw [hz] at hzv;have hzv:opv L b z = .int .i64 v:=hzv.int_inv;obtain ⟨m,hm,hid⟩:=h.at hs;have hm:PV[m]?=some (C.opv M.q T (ν.hdr id) (ν.adr id).a b0 s):=hm;rw [M.opv] at hm;refine OpA.of (ziS (K:=K) (k:=k) m hm hxv hy hu hk fun r hr=>⟨_,(Option.some.inj hr).symm,?_⟩);rw [hzv,ziy];have h2:=h.setObj (s':=M.s (Zp k v (M.l s))) hs hid;rw [M.opv] at h2;have e:cast (congrArg List M.e) (M.s (Zp k v (M.l s))).xs=Zp k v (M.l s):=M.ls _;rw [e] at h2;exact ⟨ν,vs,ids,h2⟩
theorem zkV (M:MapR C.D C.opv T K) (h:AbsL κ S ν vs ids L b Z PV) (hn:Nat.blt d n=true) (h0:S.heap (nid d 0)=none) :
    OpA κ P n w0 σ0 ⟨some d,.makeMap mt none,ty,ps,af,g⟩ (some (.go {env:=upd S.env d (.row (nid d 0)),heap:=upd S.heap (nid d 0) (some (.obj M.q T default (M.s [])))})) L b Z PV:=by
  refine OpA.of (zlU hn fun r0 r hr=>⟨_,(Option.some.inj hr).symm,?_⟩);refine h.new (e :=.obj M.q T default (M.s [])) (v :=.map (some r0)) (a:=default) (us:=[]) (A :=.row (nid d 0)) h0 (Yx κ d 0) (fun ν' h1 h2=>⟨?_,rfl⟩) ?_ ?_ (fun cs hc=>by cases hc) rfl
  ·show Value.map (some r0)=ν'.hdr (nid d 0);rw [h1];rfl
  ·rfl
  ·show _=C.opv M.q T (.map (some r0)) _ default (M.s []);rw [M.opv];have e:cast (congrArg List M.e) (M.s []).xs=[]:=M.ls [];rw [e];rfl
end
section
variable {κ:Kp}{C:Cod}{S:St C}{ν:Val}{vs:Nat->List Value}{ids:List Nat}{L:List (Nat×Value)}{b:Nat->Value}{Z:FS}{PV:List Priv}{P:Program}
variable {x y z:Operand}{d:Nat}{ps:String}{af:Array Edge}{g:G3 (Nat×Bool)}{n:Nat}{w0:Start}{σ0:FS}{t ty:TypeId}
def zht:G3 Value->Bool
 |some (.int .i64 0)=>true
 |_=>false
theorem ziT {v:G3 Value}(h:zht v=true):v=some (.int .i64 0):=by
 unfold zht at h;split at h
 ·rfl
 ·cases h
def vL (P:Program) (S:St C) (d:Nat) (t:TypeId) (x y:Operand):G3 (Out C):=match P.underlying t with
 |some (.map kt et)=>(match P.underlying kt,P.info? et,S.op x with
  |some .string,some ti,.row id=>(match S.heap id,S.op y with
   |some (.obj q T b s),.str k=>(match C.mps T with
    |some M=>chk (Nat.beq q M.q && zht ti.zero) (some (.go (S.put d (.int .i64 (Zz k (M.l s))))))
    |none=>none)
   |_,_=>none)
  |some (.int .i64),some ti,.row id=>(match S.heap id,S.op y with
   |some (.obj q T b s),.int .i64 k=>(match C.mpi T with
    |some M=>chk (Nat.beq q M.q && zht ti.zero) (some (.go (S.put d (.int .i64 (Zz k (M.l s))))))
    |none=>none)
   |_,_=>none)
  |_,_,_=>none)
 |_=>none
def XZ (P:Program) (S:St C) (t:TypeId) (x y z:Operand):G3 (Out C):=match P.underlying t with
 |some (.map kt et)=>(match P.underlying kt,S.op x,S.op z with
  |some .string,.row id,.int .i64 v=>(match S.heap id,S.op y with
   |some (.obj q T b s),.str k=>(match C.mps T with
    |some M=>chk (Nat.beq q M.q) (some (.go {S with heap:=upd S.heap id (some (.obj q T b (M.s (Zp k v (M.l s)))))}))
    |none=>none)
   |_,_=>none)
  |some (.int .i64),.row id,.int .i64 v=>(match S.heap id,S.op y with
   |some (.obj q T b s),.int .i64 k=>(match C.mpi T with
    |some M=>chk (Nat.beq q M.q) (some (.go {S with heap:=upd S.heap id (some (.obj q T b (M.s (Zp k v (M.l s)))))}))
    |none=>none)
   |_,_=>none)
  |_,_,_=>none)
 |_=>none
def x9 (S:St C) (d:Nat) (t:TypeId):G3 (Out C):=match C.mps t with
 |some M=>chk (isNone (S.heap (nid d 0))) (some (.go {env:=upd S.env d (.row (nid d 0)),heap:=upd S.heap (nid d 0) (some (.obj M.q t default (M.s [])))}))
 |none=>(match C.mpi t with
  |some M=>chk (isNone (S.heap (nid d 0))) (some (.go {env:=upd S.env d (.row (nid d 0)),heap:=upd S.heap (nid d 0) (some (.obj M.q t default (M.s [])))}))
  |none=>none)
variable [Dfr]
theorem ziU (h:AbsL κ S ν vs ids L b Z PV) (hn:Nat.blt d n=true):OpA κ P n w0 σ0 ⟨some d,.makeMap t none,ty,ps,af,g⟩ (x9 S d t) L b Z PV:=by
 intro out hX;unfold x9 at hX;split at hX
 ·rename_i M _;obtain ⟨c0,hY⟩:=zb hX;exact zkV M h hn (Zi c0) out hY
 ·split at hX
  ·rename_i M _;obtain ⟨c0,hY⟩:=zb hX;exact zkV M h hn (Zi c0) out hY
  ·cases hX
theorem zow (h:AbsL κ S ν vs ids L b Z PV) (hn:Nat.blt d n=true):OpA κ P n w0 σ0 ⟨some d,.lookup t x y false,ty,ps,af,g⟩ (vL P S d t x y) L b Z PV:=by
 intro out hX;unfold vL at hX;split at hX
 ·rename_i kt et hu;have hy:=h.op y;split at hX
  ·rename_i ti id hk hi hx;split at hX
   ·rename_i q T b0 s k hs ey;rw [ey] at hy;split at hX
    ·rename_i M hM;obtain ⟨c0,hY⟩:=zb hX;simp only [g9] at c0;obtain rfl:=jz c0.1;exact zgO M h hn hx hs (k:=k) hy.str_inv hu hk hi (ziT c0.2) out hY
    ·cases hX
   ·cases hX
  ·rename_i ti id hk hi hx;split at hX
   ·rename_i q T b0 s k hs ey;rw [ey] at hy;split at hX
    ·rename_i M hM;obtain ⟨c0,hY⟩:=zb hX;simp only [g9] at c0;obtain rfl:=jz c0.1;exact zgO M h hn hx hs (k:=k) hy.int_inv hu hk hi (ziT c0.2) out hY
    ·cases hX
   ·cases hX
  ·cases hX
 ·cases hX
theorem zkx (h:AbsL κ S ν vs ids L b Z PV):OpA κ P n w0 σ0 ⟨none,.mapUpdate t x y z,ty,ps,af,g⟩ (XZ P S t x y z) L b Z PV:=by
 intro out hX;unfold XZ at hX;split at hX
 ·rename_i kt et hu;have hy:=h.op y;split at hX
  ·rename_i id v hk hx hz;split at hX
   ·rename_i q T b0 s k hs ey;rw [ey] at hy;split at hX
    ·rename_i M hM;obtain ⟨c0,hY⟩:=zb hX;obtain rfl:=jz c0;exact zgP M h hx hs (k:=k) hy.str_inv hz hu hk out hY
    ·cases hX
   ·cases hX
  ·rename_i id v hk hx hz;split at hX
   ·rename_i q T b0 s k hs ey;rw [ey] at hy;split at hX
    ·rename_i M hM;obtain ⟨c0,hY⟩:=zb hX;obtain rfl:=jz c0;exact zgP M h hx hs (k:=k) hy.int_inv hz hu hk out hY
    ·cases hX
   ·cases hX
  ·cases hX
 ·cases hX
end
variable [Dfr]
theorem Ext.of_below {w w':World}(h:RowKit.Below w.heap.size w w'):Ext w zc.none w':=
 ⟨h.os,h.output,h.tape,h.size,fun b =>.same fun hb=>h.block b hb,fun a ha _=>h.frozen ha⟩
theorem Inv.gain {w0:Start}{σ0 Z τ:FS}{PV:List Priv}{w w':World}(hi:Inv w0 σ0 Z PV w) (hb:RowKit.Below w.heap.size w w') (hl:Z.le τ) (hn:∀ b o v,τ b o=some v->Z b o=some v\/w.heap.size<=b/\w'.cell? ⟨b,o,none⟩=some v):Inv w0 σ0 τ PV w':=by
 have hx:=Ext.of_below hb;obtain ⟨h,hs,hg⟩:=hi.own;have hold:∀ b,b < w.heap.size->w'.heap[b]?=w.heap[b]?:=hb.block
 refine ⟨fun b o v hv=>?_,hi.le.trans hl,fun b o v hv=>?_,⟨h,hs.mono hl (.refl _),⟨?_,fun b o e=>?_,hg.mine⟩⟩,hi.ext.trans hx fun b i _ e=>by cases e⟩
 ·rcases hn b o v hv with q | q
  ·exact hx.held (fun b o e=>by cases e) hi.sub b o v q
  ·exact q.2
 ·rcases hn b o v hv with q | q
  ·exact hi.fresh b o v q
  ·have:=hi.ext.size;grind
 ·exact hx.frag (zc.none_disj _) hg.sub
 ·cases hv:τ b o with
  |none=>rfl
  |some v=>
   rcases hn b o v hv with q | q
   ·rw [hg.apart b o e] at q;cases q
   ·obtain ⟨x,hx'⟩:=GN.1 e;have:=Bit.at_lt (hg.sub b (o+1) x hx');omega
theorem Inv.below {w0:Start}{σ0 Z:FS}{PV:List Priv}{w w':World}(hi:Inv w0 σ0 Z PV w) (hb:RowKit.Below w.heap.size w w'):Inv w0 σ0 Z PV w':=
 hi.gain hb (fun _ _ _ h=>h) fun b o v h =>.inl h
section
variable {κ:Kp}{C:Cod}{S:St C}{ν:Val}{vs:Nat->List Value}{ids:List Nat}{L:List (Nat×Value)}{b:Nat->Value}{Z τ:FS}{PV:List Priv}{P:Program}
variable {t t' ty:TypeId}{x y z:Operand}{d:Nat}{ps:String}{af:Array Edge}{g:G3 (Nat×Bool)}{A:AV C.D}{n:Nat}{w0:Start}{σ0:FS}{o:Oper}{X:G3 (Out C)}
omit [Dfr] in
theorem AbsL.le (h:AbsL κ S ν vs ids L b Z PV) (l:Z.le τ):AbsL κ S ν vs ids L b τ PV:=
 ⟨⟨h.nd,h.dom,h.pv,fun id cs e=>(h.cell id cs e).mono l,fun t=>(h.env t).mono l,h.one⟩,h.live,h.livec,h.keep⟩
theorem zd8 (w:World) (e:TypeId) (s:ByteArray):RowKit.Below w.heap.size w (Lib.bytesWorld w e s):=by
 refine ⟨?_,?_,?_,by rw [Lib.bytesWorld_size];omega,fun k hk=>Lib.bytesWorld_at_old w e s k hk⟩ <;>
  (unfold Lib.bytesWorld World.freeze;split <;> rfl)
def Yf (P:Program) (S:St C) (d:Nat) (ty t:TypeId) (x:Operand) (lo hi:G3 Operand):G3 (Out C):=match S.op x with
 | .row id=>(yI P (S.frz1 id) ty (.slice t x lo hi none)).bind fun A=>some (.go ((S.frz1 id).put d A))
 |_=>none
theorem zky (h:AbsL κ S ν vs ids L b Z PV) (hn:Nat.blt d n=true) {lo hi:G3 Operand}:OpA κ P n w0 σ0 ⟨some d,.slice t x lo hi none,ty,ps,af,g⟩ (Yf P S d ty t x lo hi) L b Z PV:=by
 intro out hX;unfold Yf at hX;split at hX
 ·rename_i id e;obtain ⟨A,he,hX⟩:=jy hX;cases hX;refine OpA.frz [id] ⟨ν,vs,ids,h⟩ (fun Z' PV' h'=>?_) (X:=some (.go ((S.frz1 id).put d A))) _ rfl;obtain ⟨ν',vs',ids',h'⟩:=h';exact Vv h' hn he (Vw h' he)
 ·cases hX
def zox (S:St C) (d t:Nat) (cs:List (AV C.D)):G3 (Out C):=(C.imp t cs).bind fun q=>some (.go (S.put d (.pz t q 0)))
theorem zoy (h:AbsL κ S ν vs ids L b Z PV) (hn:Nat.blt d n=true) (hs:Yw (S.op x)=true):OpA κ P n w0 σ0 ⟨some d,.box t x,ty,ps,af,g⟩ (zox S d t (zq (S.op x))) L b Z PV:=by
 intro out hX;obtain ⟨q,hq,hX⟩:=jy hX;cases hX;obtain ⟨hc,_⟩:=Zy (h.op x) hs h.one;intro a w hi hf K Q hK hP;refine zoi (H:=fun _ L' Z' PV'=>∃ c:Addr,L'=(d,.pointer (some (c.add 0)))::L/\Z'=Z/\PV' = .cell c (opv L b x).cells.toList::PV) hn rfl (fun c=>⟨c,rfl,rfl,rfl⟩) (some ()) rfl a w hi hf K Q ?_;intro p' L' Z' PV' a' w' hp hi' hf' hH;obtain ⟨c,rfl,rfl,rfl⟩:=hH;obtain ⟨h1,hh,hsub,hle,hi2⟩:=hi'.freeze (m:=0) rfl;have hh:ZW c (opv L b x).cells.toList h1:=hh;refine hK _ rfl _ _ _ a' w' hi2 hf' ⟨ν,vs,ids,AbsL.put (h.le hle) (A :=.pz t q 0) ?_ trivial⟩;have hrel:=zar (ν:=ν) (hc.mono hle) hq;refine Rv.pz (fun j=>((opv L b x).cells.toList[j]?).getD default) (fun j A hj=>?_) (fun j A hj=>?_)
 ·obtain ⟨u,e1,e2⟩:=hrel.2 j A hj;rw [e1,Addr.add_eq _ hh.1];simpa [FS.cell] using x7 (Z:=Z') _ _ _ (hh.2 j u e1)
 ·obtain ⟨u,e1,e2⟩:=hrel.2 j A hj;grind
end
variable [Dfr]
section
variable {C:Cod}{S:St C}{P:Program}{ρ:Type}
def zfX (P:Program) (S:St C) (t:TypeId) (A:AV C.D) (K:AV C.D->G3 ρ):G3 ρ:=match A with
 | .pr id T i off=>match S.heap id with
  |some (.row T' s)=>chk (Nat.beq T T') ((zd s i).bind fun x=>(Yc P t (C.emb T' x) off).bind K)
  |some (.orow T' s g)=>chk (Nat.beq T T') ((zd s i).bind fun x=>(Yc P t (zd5 C T' x id i) off).bind K)
  |_=>none
 | .nx id T i (.elem U k off)=>zH S id T i fun U' u=>chk (Nat.beq U U') ((zd u k).bind fun y=>(Yc P t (C.emb U' y) off).bind K)
 |A=>(xF P S t A).bind K
theorem zw {α β:Type}{c:Bool}{x:G3 α}{k:α->G3 β}:(chk c x).bind k=chk c (x.bind k):=by cases c <;> rfl
theorem Yg {α β:Type}{id T:Nat}{i:Int}{K:(U:Nat)->Sl (C.D U)->G3 α}{k:α->G3 β}:(zH S id T i K).bind k=zH S id T i fun U u=>(K U u).bind k:=by
 unfold zH;split
 ·rw [zw,ga];grind
 ·rfl
theorem zlV {t:TypeId}{A:AV C.D}{K:AV C.D->G3 ρ}:zfX P S t A K=(xF P S t A).bind K:=by
 unfold zfX;split
 ·rename_i id T i off;simp only [xF];cases S.heap id with
  |none=>rfl
  |some e=>
   cases e with
   |cell cs=>rfl
   |row T' s=>simp only [zw,ga]
   |obj q T b s=>rfl
   |orow T' s g=>simp only [zw,ga]
 ·rename_i id T i U k off;simp only [xF,Yg,zw,ga]
 ·rfl
def zd9 (P:Program) (S:St C) (t:TypeId) (A B:AV C.D) (K:AV C.D->G3 ρ):G3 ρ:=match P.underlying t with
 |some (.slice e)=>(match P.info? e with
  |some ti=>(match A,B with
   | .sl T s _,.int _ i=>chk (Nat.beq ti.size (C.size T)) ((zd s i).bind fun q=>K (.pz T q 0))
   | .row id,.int _ i=>(match S.heap id with
    |some (.row T s)=>chk (Nat.beq ti.size (C.size T)) ((zd s i).bind fun _=>K (.pr id T i 0))
    |some (.orow T s g)=>chk (Nat.beq ti.size (C.size T)) ((zd s i).bind fun _=>K (.pr id T i 0))
    |_=>none)
   | .nx id T i .whole,.int _ k=>zH S id T i fun U u=>chk (Nat.beq ti.size (C.size U)) ((zd u k).bind fun _=>K (.nx id T i (.elem U k 0)))
   | .nx id T i (.part U lo hi),.int _ k=>zH S id T i fun U' u=>chk (Nat.beq U U' && Nat.beq ti.size (C.size U)) ((Zv u lo hi).bind fun u'=>(zd u' k).bind fun _=>K (.nx id T i (.elem U (lo+k) 0)))
   |_,_=>none)
  |none=>none)
 |some (.array n e)=>(match P.info? e with
  |some ti=>(match A,B with
   | .pc id off,.int .i64 i=>chk (!Nat.beq ti.size 0) (zcc ti.size id off i n K)
   |_,_=>none)
  |none=>none)
 |_=>none
theorem zkz {t:TypeId}{A B:AV C.D}{K:AV C.D->G3 ρ}:zd9 P S t A B K=(Xp P S t A B).bind K:=by
 unfold zd9 Xp;cases P.underlying t with
 |none=>rfl
 |some td=>
  cases td with
  |slice e=>
   simp only;cases P.info? e with
   |none=>rfl
   |some ti=>
    simp only;cases A <;> first | rfl | skip
    ·cases B <;> first | rfl | (simp only [zw,ga,jf])
    ·rename_i id;cases B <;> first | rfl | skip
     simp only;cases S.heap id with
     |none=>rfl
     |some en=>
      cases en with
      |cell cs=>rfl
      |row T s=>simp only [zw,ga,jf]
      |obj q T b s=>rfl
      |orow T s g=>simp only [zw,ga,jf]
    ·rename_i id T i x;cases x <;> cases B <;> first | rfl | simp only [Yg,zw,ga,jf]
  |array n e=>
   simp only;cases P.info? e with
   |none=>rfl
   |some ti=>
    simp only;cases A <;> first | rfl | skip
    cases B <;> first | rfl | skip
    rename_i kk i;cases kk <;> first | rfl | (simp only [zw,zgJ,jf])
  |_=>rfl
def ziV (n:Nat) (cs:List (AV C.D)) (i:Int) (K:AV C.D->G3 ρ):G3 ρ:=chk (Nat.beq n cs.length) (match zaU cs with
 |some l=>(WS l i).bind fun s=>K (.str s)
 |none=>(match cs with
  | .int k _::_=>(zc2 k cs).bind fun l=>(WS l i).bind fun m=>K (.int k m)
  |_=>none))
theorem zoz {n:Nat}{cs:List (AV C.D)}{i:Int}{K:AV C.D->G3 ρ}:ziV n cs i K=(zeL n cs i).bind K:=by
 unfold ziV zeL;rw [zw];congr 1;cases zaU cs with
 |some l=>grind
 |none=>
  grind
def zfY (P:Program) (t:TypeId) (A B:AV C.D) (K:AV C.D->G3 ρ):G3 ρ:=match P.underlying t,A,B with
 |some .string,.str s,.int _ i=>(Zb s i).bind fun c=>K (.int .u8 c)
 |some (.array n e),.agg cs,.int _ i=>(match P.underlying e,P.info? e with
  |some td,some te=>chk (!Zd td && Nat.beq te.size 1) (ziV n cs i K)
  |_,_=>none)
 |_,_,_=>none
theorem zlW {t:TypeId}{A B:AV C.D}{K:AV C.D->G3 ρ}:zfY P t A B K=(zao P t A B).bind K:=by
 unfold zfY zao;cases P.underlying t with
 |none=>rfl
 |some td=>
  cases td <;> first | rfl | skip
  ·grind
  ·rename_i n e;cases A <;> first | rfl | skip
   cases B <;> first | rfl | skip
   simp only;cases P.underlying e with
   |none=>rfl
   |some td=>cases P.info? e with
    |none=>rfl
    |some te=>simp only [zw,zoz]
def zea (P:Program) (S:St C) (t:TypeId) (A:AV C.D) (lo hi:G3 Operand) (K:AV C.D->G3 ρ):G3 ρ:=match P.underlying t,A with
 |some .string,.str s=>(match Zw S 0 lo,Zw S s.size hi with
  |some i,some j=>(ZB s i j).bind fun u=>K (.str u)
  |_,_=>none)
 |some (.slice e),.sl T s _=>(match P.info? e,Zw S 0 lo,Zw S s.len hi with
  |some ti,some i,some j=>chk (Nat.beq ti.size (C.size T)) ((Zv s i j).bind fun u=>K (.sl T u false))
  |_,_,_=>none)
 |some (.slice e),.nx id T k .whole=>(match P.info? e,Zw S 0 lo with
  |some ti,some i=>zH S id T k fun U u=>(match Zw S u.len hi with
   |some j=>chk (Nat.beq ti.size (C.size U)) ((Zv u i j).bind fun _=>K (.nx id T k (.part U i j)))
   |none=>none)
  |_,_=>none)
 |_,_=>none
theorem zkA {t:TypeId}{A:AV C.D}{lo hi:G3 Operand}{K:AV C.D->G3 ρ}:zea P S t A lo hi K=(Y7 P S t A lo hi).bind K:=by
 unfold zea Y7;cases P.underlying t with
 |none=>rfl
 |some td=>
  cases td <;> first | rfl | skip
  ·cases A <;> first | rfl | skip
   grind
  ·rename_i e;cases A <;> first | rfl | skip
   ·rename_i T s c;simp only;cases P.info? e with
    |none=>rfl
    |some ti=>cases Zw S 0 lo with
     |none=>rfl
     |some i=>cases Zw S s.len hi with
      |none=>rfl
      |some j=>simp only [zw,ga,jf]
   ·rename_i id T k x;cases x <;> first | rfl | skip
    simp only;cases P.info? e with
    |none=>rfl
    |some ti=>cases Zw S 0 lo with
     |none=>rfl
     |some i=>
      simp only [Yg];congr 1;funext U u;cases Zw S u.len hi with
      |none=>rfl
      |some j=>simp only [zw,ga,jf]
def ziW (P:Program) (S:St C) (t:TypeId) (bo:BinOp) (x y:Operand) (K:AV C.D->G3 ρ):G3 ρ:=match bo,S.op x,S.op y with
 | .quo,.int k i,.int k' j=>chk (!yL y && decide (k=k')) ((ziA k i j).bind fun q=>K (.int k q))
 | .rem,.int k i,.int k' j=>chk (!yL y && decide (k=k')) ((ziB k i j).bind fun q=>K (.int k q))
 | .add,.str s,.str u=>chk (!yL y && decide (s.size+u.size<=9223372036854775807)) (K (.str (s++u)))
 | .eql,.nx id T i .whole,.nils=>(match P.underlying t with
  |some (.slice _)=>chk (!yL y) (zH S id T i fun _ s=>K (.bool !s.nn))
  |_=>none)
 | .neq,.nx id T i .whole,.nils=>(match P.underlying t with
  |some (.slice _)=>chk (!yL y) (zH S id T i fun _ s=>K (.bool s.nn))
  |_=>none)
 |bo,_,_=>(xG P S t bo x y).bind K
theorem wv {α:Type}{id T:Nat}{i:Int}:zH S id T i (fun _ _=>(none:G3 α))=none:=by
 unfold zH;split
 ·rename_i T' s g hs;cases hc:(Nat.beq T T' && g.rd) with
  |false=>rfl
  |true=>
   show (zd s i).bind _=none;cases zd s i with
   |none=>rfl
   |some q=>grind
 ·rfl
theorem zoA {t:TypeId}{bo:BinOp}{x y:Operand}{K:AV C.D->G3 ρ}:ziW P S t bo x y K=(xG P S t bo x y).bind K:=by
 unfold ziW;split
 ·rename_i k i k' j ex ey;unfold xG;cases hn:yL y with
  |true=>
   have:=X9 hn;subst this;cases ey
  |false=>
   simp only [G8,U1,Bool.true_and,ex,ey,XJ,XR,zc0];rw [zw,ga];rfl
 ·rename_i k i k' j ex ey;unfold xG;cases hn:yL y with
  |true=>
   have:=X9 hn;subst this;cases ey
  |false=>
   simp only [G8,U1,Bool.true_and,ex,ey,XJ,XR,zc0];rw [zw,ga];rfl
 ·rename_i s u ex ey;unfold xG;cases hn:yL y with
  |true=>
   have:=X9 hn;subst this;cases ey
  |false=>
   simp only [G8,U1,Bool.true_and,ex,ey,XJ,XR];rw [zw];rfl
 ·rename_i id T i ex ey;unfold xG;cases hn:yL y with
  |true=>
   have:=X9 hn;subst this;cases ey
  |false=>
   simp only [G8,U1,ex,ey,XJ,Yg];cases P.underlying t with
   |none=>exact (wv (S:=S) (id:=id) (T:=T) (i:=i)).symm
   |some td=>cases td <;> first | exact (wv (S:=S) (id:=id) (T:=T) (i:=i)).symm | rfl
 ·rename_i id T i ex ey;unfold xG;cases hn:yL y with
  |true=>
   have:=X9 hn;subst this;cases ey
  |false=>
   simp only [G8,U1,ex,ey,XJ,Yg];cases P.underlying t with
   |none=>exact (wv (S:=S) (id:=id) (T:=T) (i:=i)).symm
   |some td=>cases td <;> first | exact (wv (S:=S) (id:=id) (T:=T) (i:=i)).symm | rfl
 ·rfl
def ziX (P:Program) (S:St C) (t:TypeId) (A:AV C.D) (K:AV C.D->G3 ρ):G3 ρ:=match P.underlying t,A with
 |some (.slice _),.nx id T i .whole=>zH S id T i fun _ u=>K (.int .i64 u.len)
 |some (.slice _),.nx id T k (.part U i j)=>zH S id T k fun U' u=>chk (Nat.beq U U') ((Zv u i j).bind fun _=>K (.int .i64 (j - i)))
 |_,A=>(wu P S t A).bind K
theorem zoB {t:TypeId}{A:AV C.D}{K:AV C.D->G3 ρ}:ziX P S t A K=(wu P S t A).bind K:=by
 unfold ziX;split
 ·rename_i hu;unfold wu;rw [hu];simp only [Yg,jf]
 ·rename_i hu;unfold wu;rw [hu];simp only [Yg,zw,ga,jf]
 ·rfl
def zc7 (P:Program) (S:St C) (ty:TypeId) (op:Op) (K:AV C.D->G3 ρ):G3 ρ:=match op with
 | .load t x=>zfX P S t (S.op x) K
 | .indexAddr t x y=>zd9 P S t (S.op x) (S.op y) K
 | .index t x y=>zfY P t (S.op x) (S.op y) K
 | .slice t x lo hi none=>zea P S t (S.op x) lo hi K
 | .binOp bo t x y _=>ziW P S t bo x y K
 | .call ⟨.builtin .len,args,ts⟩=>(match args.toList,ts.toList with
  |[x],[t]=>ziX P S t (S.op x) K
  |_,_=>none)
 |op=>(yI P S ty op).bind K
theorem za2 {ty:TypeId}{op:Op}{K:AV C.D->G3 ρ}:zc7 P S ty op K=(yI P S ty op).bind K:=by
 unfold zc7;split
 ·exact zlV
 ·exact zkz
 ·exact zlW
 ·exact zkA
 ·exact zoA
 ·rename_i args ts;unfold yI;dsimp only;cases args.toList with
  |nil=>rfl
  |cons x l=>cases l with
   |nil=>cases ts.toList with
    |nil=>rfl
    |cons t r=>cases r with
     |nil=>exact zoB
     |cons=>rfl
   |cons=>rfl
 ·rfl
end
end
end Go.Px
