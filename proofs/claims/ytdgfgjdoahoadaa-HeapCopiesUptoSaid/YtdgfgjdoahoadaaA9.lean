/- Part A9: PxC9. -/
import Derived.Test.YtdgfgjdoahoadaaA1
namespace Go.Px
set_option linter.unusedVariables false
def Tot {α:Type}(p:Option α) (Q:α→Prop):Prop:=∃ a,p=some a∧Q a
theorem Tot.mono {α:Type}{p:Option α}{Q R:α→Prop}(h:Tot p Q) (k:∀ a,Q a→R a):Tot p R:=let ⟨a,e,q⟩:=h;⟨a,e,k a q⟩
theorem zg {α:Type}{a:α}{Q:α→Prop}(h:Q a):Tot (some a) Q:=⟨a,rfl,h⟩
theorem zf {α β:Type}{x:Option α}{k:α→Option β}{Q:β→Prop}(h:Tot x fun a=>Tot (k a) Q):Tot (Option.bind x k) Q:=by
 obtain ⟨a,rfl,b,hb,hq⟩:=h;exact ⟨b,hb,hq⟩
theorem zir {α:Type}{c:Prop}[Decidable c] {p q:Option α}{Q:α→Prop}(h1:c→Tot p Q) (h0:¬ c→Tot q Q):Tot (if c then p else q) Q:=by
 split
 ·exact h1 ‹_›
 ·exact h0 ‹_›
theorem zR {α:Type}{c:Prop}[Decidable c] {p q:Option α}{Q:α→Prop}(h1:c→Tot p Q) (h0:¬ c→Tot q Q):Tot (if decide c=true then p else q) Q:=
 zir (fun h=>h1 (of_decide_eq_true h)) (fun h=>h0 (fun hc=>h (decide_eq_true hc)))
theorem zcu {α:Type}{b:Bool}{p q:Option α}{Q:α→Prop}(h1:b=true→Tot p Q) (h0:b=false→Tot q Q):Tot (if b=true then p else q) Q:=
 zir h1 (fun h=>h0 (by simpa using h))
theorem zjz {s β:Type}{f:s→Option (Step s β)}{Q:β→Prop}(I:s→Prop) (μ:s→Nat)
    (h:∀ x,I x→Tot (f x) fun st=>match st with | .next x'=>I x'∧μ x' < μ x | .done y=>Q y) (x:s) (hx:I x):Tot (loopO f x) Q:=by
  have key:∀ m x,μ x < m→I x→Tot (loopO f x) Q:=by
    intro m
    induction m with
    |zero=>intro x h;omega
    |succ m ih=>
      intro x hm hI
      obtain ⟨st,hf,hq⟩:=h x hI
      rw [zdP,hf]
      cases st with
      |next x'=>exact ih x' (by have:=hq.2;omega) hq.1
      |done y=>exact ⟨y,rfl,hq⟩
  exact key _ x (Nat.lt_succ_self _) hx
theorem zx {α:Type}{p:Option α}{a:α}(h:p=some a) {Q:α→Prop}(hq:Q a):Tot p Q:=⟨a,h,hq⟩
theorem Zb {α:Type}{s:Sl α}{i:Int}(d:α) (h0:0≤i) (h1:i < s.xs.length):zc s i=some (s.xs.getD i.toNat d):=by
 have h:i.toNat < s.xs.length:=by omega
 unfold zc
 rw [if_pos h0,List.getElem?_eq_getElem h]
 simp [List.getD_eq_getElem?_getD,h]
theorem zfT {α:Type}{s:Sl α}{i:Int}{v:α}(h0:0≤i) (h1:i < s.xs.length):zgd s i v=some ⟨s.xs.set i.toNat v,s.nn⟩:=by
 unfold zgd;rw [if_pos ⟨h0,h1⟩]
theorem zes {α:Type}{b:Nat}{i:Int}{z:α}(h0:0≤i) (h1:b * i.toNat≤140737488355328) (h2:i≤140737488355328):Z8 b i z=some ⟨List.replicate i.toNat z,true⟩:=by
 unfold Z8;rw [if_pos ⟨h0,h1,h2⟩]
theorem ZY {α:Type}{b:Nat}{s:Sl α}{t:List α}(h1:(s.xs.length+t.length) * b≤140737488355328) (h2:s.xs.length+t.length≤140737488355328):zH b s t=some ⟨s.xs++t,s.nn || !t.isEmpty⟩:=by
 unfold zH;rw [if_pos ⟨h1,h2⟩]
theorem wN {α:Type}{s:Sl α}{lo hi:Int}(h0:0≤lo) (h1:lo≤hi) (h2:hi≤s.xs.length):zS s lo hi=some ⟨(s.xs.take hi.toNat).drop lo.toNat,s.nn⟩:=by
 unfold zS;rw [if_pos ⟨h0,h1,h2⟩]
theorem zL {n:Int}(h0 : -9223372036854775808≤n) (h1:n≤9223372036854775807):IntKind.i64.wrap n=n:=by
 simp only [IntKind.wrap,IntKind.bits,IntKind.signed]
 simp
 omega
theorem zjA {α:Type}(l:List α) (i j:Nat) (v d:α) (h:i < l.length):(l.set i v).getD j d=if j=i then v else l.getD j d:=by
 simp only [List.getD_eq_getElem?_getD,List.getElem?_set]
 by_cases e:i=j
 ·subst e;simp [h]
 ·have:¬ j=i:=fun h=>e h.symm
  simp [e,this]
theorem zt {α:Type}(s:Sl α):s.len=(s.xs.length:Int):=rfl
theorem Z4 {α:Type}{l:List α}{i:Nat}(d:α) (h:i < l.length):l.getD i d∈l:=by
 rw [List.getD_eq_getElem?_getD,List.getElem?_eq_getElem h];simp
theorem zaz:∀ (n:Nat) (l:List Nat),l.Nodup→(∀ x∈l,x < n)→l.length≤n
 |0,l,_,h=>by
  cases l with
  |nil=>simp
  |cons a l=>have:=h a (by simp);omega
 |n+1,l,hn,h=>by
  have h2:=zaz n (l.erase n) (hn.erase n) (fun x hx=>by
   have hx1:=h x (List.mem_of_mem_erase hx)
   have:x≠n:=fun e=>by subst e;exact (List.Nodup.not_mem_erase hn) hx
   omega)
  by_cases hm:n∈l
  ·rw [List.length_erase_of_mem hm] at h2;omega
  ·rw [List.erase_of_not_mem hm] at h2;omega
theorem zet (n:Nat) (u:Nat→Nat) (h:∀ m,m≤n→u m < n):∃ i j,i < j∧j≤n∧u i=u j:=by
 apply Classical.byContradiction
 intro hno
 have hnd:((List.range (n+1)).map u).Nodup:=by
  rw [List.nodup_iff_pairwise_ne,List.pairwise_map]
  refine List.Pairwise.imp_of_mem ?_ List.pairwise_lt_range
  intro i j hi hj hij e
  exact hno ⟨i,j,hij,by have:=List.mem_range.1 hj;omega,e⟩
 have:=zaz n _ hnd (fun x hx=>by
  obtain ⟨m,hm,rfl⟩:=List.mem_map.1 hx
  exact h m (by have:=List.mem_range.1 hm;omega))
 simp at this
 omega
end Go.Px
