/- Part A9: PxC9. -/
import Derived.Test.YtghhopjjddppbaaGreatDoorA1
namespace Go.Px
set_option linter.unusedVariables false
def Tot {α:Type}(p:Option α) (Q:α→Prop):Prop:=∃ a,p=some a∧Q a
theorem Tot.mono {α:Type}{p:Option α}{Q R:α→Prop}(h:Tot p Q) (k:∀ a,Q a→R a):Tot p R:=let ⟨a,e,q⟩:=h;⟨a,e,k a q⟩
theorem zqx {α:Type}{s:Sl α}{i:Int}(d:α) (h0:0≤i) (h1:i < s.xs.length):zt s i=some (s.xs.getD i.toNat d):=by
 have h:i.toNat < s.xs.length:=by omega
 unfold zt
 rw [if_pos h0,List.getElem?_eq_getElem h]
 simp [List.getD_eq_getElem?_getD,h]
theorem XF {α:Type}{b:Nat}{s:Sl α}{t:List α}(h1:(s.xs.length+t.length) * b≤140737488355328) (h2:s.xs.length+t.length≤140737488355328):ZM b s t=some ⟨s.xs++t,s.nn || !t.isEmpty⟩:=by
 unfold ZM;rw [if_pos ⟨h1,h2⟩]
theorem zjX {α:Type}{s:Sl α}{lo hi:Int}(h0:0≤lo) (h1:lo≤hi) (h2:hi≤s.xs.length):zV s lo hi=some ⟨(s.xs.take hi.toNat).drop lo.toNat,s.nn⟩:=by
 unfold zV;rw [if_pos ⟨h0,h1,h2⟩]
theorem yL {n:Int}(h0 : -9223372036854775808≤n) (h1:n≤9223372036854775807):IntKind.i64.wrap n=n:=by
 simp only [IntKind.wrap,IntKind.bits,IntKind.signed]
 simp
 omega
theorem zp2 {α:Type}(l:List α) (i j:Nat) (v d:α) (h:i < l.length):(l.set i v).getD j d=if j=i then v else l.getD j d:=by
 simp only [List.getD_eq_getElem?_getD,List.getElem?_set]
 by_cases e:i=j
 ·subst e;simp [h]
 ·have:¬ j=i:=fun h=>e h.symm
  simp [e,this]
theorem zbG:∀ (n:Nat) (l:List Nat),l.Nodup→(∀ x∈l,x < n)→l.length≤n
 |0,l,_,h=>by
  cases l with
  |nil=>simp
  |cons a l=>have:=h a (by simp);omega
 |n+1,l,hn,h=>by
  have h2:=zbG n (l.erase n) (hn.erase n) (fun x hx=>by
   have hx1:=h x (List.mem_of_mem_erase hx)
   have:x≠n:=fun e=>by subst e;exact (List.Nodup.not_mem_erase hn) hx
   omega)
  by_cases hm:n∈l
  ·rw [List.length_erase_of_mem hm] at h2;omega
  ·rw [List.erase_of_not_mem hm] at h2;omega
theorem zqB (n:Nat) (u:Nat→Nat) (h:∀ m,m≤n→u m < n):∃ i j,i < j∧j≤n∧u i=u j:=by
 apply Classical.byContradiction
 intro hno
 have hnd:((List.range (n+1)).map u).Nodup:=by
  rw [List.nodup_iff_pairwise_ne,List.pairwise_map]
  refine List.Pairwise.imp_of_mem ?_ List.pairwise_lt_range
  intro i j hi hj hij e
  exact hno ⟨i,j,hij,by have:=List.mem_range.1 hj;omega,e⟩
 have:=zbG n _ hnd (fun x hx=>by
  obtain ⟨m,hm,rfl⟩:=List.mem_map.1 hx
  exact h m (by have:=List.mem_range.1 hm;omega))
 simp at this
 omega
end Go.Px
