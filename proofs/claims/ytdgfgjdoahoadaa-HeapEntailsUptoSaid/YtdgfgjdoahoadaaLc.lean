/- Part Lc: Px13aLE. -/
import Derived.Test.YtdgfgjdoahoadaaLa
import Derived.Test.YtdgfgjdoahoadaaLb
namespace Go.Px
def opW (y0:OpT):Nat:=(1+(1+1+1+1+1)+(1+1+1+1+1)+(1+1+1+1+1)+1+(1+1+1+1+1+1+(1+1+1+1+1)+((y0.Chunk_.Cells_.xs.map (fun _=>(1+1+1+1+1))).sum+1)+1)+((y0.Facts_.xs.map (fun _=>(1+1+1+1))).sum+1)+1)
theorem Ww {α:Type}{w:α→Nat}(hw:∀ a,1≤w a):∀ l:List α,l.length≤(l.map w).sum
 |[]=>by simp
 |a::l=>by have:=Ww hw l;have:=hw a;simp;omega
theorem zfZ {α:Type}{w:α→Nat}{a:α}:∀ {l:List α},a∈l→w a≤(l.map w).sum
 |b::l,h=>by
  simp only [List.map_cons,List.sum_cons]
  rcases List.mem_cons.1 h with rfl | h
  ·omega
  ·have:=zfZ (w:=w) h;omega
theorem zl0 {o:OpT}(h:opW o≤1048576):OpG o:=by
 have h1:=Ww (w:=fun _:qg=>1+1+1+1+1) (fun _=>by omega) o.Chunk_.Cells_.xs
 have h2:=Ww (w:=fun _:qd=>1+1+1+1) (fun _=>by omega) o.Facts_.xs
 unfold opW at h
 exact ⟨by omega,by omega⟩
theorem zl1 {a0:Sl OpT}(h:(a0.xs.map opW).sum+1≤1048576):a0.xs.length≤140737488355328∧∀ o∈a0.xs,OpG o:=
 ⟨by have:=Ww (w:=opW) (fun o=>by unfold opW;omega) a0.xs;omega,fun o ho=>zl0 (by have:=zfZ (w:=opW) ho;omega)⟩
theorem zcr {a0:Sl OpT}{a1:Sl Leq}(hw:((a0.xs.map opW).sum+1)+((a1.xs.map fun _=>(1+1+1+1)).sum+1)≤1048576):q1f (a0,a1)=some true:=by
 have h:=zl1 (a0:=a0) (by omega)
 have h2:a1.xs.length≤(a1.xs.map fun _=>(1+1+1+1)).sum:=Ww (fun _=>by omega) a1.xs
 exact zfn zjP a0 a1 h.1 (by omega) h.2
end Go.Px
