/- Part Lc: Px13aLE Px13aLC. -/
import Derived.Test.YtdgfgjdoahoadaaLa
import Derived.Test.YtdgfgjdoahoadaaLb
namespace Go.Px
def opW (y0:OpT):Nat:=(1+(1+1+1+1+1)+(1+1+1+1+1)+(1+1+1+1+1)+1+(1+1+1+1+1+1+(1+1+1+1+1)+((y0.Chunk_.Cells_.xs.map (fun _=>(1+1+1+1+1))).sum+1)+1)+((y0.Facts_.xs.map (fun _=>(1+1+1+1))).sum+1)+1)
theorem VX {α:Type}{w:α→Nat}(hw:∀ a,1≤w a):∀ l:List α,l.length≤(l.map w).sum
 |[]=>by simp
 |a::l=>by have:=VX hw l;have:=hw a;simp;omega
theorem zga {α:Type}{w:α→Nat}{a:α}:∀ {l:List α},a∈l→w a≤(l.map w).sum
 |b::l,h=>by
  simp only [List.map_cons,List.sum_cons]
  rcases List.mem_cons.1 h with rfl | h
  ·omega
  ·have:=zga (w:=w) h;omega
theorem zml {o:OpT}(h:opW o≤1048576):OpG o:=by
 have h1:=VX (w:=fun _:qh=>1+1+1+1+1) (fun _=>by omega) o.Chunk_.Cells_.xs
 have h2:=VX (w:=fun _:qg=>1+1+1+1) (fun _=>by omega) o.Facts_.xs
 unfold opW at h
 exact ⟨by omega,by omega⟩
theorem zb0 {a0:Sl OpT}(h:(a0.xs.map opW).sum+1≤1048576):a0.xs.length≤140737488355328∧∀ o∈a0.xs,OpG o:=
 ⟨by have:=VX (w:=opW) (fun o=>by unfold opW;omega) a0.xs;omega,fun o ho=>zml (by have:=zga (w:=opW) ho;omega)⟩
end Go.Px
namespace Go.Px
theorem zdq {a0 a1:Sl OpT}(hw:((a0.xs.map opW).sum+1)+((a1.xs.map opW).sum+1)≤1048576):q1p (a0,a1)=some true:=
 zhk zj7 a0 a1 (zb0 (a0:=a0) (by omega)).1 (zb0 (a0:=a0) (by omega)).2 (zb0 (a0:=a1) (by omega)).1 (zb0 (a0:=a1) (by omega)).2
end Go.Px
