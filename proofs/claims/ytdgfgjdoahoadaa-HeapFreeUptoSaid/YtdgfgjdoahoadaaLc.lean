/- Part Lc: Px13aLE Px13aLF. -/
import Derived.Test.YtdgfgjdoahoadaaLa
import Derived.Test.YtdgfgjdoahoadaaLb
namespace Go.Px
def opW (y0:OpT):Nat:=(1+(1+1+1+1+1)+(1+1+1+1+1)+(1+1+1+1+1)+1+(1+1+1+1+1+1+(1+1+1+1+1)+((y0.Chunk_.Cells_.xs.map (fun _=>(1+1+1+1+1))).sum+1)+1)+((y0.Facts_.xs.map (fun _=>(1+1+1+1))).sum+1)+1)
theorem VY {α:Type}{w:α→Nat}(hw:∀ a,1≤w a):∀ l:List α,l.length≤(l.map w).sum
 |[]=>by simp
 |a::l=>by have:=VY hw l;have:=hw a;simp;omega
theorem zga {α:Type}{w:α→Nat}{a:α}:∀ {l:List α},a∈l→w a≤(l.map w).sum
 |b::l,h=>by
  simp only [List.map_cons,List.sum_cons]
  rcases List.mem_cons.1 h with rfl | h
  ·omega
  ·have:=zga (w:=w) h;omega
theorem zmg {o:OpT}(h:opW o≤1048576):OpG o:=by
 have h1:=VY (w:=fun _:qh=>1+1+1+1+1) (fun _=>by omega) o.Chunk_.Cells_.xs
 have h2:=VY (w:=fun _:qe=>1+1+1+1) (fun _=>by omega) o.Facts_.xs
 unfold opW at h
 exact ⟨by omega,by omega⟩
theorem ziY {a0:Sl OpT}(h:(a0.xs.map opW).sum+1≤1048576):a0.xs.length≤140737488355328∧∀ o∈a0.xs,OpG o:=
 ⟨by have:=VY (w:=opW) (fun o=>by unfold opW;omega) a0.xs;omega,fun o ho=>zmg (by have:=zga (w:=opW) ho;omega)⟩
end Go.Px
namespace Go.Px
theorem zfv {a0:Sl OpT}{a1:Int}(hw:(a0.xs.map opW).sum+1+1≤1048576):q1q (a0,a1)=some true:=
 zj3 zj4 a0 a1 (ziY (a0:=a0) (by omega)).1 (ziY (a0:=a0) (by omega)).2
end Go.Px
