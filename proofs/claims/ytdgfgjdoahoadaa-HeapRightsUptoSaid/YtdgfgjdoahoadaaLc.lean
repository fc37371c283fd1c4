/- Part Lc: Px13aLE Px13aLR. -/
import Derived.Test.YtdgfgjdoahoadaaLa
import Derived.Test.YtdgfgjdoahoadaaLb
namespace Go.Px
def opW (y0:OpT):Nat:=(1+(1+1+1+1+1)+(1+1+1+1+1)+(1+1+1+1+1)+1+(1+1+1+1+1+1+(1+1+1+1+1)+((y0.Chunk_.Cells_.xs.map (fun _=>(1+1+1+1+1))).sum+1)+1)+((y0.Facts_.xs.map (fun _=>(1+1+1+1))).sum+1)+1)
theorem VN {α:Type}{w:α→Nat}(hw:∀ a,1≤w a):∀ l:List α,l.length≤(l.map w).sum
 |[]=>by simp
 |a::l=>by have:=VN hw l;have:=hw a;simp;omega
theorem zf4 {α:Type}{w:α→Nat}{a:α}:∀ {l:List α},a∈l→w a≤(l.map w).sum
 |b::l,h=>by
  simp only [List.map_cons,List.sum_cons]
  rcases List.mem_cons.1 h with rfl | h
  ·omega
  ·have:=zf4 (w:=w) h;omega
theorem zl8 {o:OpT}(h:opW o≤1048576):OpG o:=by
 have h1:=VN (w:=fun _:qh=>1+1+1+1+1) (fun _=>by omega) o.Chunk_.Cells_.xs
 have h2:=VN (w:=fun _:qg=>1+1+1+1) (fun _=>by omega) o.Facts_.xs
 unfold opW at h
 exact ⟨by omega,by omega⟩
theorem ziT {a0:Sl OpT}(h:(a0.xs.map opW).sum+1≤1048576):a0.xs.length≤140737488355328∧∀ o∈a0.xs,OpG o:=
 ⟨by have:=VN (w:=opW) (fun o=>by unfold opW;omega) a0.xs;omega,fun o ho=>zl8 (by have:=zf4 (w:=opW) ho;omega)⟩
end Go.Px
namespace Go.Px
theorem zdj {a0:Sl OpT}(hw:(a0.xs.map opW).sum+1≤1048576):q1m a0=some true:=
 zhf zjX a0 (ziT hw).1 (ziT hw).2
end Go.Px
