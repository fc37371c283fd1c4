/- Part La: Px22L0. -/
import Derived.Test.YtepembddmcabhaaGreatDoorS5
namespace Go.Px
set_option maxRecDepth 100000
theorem zrH:q48 ()=some true:=by kernel_rfl
theorem zpk (s:Int):zfK.F s=some true:=by
 refine (tw_lychgatelaw22_ThreadsSorts s).h true ?_
 unfold q3f q1w
 rw [zrH]
 unfold q49 qa7 q64 q8e q4a q3g
 by_cases h0:s=0
 ·subst h0;rfl
 by_cases h1:s=1
 ·subst h1;rfl
 by_cases h3:s=3
 ·subst h3;rfl
 simp [h0,h1,h3]
end Go.Px
