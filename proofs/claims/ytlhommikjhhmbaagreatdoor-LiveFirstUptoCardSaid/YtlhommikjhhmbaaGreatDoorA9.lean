/- Part A9. -/
import Derived.Test.YtlhommikjhhmbaaGreatDoorS1
set_option linter.unusedVariables false
set_option linter.unusedSimpArgs false
namespace Go.Px
def Tot{α:Type}(p:U3 α)(Q:α->Prop):Prop:=∃a,p=some a/\Q a
theorem Tot.mono{α:Type}{p:U3 α}{Q R:α->Prop}(h:Tot p Q)(k:∀a,Q a->R a):Tot p R:=let⟨a,e,q⟩:=h;⟨a,e,k a q⟩
theorem yy{α:Type}{b:Nat}{s:Sl α}{t:List α}(h1:(s.xs.length+t.length) * b<=140737488355328)(h2:s.xs.length+t.length<=140737488355328):zo b s t=some ⟨s.xs++t,s.nn || !t.isEmpty⟩:=by
 unfold zo;rw[jv ⟨h1,h2⟩]
theorem Ys{α:Type}{s:Sl α}{lo hi:Int}(h0:0<=lo)(h1:lo<=hi)(h2:hi<=s.xs.length):z7 s lo hi=some ⟨(s.xs.take hi.toNat).drop lo.toNat,s.nn⟩:=by
 unfold z7;rw[jv ⟨h0,h1,h2⟩]
theorem zE{n:Int}(h0 : -9223372036854775808<=n)(h1:n<=9223372036854775807):U4 n=n:=by
 simp only[U4,IntKind.wrap,IntKind.bits,IntKind.signed];simp;omega
end Go.Px
