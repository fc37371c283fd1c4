/- Part B2: PxCF PxMF PxMW. -/
import Derived.Test.YtepembddmcabhaaGreatDoorA1
import Derived.Test.YtepembddmcabhaaGreatDoorA6
namespace Go.Px
set_option linter.unusedVariables false
def Le {α:Type}(p q:Option α):Prop:=∀ a,p=some a→q=some a
theorem Le.refl {α:Type}(p:Option α):Le p p:=fun _ h=>h
theorem Le.bind {α β:Type}{p q:Option α}{f g:α→Option β}(h:Le p q) (k:∀ a,Le (f a) (g a)):Le (Option.bind p f) (Option.bind q g):=fun b hb=>by
 cases hp:p with
 |none=>rw [hp] at hb;cases hb
 |some a=>rw [hp] at hb;rw [h a hp];exact k a b hb
theorem Le.ite {α:Type}{c:Prop}[d:Decidable c] {p q p' q':Option α}(h:Le p q) (k:Le p' q'):Le (if c then p else p') (if c then q else q'):=by
 by_cases hc:c
 ·rw [if_pos hc,if_pos hc];exact h
 ·rw [if_neg hc,if_neg hc];exact k
theorem Le.iter {s β:Type}{f g:s→Option (Step s β)}(h:∀ x,Le (f x) (g x)):∀ (k:Nat) (x:s),Le (Y7 f k x) (Y7 g k x)
 |0,_ =>.refl _
 |k+1,x=>by
  show Le (Option.bind (f x) _) (Option.bind (g x) _)
  refine Le.bind (h x) fun st=>?_
  cases st with
  |next x'=>exact Le.iter h k x'
  |done y=>exact .refl _
theorem Le.loop {s β:Type}{f g:s→Option (Step s β)}{k:Nat}(h:∀ x,Le (f x) (g x)) (x:s):Le (Y7 f k x) (loopO g x):=fun y hy=>zb2.2 ⟨k,Le.iter h k x y hy⟩
end Go.Px
namespace Go.Px
set_option linter.unusedSimpArgs false
set_option linter.unusedVariables false
noncomputable def lpW {s β:Type}(f:s→Option (Step s β)) (x:s):Option β:=Y7 f 400 x
theorem Le.lpW {s β:Type}{f g:s→Option (Step s β)}(h:∀ x,Le (f x) (g x)) (x:s):Le (lpW f x) (lpO g x):=Le.loop h x
theorem Le.cond {α:Type}{c:Bool}{p q p' q':Option α}(h:Le p q) (k:Le p' q'):Le (bif c then p else p') (bif c then q else q'):=by
 cases c
 ·exact k
 ·exact h
theorem Le.elim {α β γ:Type}{f g:α→Option γ}{f' g':β→Option γ}{y:α⊕β}(h:∀ x,Le (f x) (g x)) (k:∀ x,Le (f' x) (g' x)):Le (Sum.elim f f' y) (Sum.elim g g' y):=by
 cases y
 ·exact h _
 ·exact k _
def zn4 {α:Type}[DecidableEq α] (a b:Option α):Option α:=if a=b then a else none
theorem Le.gag {α:Type}[DecidableEq α] {p q p' q':Option α}(h:Le p q) (k:Le p' q'):Le (zn4 p p') (WK q q'):=by
 intro r e
 unfold zn4 at e
 split at e
 ·rename_i c
  subst c
  rw [h r e,k r e]
  exact ziL _
 ·cases e
abbrev zf:Type 1:=(α:Type)→DecidableEq α→Option α→Option α→Option α
noncomputable def zg:zf:=fun _ _ a b=>WK a b
def zh:zf:=fun _ _ a b=>zn4 a b
theorem Le.gagx {α:Type}{d:DecidableEq α}{p q p' q':Option α}(h:Le p q) (k:Le p' q'):Le (zh α d p p') (zg α d q q'):=Le.gag h k
end Go.Px
namespace Go.Px
class LC {α:Type}(p q:Option α):Prop where
 h:Le p q
instance (priority:=10) {α:Type}(p:Option α):LC p p:=⟨Le.refl p⟩
instance {α β:Type}{p q:Option α}{f g:α→Option β}[a:LC p q] [b:∀ x,LC (f x) (g x)]:LC (p.bind f) (q.bind g):=⟨Le.bind a.h fun x=>(b x).h⟩
instance {α:Type}{c:Prop}[Decidable c] {p q p' q':Option α}[a:LC p q] [b:LC p' q']:LC (if c then p else p') (if c then q else q'):=⟨Le.ite a.h b.h⟩
instance {α:Type}{c:Bool}{p q p' q':Option α}[a:LC p q] [b:LC p' q']:LC (bif c then p else p') (bif c then q else q'):=⟨Le.cond a.h b.h⟩
instance {α β γ:Type}{f g:α→Option γ}{f' g':β→Option γ}{y:α⊕β}[a:∀ x,LC (f x) (g x)] [b:∀ x,LC (f' x) (g' x)]:LC (Sum.elim f f' y) (Sum.elim g g' y):=⟨Le.elim (fun x=>(a x).h) fun x=>(b x).h⟩
instance {α:Type}{d:DecidableEq α}{p q p' q':Option α}[a:LC p q] [b:LC p' q']:LC (zh α d p p') (zg α d q q'):=⟨Le.gagx a.h b.h⟩
instance {s β:Type}{f g:s→Option (Step s β)}{x:s}[a:∀ x,LC (f x) (g x)]:LC (lpW f x) (lpO g x):=⟨Le.lpW (fun x=>(a x).h) x⟩
theorem LCb {α β:Type}{p q:Option α}{f g:α→Option β}(a:LC p q) (b:∀ x,LC (f x) (g x)):LC (p.bind f) (q.bind g):=inferInstance
theorem LCi {α:Type}{c:Prop}[Decidable c] {p q p' q':Option α}(a:LC p q) (b:LC p' q'):LC (if c then p else p') (if c then q else q'):=inferInstance
theorem LCe {α β γ:Type}{f g:α→Option γ}{f' g':β→Option γ}{y:α⊕β}(a:∀ x,LC (f x) (g x)) (b:∀ x,LC (f' x) (g' x)):LC (Sum.elim f f' y) (Sum.elim g g' y):=inferInstance
end Go.Px
