/- Part B2: PxCF PxMF PxMX. -/
import Derived.Test.YtpcipfnohfefhaaGreatDoorLg
set_option linter.unusedVariables false
set_option linter.unusedSimpArgs false
namespace Go.Px
def Le {α:Type}(p q:G3 α):Prop:=∀ a,p=some a->q=some a
theorem Le.refl {α:Type}(p:G3 α):Le p p:=fun _ h=>h
theorem Le.bind {α β:Type}{p q:G3 α}{f g:α->G3 β}(h:Le p q) (k:∀ a,Le (f a) (g a)):Le (Option.bind p f) (Option.bind q g):=fun b hb=>by
 cases hp:p with
 |none=>rw [hp] at hb;cases hb
 |some a=>rw [hp] at hb;rw [h a hp];exact k a b hb
theorem Le.ite {α:Type}{c:Prop}[d:Decidable c] {p q p' q':G3 α}(h:Le p q) (k:Le p' q'):Le (if c then p else p') (if c then q else q'):=by
 by_cases hc:c
 ·rw [jr hc,jr hc];exact h
 ·rw [js hc,js hc];exact k
theorem Le.iter {s β:Type}{f g:s->G3 (Step s β)}(h:∀ x,Le (f x) (g x)):∀ (k:Nat) (x:s),Le (Z2 f k x) (Z2 g k x)
 |0,_ =>.refl _
 |k+1,x=>by
  show Le (Option.bind (f x) _) (Option.bind (g x) _);refine Le.bind (h x) fun st=>?_
  cases st with
  |next x'=>exact Le.iter h k x'
  |done y=>exact .refl _
theorem Le.loop {s β:Type}{f g:s->G3 (Step s β)}{k:Nat}(h:∀ x,Le (f x) (g x)) (x:s):Le (Z2 f k x) (loopO g x):=fun y hy=>WG.2 ⟨k,Le.iter h k x y hy⟩
noncomputable def lpW {s β:Type}(f:s->G3 (Step s β)) (x:s):G3 β:=Z2 f 400 x
theorem Le.lpW {s β:Type}{f g:s->G3 (Step s β)}(h:∀ x,Le (f x) (g x)) (x:s):Le (lpW f x) (lpO g x):=Le.loop h x
theorem Le.cond {α:Type}{c:Bool}{p q p' q':G3 α}(h:Le p q) (k:Le p' q'):Le (bif c then p else p') (bif c then q else q'):=by
 cases c
 ·exact k
 ·exact h
theorem Le.elim {α β γ:Type}{f g:α->G3 γ}{f' g':β->G3 γ}{y:α⊕β}(h:∀ x,Le (f x) (g x)) (k:∀ x,Le (f' x) (g' x)):Le (Sum.elim f f' y) (Sum.elim g g' y):=by
 cases y
 ·exact h _
 ·exact k _
theorem le_of_eq {α β:Type}{f:α->G3 β}{g:α->β}(h:∀ x,f x=some (g x)):∀ x,Le (some (g x)) (f x):=fun x a e=>by rw [h,<- e]
def zqs {α:Type}[DecidableEq α] (a b:G3 α):G3 α:=if a=b then a else none
theorem Le.gag {α:Type}[DecidableEq α] {p q p' q':G3 α}(h:Le p q) (k:Le p' q'):Le (zqs p p') (yM q q'):=by
 intro r e;unfold zqs at e;split at e
 ·rename_i c;subst c;rw [h r e,k r e];exact ZC _
 ·cases e
noncomputable section
class TW {α:Type}(q:G3 α) where
 p:G3 α
 h:Le p q
instance (priority:=10) twd {α:Type}(q:G3 α):TW q:=⟨q,Le.refl q⟩
instance {α β:Type}{q:G3 α}{g:α->G3 β}[a:TW q] [b:∀ x,TW (g x)]:TW (q.bind g):=⟨a.p.bind fun x=>(b x).p,Le.bind a.h fun x=>(b x).h⟩
instance {α:Type}{c:Prop}[Decidable c] {q q':G3 α}[a:TW q] [b:TW q']:TW (if c then q else q'):=⟨if c then a.p else b.p,Le.ite a.h b.h⟩
instance {α:Type}{c:Bool}{q q':G3 α}[a:TW q] [b:TW q']:TW (bif c then q else q'):=⟨bif c then a.p else b.p,Le.cond a.h b.h⟩
instance {α β γ:Type}{f:α->G3 γ}{g:β->G3 γ}{y:α⊕β}[a:∀ x,TW (f x)] [b:∀ x,TW (g x)]:TW (Sum.elim f g y):=⟨Sum.elim (fun x=>(a x).p) (fun x=>(b x).p) y,Le.elim (fun x=>(a x).h) fun x=>(b x).h⟩
instance {s β:Type}{g:s->G3 (Step s β)}{x:s}[a:∀ x,TW (g x)]:TW (lpO g x):=⟨lpW (fun x=>(a x).p) x,Le.lpW (fun x=>(a x).h) x⟩
instance {α:Type}[DecidableEq α] {q q':G3 α}[a:TW q] [b:TW q']:TW (yM q q'):=⟨zqs a.p b.p,Le.gag a.h b.h⟩
abbrev TWb {α β:Type}{q:G3 α}{g:α->G3 β}(a:TW q) (b:∀ x,TW (g x)):TW (q.bind g):=inferInstance
abbrev TWi {α:Type}{c:Prop}[Decidable c] {q q':G3 α}(a:TW q) (b:TW q'):TW (if c then q else q'):=inferInstance
abbrev TWe {α β γ:Type}{f:α->G3 γ}{g:β->G3 γ}{y:α⊕β}(a:∀ x,TW (f x)) (b:∀ x,TW (g x)):TW (Sum.elim f g y):=inferInstance
abbrev twk {α β:Type}{v:(α->G3 β)->α->G3 β}(t:∀ h,(∀ x,TW (h x))->∀ x,TW (v h x)) {f:Nat->α->G3 β}(h0:∀ x,f 0 x=none) (hs:∀ k x,f (k+1) x=v (f k) x) (k:Nat):∀ x,TW (f k x):=
 k.rec (fun x=>⟨none,fun a e=>by cases e⟩) fun k i x=>⟨(t (f k) i x).p,by rw [hs];exact (t (f k) i x).h⟩
theorem TW.run {α:Type}{q:G3 α}{a:α}(t:TW q) (h:t.p=some a):q=some a:=t.h a h
end
end Go.Px
