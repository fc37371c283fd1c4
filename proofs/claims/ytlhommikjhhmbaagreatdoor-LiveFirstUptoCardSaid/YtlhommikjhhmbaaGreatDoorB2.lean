/- Part B2. -/
import Derived.Test.YtlhommikjhhmbaaGreatDoorLh
set_option linter.unusedVariables false
set_option linter.unusedSimpArgs false
namespace Go.Px
open _root_.Option renaming some->j,bind->m
open Sum renaming elim->l
def Le{α:Type}(p q:U3 α):Prop:=∀a,p=j a->q=j a
theorem Le.refl{α:Type}(p:U3 α):Le p p:=λ_ h=>h
theorem Le.bind{α β:Type}{p q:U3 α}{f g:α->U3 β}(h:Le p q)(k:∀a,Le (f a) (g a)):Le (m p f) (m q g):=λb hb=>by
 cases hp:p with
 |none=>rw[hp] at hb;cases hb
 |some a=>rw[hp] at hb;rw[h a hp];exact k a b hb
theorem Le.ite{α:Type}{c:Prop}[d:Decidable c]{p q p' q':U3 α}(h:Le p q)(k:Le p' q'):Le (if c then p else p') (if c then q else q'):=by
 by_cases a:c
 ·rw[jv a,jv a];exact h
 ·rw[jx a,jx a];exact k
theorem Le.iter{s β:Type}{f g:s->U3 (Step s β)}(h:∀x,Le (f x) (g x)):∀(k:Nat) (x:s),Le (ya f k x) (ya g k x)
 |0,_ =>.refl _
 |k+1,x=>by
  show Le (m (f x) _) (m (g x) _);refine Le.bind (h x) λst=>?_
  cases st with
  |next a=>exact Le.iter h k a
  |done y=>exact .refl _
theorem Le.loop{s β:Type}{f g:s->U3 (Step s β)}{k:Nat}(h:∀x,Le (f x) (g x))(x:s):Le (ya f k x) (loopO g x):=λy a=>vz.2 ⟨k,Le.iter h k x y a⟩
noncomputable def lpW{s β:Type}(f:s->U3 (Step s β))(x:s):U3 β:=ya f 400 x
theorem Le.lpW{s β:Type}{f g:s->U3 (Step s β)}(h:∀x,Le (f x) (g x))(x:s):Le (lpW f x) (lpO g x):=Le.loop h x
theorem Le.cond{α:Type}{c:Bool}{p q p' q':U3 α}(h:Le p q)(k:Le p' q'):Le (bif c then p else p') (bif c then q else q'):=by
 cases c
 ·exact k
 ·exact h
theorem Le.elim{α β γ:Type}{f g:α->U3 γ}{a g':β->U3 γ}{y:α⊕β}(h:∀x,Le (f x) (g x))(k:∀x,Le (a x) (g' x)):Le (l f a y) (l g g' y):=by
 cases y
 ·exact h _
 ·exact k _
theorem le_of_eq{α β:Type}{f:α->U3 β}{g:α->β}(h:∀x,f x=j (g x)):∀x,Le (j (g x)) (f x):=λx a e=>by rw[h,<- e]
def zsX{α:Type}[DecidableEq α](a b:U3 α):U3 α:=if a=b then a else none
theorem Le.gag{α:Type}[DecidableEq α]{p q p' q':U3 α}(h:Le p q)(k:Le p' q'):Le (zsX p p') (yh q q'):=by
 intro r e;unfold zsX at e;split at e
 ·rename_i c;subst c;rw[h r e,k r e];exact Zs _
 ·cases e
noncomputable section
class TW{α:Type}(q:U3 α) where
 p:U3 α
 h:Le p q
instance (priority:=10) twd {α:Type}(q:U3 α):TW q:=⟨q,Le.refl q⟩
instance {α β:Type}{q:U3 α}{g:α->U3 β}[a:TW q][b:∀x,TW (g x)]:TW (q.bind g):=⟨a.p.bind λx=>(b x).p,Le.bind a.h λx=>(b x).h⟩
instance {α:Type}{c:Prop}[Decidable c]{q q':U3 α}[a:TW q][b:TW q']:TW (if c then q else q'):=⟨if c then a.p else b.p,Le.ite a.h b.h⟩
instance {α:Type}{c:Bool}{q q':U3 α}[a:TW q][b:TW q']:TW (bif c then q else q'):=⟨bif c then a.p else b.p,Le.cond a.h b.h⟩
instance {α β γ:Type}{f:α->U3 γ}{g:β->U3 γ}{y:α⊕β}[a:∀x,TW (f x)][b:∀x,TW (g x)]:TW (l f g y):=⟨l (λx=>(a x).p) (λx=>(b x).p) y,Le.elim (λx=>(a x).h) λx=>(b x).h⟩
instance {s β:Type}{g:s->U3 (Step s β)}{x:s}[a:∀x,TW (g x)]:TW (lpO g x):=⟨lpW (λx=>(a x).p) x,Le.lpW (λx=>(a x).h) x⟩
instance {α:Type}[DecidableEq α]{q q':U3 α}[a:TW q][b:TW q']:TW (yh q q'):=⟨zsX a.p b.p,Le.gag a.h b.h⟩
abbrev TWb{α β:Type}{q:U3 α}{g:α->U3 β}(a:TW q)(b:∀x,TW (g x)):TW (q.bind g):=inferInstance
abbrev TWi{α:Type}{c:Prop}[Decidable c]{q q':U3 α}(a:TW q)(b:TW q'):TW (if c then q else q'):=inferInstance
abbrev TWe{α β γ:Type}{f:α->U3 γ}{g:β->U3 γ}{y:α⊕β}(a:∀x,TW (f x))(b:∀x,TW (g x)):TW (l f g y):=inferInstance
abbrev twk{α β:Type}{v:(α->U3 β)->α->U3 β}(t:∀h,(∀x,TW (h x))->∀x,TW (v h x)){f:Nat->α->U3 β}(h0:∀x,f 0 x=none)(hs:∀k x,f (k+1) x=v (f k) x)(k:Nat):∀x,TW (f k x):=
 k.rec (λx=>⟨none,λa e=>by cases e⟩) λk i x=>⟨(t (f k) i x).p,by rw[hs];exact(t (f k) i x).h⟩
theorem TW.run{α:Type}{q:U3 α}{a:α}(t:TW q)(h:t.p=j a):q=j a:=t.h a h
end
end Go.Px
