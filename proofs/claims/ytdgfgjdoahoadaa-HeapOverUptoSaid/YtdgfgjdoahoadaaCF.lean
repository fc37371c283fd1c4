/- Loops with fuel: what a model with fuel says, the model says. -/
import Derived.Test.YtdgfgjdoahoadaaC2
namespace Go.Px
set_option linter.unusedVariables false
def Le {α : Type} (p q : Option α) : Prop := ∀ a, p = some a → q = some a
theorem Le.refl {α : Type} (p : Option α) : Le p p := fun _ h => h
theorem Le.bind {α β : Type} {p q : Option α} {f g : α → Option β} (h : Le p q) (k : ∀ a, Le (f a) (g a)) : Le (Option.bind p f) (Option.bind q g) := fun b hb => by
  cases hp : p with
  | none => rw [hp] at hb; cases hb
  | some a => rw [hp] at hb; rw [h a hp]; exact k a b hb
theorem Le.ite {α : Type} {c : Prop} [d : Decidable c] {p q p' q' : Option α} (h : Le p q) (k : Le p' q') : Le (if c then p else p') (if c then q else q') := by
  by_cases hc : c
  · rw [if_pos hc, if_pos hc]; exact h
  · rw [if_neg hc, if_neg hc]; exact k
theorem Le.iter {s β : Type} {f g : s → Option (Step s β)} (h : ∀ x, Le (f x) (g x)) : ∀ (k : Nat) (x : s), Le (iterL f k x) (iterL g k x)
  | 0, _ => .refl _
  | k + 1, x => by
    show Le (Option.bind (f x) _) (Option.bind (g x) _)
    refine Le.bind (h x) fun st => ?_
    cases st with
    | next x' => exact Le.iter h k x'
    | done y => exact .refl _
theorem Le.loop {s β : Type} {f g : s → Option (Step s β)} {k : Nat} (h : ∀ x, Le (f x) (g x)) (x : s) : Le (iterL f k x) (loopO g x) := fun y hy => loopO_iff.2 ⟨k, Le.iter h k x y hy⟩
end Go.Px
