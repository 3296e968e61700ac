import Derived.Test.YtgokdchgjpneoaaDoorPlB
/-! Plain laws: functions that are ranged over, as lists. -/
namespace Go.Pl
open Go Go.Eng
/-- The rounds over a list, until one stops. -/
inductive Run {X S : Type} (Y : X → S → Bool × S → Prop) : List X → S → S → Prop
  | nil {s : S} : Run Y [] s s
  | go {x : X} {xs : List X} {s s1 s' : S} (h : Y x s (true, s1)) (h' : Run Y xs s1 s') : Run Y (x :: xs) s s'
  | stop {x : X} {xs : List X} {s s' : S} (h : Y x s (false, s')) : Run Y (x :: xs) s s'
/-- The function goes through just that list. -/
def Itr {X : Type} (it : (S : Type) → (X → S → Bool × S → Prop) → S → S × Unit → Prop) (xs : List X) : Prop := ∀ S Y s s', Run Y xs s s' → it S Y s (s', ())
inductive RunB {X S E : Type} (B : X → S → Sum S E → Prop) : List X → S → Sum S E → Prop
  | nil {s : S} : RunB B [] s (.inl s)
  | go {x : X} {xs : List X} {s s1 : S} {t : Sum S E} (h : B x s (.inl s1)) (h' : RunB B xs s1 t) : RunB B (x :: xs) s t
  | stop {x : X} {xs : List X} {s : S} {e : E} (h : B x s (.inr e)) : RunB B (x :: xs) s (.inr e)
theorem run_yof {X S E : Type} {B : X → S → Sum S E → Prop} {xs : List X} {s : S} {t : Sum S E} (h : RunB B xs s t) : Run (Yof B) xs (.inl s) t := by
  induction h with
  | nil => exact .nil
  | go h _ ih => exact .go ⟨_, _, rfl, h, .inl ⟨_, rfl, rfl⟩⟩ ih
  | stop h => exact .stop ⟨_, _, rfl, h, .inr ⟨_, rfl, rfl⟩⟩
/-- Rounds by what holds ahead of each. -/
theorem runB_inv {X S E : Type} {B : X → S → Sum S E → Prop} (I : Nat → S → Prop) (Q : E → Prop) (xs : List X) {s : S} (h0 : I 0 s)
    (hs : ∀ k (hk : k < xs.length) s, I k s → (∃ s', B xs[k] s (.inl s') ∧ I (k + 1) s') ∨ ∃ e, B xs[k] s (.inr e) ∧ Q e) : ∃ t, RunB B xs s t ∧ ((∃ s', t = .inl s' ∧ I xs.length s') ∨ ∃ e, t = .inr e ∧ Q e) := by
  have key : ∀ (ys : List X) (k : Nat) (s : S), k + ys.length = xs.length → (∀ j (hj : j < ys.length), xs[k + j]? = some ys[j]) → I k s → ∃ t, RunB B ys s t ∧ ((∃ s', t = .inl s' ∧ I xs.length s') ∨ ∃ e, t = .inr e ∧ Q e) := by
    intro ys
    induction ys with
    | nil => intro k s hk _ hi; exact ⟨_, .nil, .inl ⟨s, rfl, by simp at hk; rw [← hk]; exact hi⟩⟩
    | cons y ys ih =>
      intro k s hk hat hi
      have hkl : k < xs.length := by simp at hk; omega
      have hy : xs[k] = y := by
        have := hat 0 (by simp)
        rw [Nat.add_zero, List.getElem?_eq_getElem hkl] at this
        simpa using this
      rcases hs k hkl s hi with ⟨s', h1, h2⟩ | ⟨e, h1, h2⟩
      · rw [hy] at h1
        obtain ⟨t, h3, h4⟩ := ih (k + 1) s' (by simp at hk; omega) (fun j hj => by
          have := hat (j + 1) (by simp; omega)
          rw [show k + 1 + j = k + (j + 1) by omega, this]; simp) h2
        exact ⟨t, .go h1 h3, h4⟩
      · rw [hy] at h1
        exact ⟨_, .stop h1, .inr ⟨e, rfl, h2⟩⟩
  exact key xs 0 s (by omega) (fun j hj => by simp [hj]) h0
/-- Rounds that each go on, and what they make of a state. -/
theorem runB_fold {X S E : Type} {B : X → S → Sum S E → Prop} (f : S → X → S) : ∀ (xs : List X) (s : S), (∀ p x q, xs = p ++ x :: q → B x (p.foldl f s) (.inl (f (p.foldl f s) x))) → RunB B xs s (.inl (xs.foldl f s))
  | [], s, _ => .nil
  | x :: xs, s, h => .go (h [] x xs rfl) (runB_fold f xs (f s x) (fun p y q e => h (x :: p) y q (by rw [e]; rfl)))
end Go.Pl
