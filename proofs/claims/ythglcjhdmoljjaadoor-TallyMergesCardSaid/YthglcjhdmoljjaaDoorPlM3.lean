import Derived.Test.YthglcjhdmoljjaaDoorURel
import Derived.Test.YthglcjhdmoljjaaDoorPlM2
/-! Plain laws: the document's sums. -/
namespace Go.Rel
open Go Go.Eng Go.Pl
end Go.Rel
/-! Plain laws: bytes read from the left, bytes written. -/
namespace Go.Rel
open Go Go.Eng Go.Pl
end Go.Rel
/-! Plain laws: what is stuffed is taken apart. -/
namespace Go.Rel
open Go Go.Eng Go.Pl
end Go.Rel
/-! Plain laws: heads. -/
namespace Go.Rel
open Go Go.Eng Go.Pl
end Go.Rel
/-! Plain laws: rooms on the wire. -/
namespace Go.Rel
open Go Go.Eng Go.Pl
end Go.Rel
/-! Plain laws: frames. -/
namespace Go.Rel
open Go Go.Eng Go.Pl
end Go.Rel
/-! Plain laws: the head of bytes. -/
namespace Go.Rel
open Go Go.Eng Go.Pl
/-! ### heads -/
end Go.Rel
/-! Plain laws: the frame of a segment. -/
namespace Go.Rel
open Go Go.Eng Go.Pl
/-! ### frames -/
end Go.Rel
/-! Plain law: what the segments of any bytes are. -/
namespace Go.Rel
open Go Go.Eng Go.Pl
end Go.Rel
/-! Plain laws: heads of one message; the head of any bytes. -/
namespace Go.Rel
open Go Go.Eng Go.Pl
end Go.Rel
/-! Plain laws: whether any head may be, its bytes and its line. -/
namespace Go.Rel
open Go Go.Eng Go.Pl
end Go.Rel
/-! Plain law: whether any frames may be, and what they are on the wire. -/
namespace Go.Rel
open Go Go.Eng Go.Pl
/-! ### Bytes as strings, and back -/
/-! ### Segments -/
/-! ### The document's -/
/-! ### The law -/
end Go.Rel
/-! Plain law: which segments weren't sent. -/
namespace Go.Rel
open Go Go.Eng Go.Pl
theorem mget_mput {K V : Type} [DecidableEq K] (a b : K) (q : V) : ∀ m : List (K × V), mget (mput m a q) b = if b = a then some q else mget m b
  | [] => by simp [mput, mget]
  | p :: m => by
    by_cases h : a = p.1
    · subst h
      simp only [mput, if_pos, mget]
      by_cases hb : b = p.1
      · simp [hb]
      · simp [hb]
    · simp only [mput, if_neg h, mget, mget_mput a b q m]
      by_cases hb : b = p.1
      · have : b ≠ a := fun e => h (by rw [← e, hb])
        rw [if_pos hb, if_neg this, if_pos hb]
      · rw [if_neg hb, if_neg hb]
end Go.Rel
