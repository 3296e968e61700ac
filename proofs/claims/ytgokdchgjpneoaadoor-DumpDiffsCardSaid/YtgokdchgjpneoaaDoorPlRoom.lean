import Derived.Test.YtgokdchgjpneoaaDoorPlB
import Derived.Test.YtgokdchgjpneoaaDoorURel
/-! Plain laws: rooms on the wire. -/
namespace Go.Rel
open Go Go.Eng Go.Pl
def mostB (n : Int) : Int := if n < 0 then 0 else n + max ((n + 253) / 254) 1
theorem most_ok {n : Int} (hn : n < 4611686018427387904) : cobs_Most n (mostB n) := by
  unfold cobs_Most mostB
  by_cases h : n < 0
  · rw [if_pos (by simpa using h), if_pos h]
  · rw [if_neg (by simpa using h), if_neg h, Int.tmod_eq_emod_of_nonneg (by omega), Int.tdiv_eq_ediv_of_nonneg (by omega)]
    have hmax : ∀ a b : Int, max a b = if a ≤ b then b else a := fun a b => by omega
    by_cases h2 : n % 254 = 0
    · rw [if_neg (by simpa using h2)]
      unfold cobs_Most_j1
      rw [w_small (n := n / 254) (by omega) (by omega), w_small (by rw [hmax]; split <;> omega) (by rw [hmax]; split <;> omega)]
      rw [show (n + 253) / 254 = n / 254 by omega]
    · rw [if_pos (by simpa using h2)]
      unfold cobs_Most_j1
      rw [w_small (n := n / 254) (by omega) (by omega), w_small (n := n / 254 + 1) (by omega) (by omega), w_small (by rw [hmax]; split <;> omega) (by rw [hmax]; split <;> omega)]
      rw [show (n + 253) / 254 = n / 254 + 1 by omega]
def wireB (n : Int) : Int := if n < 1 ∨ 242 < n then 0 else n + 15
theorem wire_ok (n : Int) : frame_Wire n (wireB n) := by
  unfold frame_Wire wireB
  by_cases h : n < 1
  · rw [if_pos (by simpa using h), if_pos (.inl h)]
    unfold frame_Wire_j1; rw [if_pos rfl]
  · rw [if_neg (by simpa using h)]
    unfold frame_Wire_j1
    by_cases h2 : 242 < n
    · rw [if_pos (by simpa using h2), if_pos (.inr h2)]
    · rw [if_neg (by simpa using h2), if_neg (by omega)]
      rw [w_small (n := n + 12) (by omega) (by omega)]
      refine ⟨_, most_ok (by omega), ?_⟩
      unfold mostB
      rw [if_neg (by omega), w_small (by omega) (by omega)]; omega
def roomB (m : Int) : Int := if m < 16 then 0 else min (m - 15) 242
theorem room_ok {m : Int} (hm : m ≤ 9223372036854775807) : frame_Room m (roomB m) := by
  refine ⟨_, wire_ok 1, ?_⟩
  have e : wireB 1 = 16 := rfl
  rw [e]
  unfold roomB
  by_cases h : m < 16
  · rw [if_pos (by simpa using h), if_pos h]
  · rw [if_neg (by simpa using h), if_neg h]
    refine ⟨_, wire_ok 1, ?_⟩
    rw [e, w_small (n := m - 16) (by omega) (by omega), w_small (by omega) (by omega), show m - 16 + 1 = m - 15 by omega]
end Go.Rel
