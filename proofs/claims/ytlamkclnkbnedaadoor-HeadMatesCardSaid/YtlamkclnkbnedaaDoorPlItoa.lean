import Derived.Test.YtlamkclnkbnedaaDoorPlB
import Derived.Test.YtlamkclnkbnedaaDoorURel
/-! Plain laws: small numbers in digits. -/
namespace Go.Rel
open Go Go.Eng Go.Pl
theorem itoa_small {n : Int} {s : ByteArray} (h0 : 0 ≤ n) (h1 : n < 100) (hs : internal_strconv_small n s) : strconv_Itoa n s := by
  refine ⟨s, ⟨s, ?_, rfl⟩, rfl⟩
  unfold internal_strconv_FormatInt
  rw [if_pos (by decide), if_pos (by simpa using h0)]
  unfold internal_strconv_FormatInt_j1
  rw [if_pos (by simpa using h1)]
  exact ⟨s, hs, rfl⟩
theorem utoa_small {n : Int} {s : ByteArray} (h0 : 0 ≤ n) (h1 : n < 100) (hs : internal_strconv_small n s) : strconv_FormatUint n 10 s := by
  refine ⟨s, ?_, rfl⟩
  unfold internal_strconv_FormatUint
  rw [if_pos (by decide), if_pos (by simpa using h1), w_small (by omega) (by omega)]
  exact ⟨s, hs, rfl⟩
theorem dig0 : internal_strconv_small 0 (bstr [48]) := by
  unfold internal_strconv_small
  rw [if_pos (by decide)]
  exact ⟨by decide, by decide, by decide +kernel, by decide +kernel⟩
theorem dig2 : internal_strconv_small 2 (bstr [50]) := by
  unfold internal_strconv_small
  rw [if_pos (by decide)]
  exact ⟨by decide, by decide, by decide +kernel, by decide +kernel⟩
theorem dig3 : internal_strconv_small 3 (bstr [51]) := by
  unfold internal_strconv_small
  rw [if_pos (by decide)]
  exact ⟨by decide, by decide, by decide +kernel, by decide +kernel⟩
theorem dig4 : internal_strconv_small 4 (bstr [52]) := by
  unfold internal_strconv_small
  rw [if_pos (by decide)]
  exact ⟨by decide, by decide, by decide +kernel, by decide +kernel⟩
theorem dig10 : internal_strconv_small 10 (bstr [49, 48]) := by
  unfold internal_strconv_small
  rw [if_neg (by decide)]
  exact ⟨by decide, by decide, by decide +kernel, by decide +kernel⟩
theorem dig64 : internal_strconv_small 64 (bstr [54, 52]) := by
  unfold internal_strconv_small
  rw [if_neg (by decide)]
  exact ⟨by decide, by decide, by decide +kernel, by decide +kernel⟩
theorem dig77 : internal_strconv_small 77 (bstr [55, 55]) := by
  unfold internal_strconv_small
  rw [if_neg (by decide)]
  exact ⟨by decide, by decide, by decide +kernel, by decide +kernel⟩
end Go.Rel
