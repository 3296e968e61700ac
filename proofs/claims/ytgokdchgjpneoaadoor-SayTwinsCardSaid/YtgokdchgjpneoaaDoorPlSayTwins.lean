import Derived.Test.YtgokdchgjpneoaaDoorPlInj
import Derived.Test.YtgokdchgjpneoaaDoorPlEvent
/-! Plain laws: two right messages have one line just if they are the same. -/
namespace Go.Rel
open Go Go.Eng Go.Pl
theorem known20_ok : law20_known true := by
  have h1 : MgOk (2, [300, 2, 9, 0, 0, 0], [], [], bstr [], bstr []) := ⟨by decide, rfl, by decide, by decide, by decide, by decide, by decide, by decide, by decide⟩
  have h2 : MgOk (5, [1, 2, 3, 0, 1, 0], [], [], bstr [104, 105], bstr []) := ⟨by decide, rfl, by decide, by decide, by decide, by decide, by decide, by decide, by decide⟩
  refine ⟨_, sline_ok h1, _, sline_ok h2, ?_⟩
  rw [if_pos (by decide)]
  show true = _
  decide
theorem sayTwins_true {a b : Mg} (ha : MgIn a) (hb : MgIn b) : law20_SayTwins a b true := by
  have oa := cut_in ha
  have ob := cut_in hb
  have h1 := oa.lpath
  have h2 := oa.lcells
  have h3 := ob.lpath
  have h4 := ob.lcells
  refine ⟨_, cut_ok a, _, cut_ok b, _, mcheck_ok (by omega) (by omega), ?_⟩
  generalize cutM a = a at *
  generalize cutM b = b at *
  have kn : law20_SayTwins_j1 a b true true := by
    unfold law20_SayTwins_j1
    rw [if_pos rfl]
    exact ⟨_, known20_ok, rfl⟩
  by_cases ca : checkB a = 0
  · rw [if_neg (by simpa using ca)]
    refine ⟨_, mcheck_ok (by omega) (by omega), ?_⟩
    by_cases cb : checkB b = 0
    · rw [decide_eq_true cb]
      unfold law20_SayTwins_j1
      rw [if_neg (by simp)]
      refine ⟨true, known20_ok, _, fun _ => sline_ok oa, _, fun _ => sline_ok ob, _, fun _ => msame_ok (by omega) (by omega), _, fun _ => mcopy_ok (by omega) (by omega), _, fun _ => sline_ok oa, _, fun _ => sline_ok oa, ?_⟩
      have : decide (bstr (lineL a) = bstr (lineL b)) = sameB a b := by
        by_cases hs : sameB a b = true
        · rw [same_line oa.six ob.six hs, sameB_refl]; simp
        · have hf : sameB a b = false := by simpa using hs
          rw [hf, decide_eq_false]
          intro he
          refine hs (line_inj ca cb ?_)
          exact bs_inj (oct_lineL a) (oct_lineL b) he
      rw [this]; simp
    · rw [decide_eq_false cb]; exact kn
  · rw [if_pos (by simpa using ca)]; exact kn
theorem sayTwins_claim {a b : Mg} (h0 : MgRaw a) (h1 : MgRaw b) : law20_SayTwins a b true := sayTwins_true (mgIn h0) (mgIn h1)
end Go.Rel
