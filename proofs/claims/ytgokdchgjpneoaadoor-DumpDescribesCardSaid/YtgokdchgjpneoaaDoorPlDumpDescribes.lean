import Derived.Test.YtgokdchgjpneoaaDoorPlDump
/-! Plain law: what the segments of any bytes are told to be. -/
namespace Go.Rel
open Go Go.Eng Go.Pl
theorem dumpDescribes_true {a : List Int} (hb : Byt a) (stop : Int) : law29_DumpDescribes a stop true := by
  have h900 := take_min a 900
  have hl : (a.take 900).length ≤ 900 := by rw [List.length_take]; omega
  have hbt : Byt (a.take 900) := hb.take _
  rw [show ((900 : Nat) : Int) = 900 from rfl] at h900
  have hj3 : ∀ (p s : Int), p = ((segP 0 [] (a.take 900)).length : Int) → (s = p ∨ s = stop) → law29_DumpDescribes_j3 a stop (descsB (a.take 900), (segP 0 [] (a.take 900)).map fun x => (x.2.length : Int)) p s true := by
    intro p s hp hs
    unfold law29_DumpDescribes_j3
    rw [h900]
    refine ⟨true, known29_ok, _, fun _ => describe_ok hbt (by omega), true, fun _ => lines25_ok ?_, ?_⟩
    · have := (segP_sum (a.take 900) 0 []).2
      simp only [descsB, List.length_map]; omega
    · have h1 : decide (p = ((descsB (a.take 900)).length : Int)) = true := by rw [decide_eq_true_eq, hp]; simp [descsB]
      simp only
      rw [h1]
      rcases hs with hs | hs <;> simp [hs]
  unfold law29_DumpDescribes
  rw [h900]
  refine ⟨by omega, by omega, _, rdescribe_ok hbt (by omega), _, rfl, ?_⟩
  have hitr := each_itr hbt (by omega)
  have hn := (segP_sum (a.take 900) 0 []).2
  generalize a.take 900 = c at *
  have hrun : RunB (law29_DumpDescribes_l1 (descsB c, (segP 0 [] c).map fun x => (x.2.length : Int))) ((segP 0 [] c).map fun x => ((x.2.length : Int), bstr (descL x))) 0 (.inl ((segP 0 [] c).length : Int)) := by
    obtain ⟨t', h1, h2⟩ := runB_inv (B := law29_DumpDescribes_l1 (descsB c, (segP 0 [] c).map fun x => (x.2.length : Int))) (fun k (s : Int) => s = (k : Int)) (fun _ => False) ((segP 0 [] c).map fun x => ((x.2.length : Int), bstr (descL x))) (s := 0) rfl (by
      rintro k hk s rfl
      rw [List.length_map] at hk
      left
      refine ⟨((k + 1 : Nat) : Int), ?_, rfl⟩
      unfold law29_DumpDescribes_l1
      rw [if_neg (by simp only [descsB, List.length_map, decide_eq_true_eq]; omega)]
      refine ⟨bstr (descL (segP 0 [] c)[k]), idx_at rfl (by simp [descsB, hk]), ?_⟩
      rw [if_neg (by simp)]
      refine ⟨((segP 0 [] c)[k].2.length : Int), idx_at rfl (by simp [hk]), ?_⟩
      unfold law29_DumpDescribes_j2
      rw [if_neg (by simp), w_small (by omega) (by omega)]; rfl)
    rcases h2 with ⟨s', rfl, rfl⟩ | ⟨e, _, hf⟩
    · simpa using h1
    · exact hf.elim
  obtain ⟨t2, r2, h2⟩ := stop_run29 (B := law29_DumpDescribes_l4 stop) (stop := stop) (fun x s h0 h1 => by
    unfold law29_DumpDescribes_l4
    by_cases h : s = stop
    · rw [if_pos (by simpa using h), if_pos h]
    · rw [if_neg (by simpa using h), if_neg h, w_small (by omega) (by omega)]) ((segP 0 [] c).map fun x => ((x.2.length : Int), bstr (descL x))) 0 (by omega) (by rw [List.length_map]; omega)
  refine ⟨_, (), hitr _ _ _ _ (run_yof hrun), _, rfl, _, (), hitr _ _ _ _ (run_yof r2), ?_⟩
  rcases h2 with rfl | rfl
  · exact hj3 _ _ rfl (.inl (by simp))
  · exact hj3 _ _ rfl (.inr rfl)
theorem dumpDescribes_claim {a : List Int} {stop : Int} (h0 : ListOk (IntOk .u8) a) (_h1 : IntOk .i64 stop) : law29_DumpDescribes a stop true := dumpDescribes_true (ok_byt h0) stop
end Go.Rel
