import Derived.Test.YtemehkcopcjekaaGreatDoorEngU
import Derived.Lib.Bytealg
/-! The engine, part W: what the shelf tells of a byte's place in a string. -/
namespace Go.Eng
open Go
def placeB (l : List Int) (c : Int) : Int := ((l.findIdx? (fun x => decide (x = c))).map Int.ofNat).getD (-1)
theorem indexByte_place : ∀ (l : List UInt8) (c : UInt8), Lib.indexByte l c = placeB (l.map fun b => (b.toNat : Int)) (c.toNat : Int)
 | [], _ => rfl
 | b :: l, c => by
  have ih := indexByte_place l c
  unfold Lib.indexByte
  by_cases h : b = c
  ·subst h; rw [if_pos (by simp)]; unfold placeB; rw [List.map_cons, List.findIdx?_cons, if_pos (by simp)]; rfl
  ·have h1 : ¬ ((b.toNat : Int) = (c.toNat : Int)) := fun e => h (UInt8.toNat_inj.1 (by omega))
   rw [if_neg (by simpa using h)]
   rw [ih]
   unfold placeB
   rw [List.map_cons, List.findIdx?_cons]
   simp only [decide_eq_true_eq, h1, if_false]
   cases (List.map (fun b => (b.toNat : Int)) l).findIdx? (fun x => decide (x = (c.toNat : Int))) with
   | none => rfl
   | some k =>
    have : ¬ ((Int.ofNat k == (-1 : Int)) = true) := by simp
    simp only [Option.map_some, Option.getD_some]
    rw [if_neg this]
    rfl
section
variable {P : Program} {f : FuncId} {σ : Sto} {s t : ByteArray} {c : Int}
theorem index_does (h : ∀ (s : ByteArray) (c : UInt8) (w : World), Calls P f #[.string s, .string ⟨#[c]⟩] w fun e w' => e = .returned (.int .i64 (Lib.indexByte s.data.toList c)) ∧ w' = w) (hc : bints t = [c]) :
    Does P f [.string s, .string t] σ [] (fun v _ gs => gs = [] ∧ .int .i64 (placeB (bints s) c) = v) := by
  obtain ⟨⟨l⟩⟩ := t
  obtain ⟨u, rfl, rfl⟩ : ∃ u : UInt8, l = [u] ∧ (u.toNat : Int) = c := by
    match l, hc with
    | [u], hc => exact ⟨u, rfl, by simpa [bints] using hc⟩
  have := does_same (P := P) (f := f) (σ := σ) (args := [.string s, .string ⟨#[u]⟩]) (fun w _ => h s u w)
  rw [indexByte_place] at this
  exact this
theorem indexByte_does (h : ∀ (s : ByteArray) (c : Int) (w : World), Calls P f #[.string s, .int .u8 c] w fun e w' => e = .returned (.int .i64 (Lib.indexByte s.data.toList c.toNat.toUInt8)) ∧ w' = w) (hc : IntOk .u8 c) :
    Does P f [.string s, .int .u8 c] σ [] (fun v _ gs => gs = [] ∧ .int .i64 (placeB (bints s) c) = v) := by
  have := does_same (P := P) (f := f) (σ := σ) (args := [.string s, .int .u8 c]) (fun w _ => h s c w)
  rw [indexByte_place] at this
  have hk : (0 : Int) ≤ c ∧ c ≤ 255 := hc
  have e : ((c.toNat.toUInt8).toNat : Int) = c := by
    have : (c.toNat.toUInt8).toNat = c.toNat % 256 := rfl
    rw [this]; omega
  rw [e] at this
  exact this
end
end Go.Eng
