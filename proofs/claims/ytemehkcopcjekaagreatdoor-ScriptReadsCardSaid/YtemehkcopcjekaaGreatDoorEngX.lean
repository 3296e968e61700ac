import Derived.Test.YtemehkcopcjekaaGreatDoorEngQ
import Derived.Test.YtemehkcopcjekaaGreatDoorEngU
import Derived.Lib.ParseIntB
import Derived.Lib.ConvBytes
import Derived.Lib.AtoiErrMem
import Derived.Test.YtemehkcopcjekaaGreatDoorEngN
/-! The engine, part X: errors that may be; numbers read by the library. -/
namespace Go.Eng
open Go
def IfB (v : Value) (b : Bool) : Prop := if b = true then ∃ t p, v = .iface t p else v = .nilIface
theorem IfB.nil : IfB .nilIface false := by simp [IfB]
theorem IfB.up {v : Value} {b : Bool} {σ τ : Sto} (h : IfB v b) (_hl : σ.Le τ) : IfB v b := h
section
variable {P : Program} {n : Nat} {c : Ctx P n} {ρ : Env} {σ : Sto} {gs : List Grp} {k : List Item} {ops : Array Oper} {i : Nat} {rest : List Nat}
variable {d : Option Nat} {ty : TypeId} {pos : String} {after : Array Edge} {g : Option (Nat × Bool)} {x : Operand} {v : Value}
theorem run_equalIn_ifNil {t : TypeId} {ms : Array (String × TypeId)} (ht : P.underlying t = some (.interface ms)) {b : Bool} (h : IfB v b) (q : Nat) (w : World) : (Op.equalIn (q + 1) t v .nilIface).run P w = .ok (!b) w := by
 cases b with
 | true =>
  obtain ⟨tp, p, rfl⟩ : ∃ t p, v = .iface t p := by simpa [IfB] using h
  simp [Op.equalIn, run_underlying ht]
 | false =>
  obtain rfl : v = .nilIface := by simpa [IfB] using h
  simp [Op.equalIn, run_underlying ht]
theorem o_ifNil {op : BinOp} {t t' : TypeId} {ms : Array (String × TypeId)} {e b : Bool} (ho : ops[i]? = some ⟨d, .binOp op t x (.const .nilIface) t', ty, pos, after, g⟩) (hg : wants ops ρ g = true) (hf : fits n d = true) (ht : P.underlying t = some (.interface ms))
    (hx : ev ρ x = some v) (hi : IfB v e) (hv : (match op with | .eql => some (!e) | .neq => some e | _ => none) = some b)
    (h : St c (put ρ d (.bool b)) σ gs (.inRegion ops rest :: k)) : St c ρ σ gs (.inRegion ops (i :: rest) :: k) :=
  st_pure ho hg hf rfl (fun ds a w ha => by
    have h1 : (Op.equal t v .nilIface).run P w = .ok (!e) w := run_equalIn_ifNil ht hi 9999 w
    have hq : ∀ o, (eqGuard o t x (.const .nilIface) v .nilIface).run P w = .ok () w := fun o => by
      cases e with
      | true => obtain ⟨tp, p, rfl⟩ : ∃ t p, v = .iface t p := by simpa [IfB] using hi
                cases o <;> simp [eqGuard]
      | false => obtain rfl : v = .nilIface := by simpa [IfB] using hi
                 cases o <;> simp [eqGuard]
    have hy : a.eval (.const .nilIface) = .nilIface := rfl
    cases op <;> cases hv <;> simp [execOp, ha.eval hx, hy, hq, binOp, h1]) h
end
/-! ### Numbers -/
def bsI (l : List UInt8) : List Int := l.map fun b => (b.toNat : Int)
theorem pu_lib : ∀ (l : List UInt8) (acc : Nat), match Lib.parseUintM (2 ^ 64 - 1) acc l with
    | .ok u => pu64 acc (bsI l) = (0, (u : Int))
    | .range => (pu64 acc (bsI l)).1 = 2
    | _ => (pu64 acc (bsI l)).1 = 1
  | [], acc => rfl
  | c :: r, acc => by
    have ih := pu_lib r (acc * 10 + (c.toNat - 48))
    simp only [Lib.parseUintM, bsI, List.map_cons, pu64]
    by_cases h : 48 ≤ c.toNat ∧ c.toNat ≤ 57
    · have h' : (48 : Int) ≤ (c.toNat : Int) ∧ (c.toNat : Int) ≤ 57 := by omega
      rw [if_pos h, if_pos h']
      by_cases h1 : 1844674407370955162 ≤ acc
      · have h1' : (1844674407370955162 : Int) ≤ (acc : Int) := by omega
        rw [if_pos h1, if_pos h1']
      · have h1' : ¬ (1844674407370955162 : Int) ≤ (acc : Int) := by omega
        rw [if_neg h1, if_neg h1']
        by_cases h2 : 2 ^ 64 - 1 < acc * 10 + (c.toNat - 48)
        · have h2' : (18446744073709551615 : Int) < (acc : Int) * 10 + ((c.toNat : Int) - 48) := by omega
          rw [if_pos h2, if_pos h2']
        · have h2' : ¬ (18446744073709551615 : Int) < (acc : Int) * 10 + ((c.toNat : Int) - 48) := by omega
          rw [if_neg h2, if_neg h2']
          have e : ((acc : Int) * 10 + ((c.toNat : Int) - 48)) = ((acc * 10 + (c.toNat - 48) : Nat) : Int) := by omega
          rw [e]
          exact ih
    · have h' : ¬ ((48 : Int) ≤ (c.toNat : Int) ∧ (c.toNat : Int) ≤ 57) := by omega
      rw [if_neg h, if_neg h']
theorem pi_lib (l : List UInt8) : match Lib.parseIntB 64 l with
    | .ok v => pi64 (bsI l) = (v, false)
    | .range => pi64 (bsI l) = (Lib.intSat 64 l, true)
    | _ => pi64 (bsI l) = (0, true) := by
  cases l with
  | nil => rfl
  | cons c r =>
    have hb : (if (c.toNat : Int) = 43 ∨ (c.toNat : Int) = 45 then bsI r else (c.toNat : Int) :: bsI r) = bsI (if c.toNat = 43 ∨ c.toNat = 45 then r else c :: r) := by
      by_cases h : c.toNat = 43 ∨ c.toNat = 45
      · have h' : (c.toNat : Int) = 43 ∨ (c.toNat : Int) = 45 := by omega
        rw [if_pos h, if_pos h']
      · have h' : ¬ ((c.toNat : Int) = 43 ∨ (c.toNat : Int) = 45) := by omega
        rw [if_neg h, if_neg h']; rfl
    have hsat : (if (c.toNat : Int) = 45 then ((-9223372036854775808 : Int), true) else (9223372036854775807, true)) = (Lib.intSat 64 (c :: r), true) := by
      unfold Lib.intSat
      by_cases h : c.toNat = 45
      · have h' : (c.toNat : Int) = 45 := by omega
        rw [if_pos h', if_pos (by simp [h])]; rfl
      · have h' : ¬ (c.toNat : Int) = 45 := by omega
        rw [if_neg h', if_neg (by simpa using h)]; rfl
    have key : pi64 (bsI (c :: r)) = (if (if bsI (if c.toNat = 43 ∨ c.toNat = 45 then r else c :: r) = [] then ((1 : Int), (0 : Int)) else pu64 0 (bsI (if c.toNat = 43 ∨ c.toNat = 45 then r else c :: r))).1 = 1 then (0, true) else if (if bsI (if c.toNat = 43 ∨ c.toNat = 45 then r else c :: r) = [] then ((1 : Int), (0 : Int)) else pu64 0 (bsI (if c.toNat = 43 ∨ c.toNat = 45 then r else c :: r))).1 = 2 then (Lib.intSat 64 (c :: r), true) else if (c.toNat : Int) ≠ 45 ∧ 9223372036854775808 ≤ (if bsI (if c.toNat = 43 ∨ c.toNat = 45 then r else c :: r) = [] then ((1 : Int), (0 : Int)) else pu64 0 (bsI (if c.toNat = 43 ∨ c.toNat = 45 then r else c :: r))).2 then (Lib.intSat 64 (c :: r), true) else if (c.toNat : Int) = 45 ∧ 9223372036854775808 < (if bsI (if c.toNat = 43 ∨ c.toNat = 45 then r else c :: r) = [] then ((1 : Int), (0 : Int)) else pu64 0 (bsI (if c.toNat = 43 ∨ c.toNat = 45 then r else c :: r))).2 then (Lib.intSat 64 (c :: r), true) else (if (c.toNat : Int) = 45 then -(if bsI (if c.toNat = 43 ∨ c.toNat = 45 then r else c :: r) = [] then ((1 : Int), (0 : Int)) else pu64 0 (bsI (if c.toNat = 43 ∨ c.toNat = 45 then r else c :: r))).2 else (if bsI (if c.toNat = 43 ∨ c.toNat = 45 then r else c :: r) = [] then ((1 : Int), (0 : Int)) else pu64 0 (bsI (if c.toNat = 43 ∨ c.toNat = 45 then r else c :: r))).2, false)) := by
      rw [← hsat, ← hb]; rfl
    rw [key]
    simp only [Lib.parseIntB, Lib.parseUintB]
    generalize (if c.toNat = 43 ∨ c.toNat = 45 then r else c :: r) = b
    generalize Lib.intSat 64 (c :: r) = sat
    by_cases h0 : b = []
    · subst h0; rfl
    · have h0' : bsI b ≠ [] := by simpa [bsI] using h0
      rw [if_neg h0, if_neg h0']
      have hp := pu_lib b 0
      cases hq : Lib.parseUintM (2 ^ 64 - 1) 0 b with
      | range => rw [hq] at hp; simp only at hp ⊢; rw [show ((0 : Nat) : Int) = 0 from rfl] at hp; rw [if_neg (by rw [hp]; decide), if_pos hp]
      | ok u =>
        rw [hq] at hp; simp only at hp ⊢; rw [show ((0 : Nat) : Int) = 0 from rfl] at hp; rw [hp]
        simp only
        rw [if_neg (show ¬ (0 : Int) = 1 by decide), if_neg (show ¬ (0 : Int) = 2 by decide)]
        have h63 : (2 : Nat) ^ (64 - 1) = 9223372036854775808 := by decide
        rw [h63]
        by_cases hc : c.toNat = 45
        · have hc' : (c.toNat : Int) = 45 := by omega
          have n1 : ¬ ((c.toNat : Int) ≠ 45 ∧ 9223372036854775808 ≤ (u : Int)) := fun h => h.1 hc'
          have n2 : ¬ (¬ c.toNat = 45 ∧ 9223372036854775808 ≤ u) := fun h => h.1 hc
          rw [if_neg n1, if_neg n2]
          by_cases hu : 9223372036854775808 < u
          · rw [if_pos (show (c.toNat : Int) = 45 ∧ 9223372036854775808 < (u : Int) from ⟨hc', by omega⟩), if_pos (show c.toNat = 45 ∧ 9223372036854775808 < u from ⟨hc, hu⟩)]
          · rw [if_neg (show ¬ ((c.toNat : Int) = 45 ∧ 9223372036854775808 < (u : Int)) by omega), if_neg (show ¬ (c.toNat = 45 ∧ 9223372036854775808 < u) by omega)]
            simp [hc]
        · have hc' : ¬ (c.toNat : Int) = 45 := by omega
          by_cases hu : 9223372036854775808 ≤ u
          · rw [if_pos (show (c.toNat : Int) ≠ 45 ∧ 9223372036854775808 ≤ (u : Int) from ⟨hc', by omega⟩), if_pos (show ¬ c.toNat = 45 ∧ 9223372036854775808 ≤ u from ⟨hc, hu⟩)]
          · rw [if_neg (show ¬ ((c.toNat : Int) ≠ 45 ∧ 9223372036854775808 ≤ (u : Int)) by omega), if_neg (show ¬ (¬ c.toNat = 45 ∧ 9223372036854775808 ≤ u) by omega), if_neg (show ¬ ((c.toNat : Int) = 45 ∧ 9223372036854775808 < (u : Int)) by omega), if_neg (show ¬ (c.toNat = 45 ∧ 9223372036854775808 < u) by omega)]
            simp [hc]
            omega
      | _ => rw [hq] at hp; simp only at hp ⊢; rw [show ((0 : Nat) : Int) = 0 from rfl] at hp; rw [if_pos hp]
def Errs (P : Program) (σ : Sto) : Prop := ∀ w : World, (∀ b o, σ.imm b = some o → w.heap[b]? = some o) → (∃ tp p, w.var? P "strconv.ErrSyntax" = some #[.iface tp p]) ∧ ∃ tp p, w.var? P "strconv.ErrRange" = some #[.iface tp p]
theorem Errs.up {P : Program} {σ τ : Sto} (h : Errs P σ) (hl : σ.Le τ) : Errs P τ := fun w hw => h w fun b o hb => hw b o (hl.imm b o hb)
theorem var_kept {P : Program} {w w' : World} {s : String} {cs : Array Value} (h : w.var? P s = some cs) (hw : ∀ (b : Nat) (o : Obj), w.heap[b]? = some o → w'.heap[b]? = some o) : w'.var? P s = some cs := by
 unfold World.var? at *
 cases hg : P.globalNamed s with
 | none => rw [hg] at h; simp at h
 | some g =>
  rw [hg] at h
  simp only [Option.bind_some] at h ⊢
  cases hb : w.heap[g]? with
  | none => rw [hb] at h; simp at h
  | some o => rw [hw g o hb]; rw [hb] at h; exact h
theorem Errs.of {P : Program} {w : World} {t1 t2 : TypeId} {p1 p2 : Value} (h1 : w.var? P "strconv.ErrSyntax" = some #[.iface t1 p1]) (h2 : w.var? P "strconv.ErrRange" = some #[.iface t2 p2]) : Errs P (Sto.of w) := fun _ hw =>
 ⟨⟨t1, p1, var_kept h1 hw⟩, ⟨t2, p2, var_kept h2 hw⟩⟩
theorem parse_does {P : Program} {f : FuncId} {σ : Sto} {T te tn : TypeId} {fn : ByteArray} {s : ByteArray}
    (hok : ∀ (s : ByteArray) (_ : s.size ≤ 9223372036854775806) (v : Int) (_ : Lib.parseIntB 64 s.data.toList = .ok v) (w : World), Calls P f #[.string s, .int .i64 10, .int .i64 64] w fun e w' => e = .returned (.tuple #[.int .i64 v, .nilIface]) ∧ (w' = w ∨ ∃ t, w' = Lib.bytesWorld w T t))
    (hsyn : ∀ (s : ByteArray) (_ : s.size ≤ 281474976710656) (_ : Lib.parseIntB 64 s.data.toList = Lib.parseIntB 64 []) (tp : TypeId) (p : Value) (w : World) (_ : w.var? P "strconv.ErrSyntax" = some #[.iface tp p]), Calls P f #[.string s, .int .i64 10, .int .i64 64] w fun e w' => ∃ N, e = .returned (.tuple #[.int .i64 (0), .iface te (.pointer (some ⟨N, 0, none⟩))]) ∧ w.heap.size ≤ N ∧ w'.heap[N]? = some (.cells #[.string fn, .string s, .iface tp p] tn (0, 0)) ∧ RowKit.Below w.heap.size w w')
    (hran : ∀ (s : ByteArray) (_ : s.size ≤ 281474976710656) (_ : Lib.parseIntB 64 s.data.toList = .range) (tp : TypeId) (p : Value) (w : World) (_ : w.var? P "strconv.ErrRange" = some #[.iface tp p]), Calls P f #[.string s, .int .i64 10, .int .i64 64] w fun e w' => ∃ N, e = .returned (.tuple #[.int .i64 (Lib.intSat 64 s.data.toList), .iface te (.pointer (some ⟨N, 0, none⟩))]) ∧ w.heap.size ≤ N ∧ w'.heap[N]? = some (.cells #[.string fn, .string s, .iface tp p] tn (0, 0)) ∧ RowKit.Below w.heap.size w w')
    (hE : Errs P σ) (hs : s.size ≤ 281474976710656) :
    Does P f [.string s, .int .i64 10, .int .i64 64] σ [] (fun v _ gs => ∃ e, gs = [] ∧ .tuple [.int .i64 (pi64 (bints s)).1, e].toArray = v ∧ IfB e (pi64 (bints s)).2) := by
  intro fs w hw cs
  have hp := pi_lib s.data.toList
  have hb : bsI s.data.toList = bints s := rfl
  rw [hb] at hp
  have hw' : Wor σ fs w := by simpa using hw
  cases hq : Lib.parseIntB 64 s.data.toList with
  | ok v =>
    rw [hq] at hp; simp only at hp
    obtain ⟨e, w1, fr', ⟨rfl, hk⟩, hst, hfn, hl⟩ := hok s (by omega) v hq w cs
    refine ⟨_, w1, fr', σ, [], ⟨.nilIface, rfl, rfl, by rw [hp]; exact IfB.nil⟩, Sto.Le.refl _, ?_, hst, hfn, by rw [hp]; exact hl⟩
    rcases hk with rfl | ⟨t, rfl⟩
    · simpa using hw'
    · simpa using wor_below hw' (Lib.bytesWorld_below w T t)
  | range =>
    rw [hq] at hp; simp only at hp
    obtain ⟨-, ⟨tp, p, hv⟩⟩ := hE w hw.imm
    obtain ⟨e, w1, fr', ⟨N, rfl, _, _, hbl⟩, hst, hfn, hl⟩ := hran s hs hq tp p w hv cs
    exact ⟨_, w1, fr', σ, [], ⟨.iface te (.pointer (some ⟨N, 0, none⟩)), rfl, rfl, by rw [hp]; exact ⟨_, _, rfl⟩⟩, Sto.Le.refl _, by simpa using wor_below hw' hbl, hst, hfn, by rw [hp]; exact hl⟩
  | _ =>
    rw [hq] at hp; simp only at hp
    obtain ⟨⟨tp, p, hv⟩, -⟩ := hE w hw.imm
    obtain ⟨e, w1, fr', ⟨N, rfl, _, _, hbl⟩, hst, hfn, hl⟩ := hsyn s hs hq tp p w hv cs
    exact ⟨_, w1, fr', σ, [], ⟨.iface te (.pointer (some ⟨N, 0, none⟩)), rfl, rfl, by rw [hp]; exact ⟨_, _, rfl⟩⟩, Sto.Le.refl _, by simpa using wor_below hw' hbl, hst, hfn, by rw [hp]; exact hl⟩
end Go.Eng
