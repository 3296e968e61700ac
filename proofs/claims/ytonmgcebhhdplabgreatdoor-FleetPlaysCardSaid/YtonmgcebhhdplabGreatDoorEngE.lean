import Derived.Test.YtonmgcebhhdplabGreatDoorEngD
import Derived.Laws.AppendOwn
import Derived.Laws.AppendOwnNone
import Derived.Laws.Slices
import Derived.Laws.Strings
import Derived.Laws.StructEq
/-! The engine, part E: operations on temporaries alone. -/
namespace Go.Eng
open Go

theorem beq_dec {α : Type} [BEq α] [LawfulBEq α] [DecidableEq α] (a b : α) : (a == b) = decide (a = b) := by
 by_cases h : a = b
 ·subst h; simp
 ·rw [decide_eq_false h]; simpa using h

section
variable {P : Program} {n : Nat} {c : Ctx P n} {ρ : Env} {σ : Sto} {gs : List Grp} {k : List Item} {ops : Array Oper} {i : Nat} {rest : List Nat}
variable {d : Option Nat} {ty : TypeId} {pos : String} {after : Array Edge} {g : Option (Nat × Bool)} {x y z : Operand} {v u : Value}

theorem o_move (ho : ops[i]? = some ⟨d, .move x, ty, pos, after, g⟩) (hg : wants ops ρ g = true) (hf : fits n d = true) (hx : ev ρ x = some v)
    (h : St c (put ρ d v) σ gs (.inRegion ops rest :: k)) : St c ρ σ gs (.inRegion ops (i :: rest) :: k) :=
  st_pure ho hg hf rfl (fun ds a w ha => by simp [execOp, ha.eval hx]) h
theorem o_assign (ho : ops[i]? = some ⟨d, .assign x, ty, pos, after, g⟩) (hg : wants ops ρ g = true) (hf : fits n d = true) (hx : ev ρ x = some v)
    (h : St c (put ρ d v) σ gs (.inRegion ops rest :: k)) : St c ρ σ gs (.inRegion ops (i :: rest) :: k) :=
  st_pure ho hg hf rfl (fun ds a w ha => by simp [execOp, ha.eval hx]) h

def ibin : BinOp → IntKind → Int → Int → Option Value
 | .add, k, a, b => some (.int k (k.wrap (a + b)))
 | .sub, k, a, b => some (.int k (k.wrap (a - b)))
 | .mul, k, a, b => some (.int k (k.wrap (a * b)))
 | .and, k, a, b => some (.int k (k.wrap (BitVec.ofInt k.bits a &&& BitVec.ofInt k.bits b).toNat))
 | .or, k, a, b => some (.int k (k.wrap (BitVec.ofInt k.bits a ||| BitVec.ofInt k.bits b).toNat))
 | .xor, k, a, b => some (.int k (k.wrap (BitVec.ofInt k.bits a ^^^ BitVec.ofInt k.bits b).toNat))
 | .eql, _, a, b => some (.bool (decide (a = b)))
 | .neq, _, a, b => some (.bool (!decide (a = b)))
 | .lss, _, a, b => some (.bool (decide (a < b)))
 | .leq, _, a, b => some (.bool (decide (a ≤ b)))
 | .gtr, _, a, b => some (.bool (decide (b < a)))
 | .geq, _, a, b => some (.bool (decide (b ≤ a)))
 | _, _, _, _ => none

theorem run_ibin {op : BinOp} {ki : IntKind} {a b : Int} (hv : ibin op ki a b = some v) (t : TypeId) (x y : Operand) (w : World) :
    (do eqGuard op t x y (.int ki a) (.int ki b); binOp op t (.int ki a) (.int ki b) : Sem Value).run P w = .ok v w := by
  cases op <;> simp [ibin] at hv <;> subst hv <;>
    simp [eqGuard, binOp, Op.intArith, Op.intBits, Op.intCmp, beq_dec, bne]

theorem o_ibin {op : BinOp} {t t' : TypeId} {ki : IntKind} {a b : Int} (ho : ops[i]? = some ⟨d, .binOp op t x y t', ty, pos, after, g⟩) (hg : wants ops ρ g = true) (hf : fits n d = true)
    (hx : ev ρ x = some (.int ki a)) (hy : ev ρ y = some (.int ki b)) (hv : ibin op ki a b = some v)
    (h : St c (put ρ d v) σ gs (.inRegion ops rest :: k)) : St c ρ σ gs (.inRegion ops (i :: rest) :: k) :=
  st_pure ho hg hf rfl (fun ds a' w ha => by
    have := run_ibin (P := P) hv t x y w
    simp only [execOp, ha.eval hx, ha.eval hy, Sem.run_bind, Sem.run_pure] at this ⊢
    rw [this]; rfl) h

theorem o_quo {t t' : TypeId} {ki : IntKind} {a b : Int} (ho : ops[i]? = some ⟨d, .binOp .quo t x y t', ty, pos, after, g⟩) (hg : wants ops ρ g = true) (hf : fits n d = true)
    (hx : ev ρ x = some (.int ki a)) (hy : ev ρ y = some (.int ki b)) (hb : b ≠ 0)
    (h : St c (put ρ d (.int ki (ki.wrap (a.tdiv b)))) σ gs (.inRegion ops rest :: k)) : St c ρ σ gs (.inRegion ops (i :: rest) :: k) :=
  st_pure ho hg hf rfl (fun ds a' w ha => by simp [execOp, ha.eval hx, ha.eval hy, eqGuard, binOp, Op.intDiv, hb]) h
theorem o_rem {t t' : TypeId} {ki : IntKind} {a b : Int} (ho : ops[i]? = some ⟨d, .binOp .rem t x y t', ty, pos, after, g⟩) (hg : wants ops ρ g = true) (hf : fits n d = true)
    (hx : ev ρ x = some (.int ki a)) (hy : ev ρ y = some (.int ki b)) (hb : b ≠ 0)
    (h : St c (put ρ d (.int ki (a.tmod b))) σ gs (.inRegion ops rest :: k)) : St c ρ σ gs (.inRegion ops (i :: rest) :: k) :=
  st_pure ho hg hf rfl (fun ds a' w ha => by simp [execOp, ha.eval hx, ha.eval hy, eqGuard, binOp, Op.intDiv, hb]) h
theorem o_shl {t t' : TypeId} {ki kj : IntKind} {a b : Int} (ho : ops[i]? = some ⟨d, .binOp .shl t x y t', ty, pos, after, g⟩) (hg : wants ops ρ g = true) (hf : fits n d = true)
    (hx : ev ρ x = some (.int ki a)) (hy : ev ρ y = some (.int kj b)) (hb : 0 ≤ b)
    (h : St c (put ρ d (.int ki (ki.wrap (a * 2 ^ min b.toNat ki.bits)))) σ gs (.inRegion ops rest :: k)) : St c ρ σ gs (.inRegion ops (i :: rest) :: k) :=
  st_pure ho hg hf rfl (fun ds a' w ha => by simp [execOp, ha.eval hx, ha.eval hy, eqGuard, binOp, Op.shift, show ¬ b < 0 by omega]) h
theorem o_shr {t t' : TypeId} {ki kj : IntKind} {a b : Int} (ho : ops[i]? = some ⟨d, .binOp .shr t x y t', ty, pos, after, g⟩) (hg : wants ops ρ g = true) (hf : fits n d = true)
    (hx : ev ρ x = some (.int ki a)) (hy : ev ρ y = some (.int kj b)) (hb : 0 ≤ b)
    (h : St c (put ρ d (.int ki (a.fdiv (2 ^ min b.toNat ki.bits)))) σ gs (.inRegion ops rest :: k)) : St c ρ σ gs (.inRegion ops (i :: rest) :: k) :=
  st_pure ho hg hf rfl (fun ds a' w ha => by simp [execOp, ha.eval hx, ha.eval hy, eqGuard, binOp, Op.shift, show ¬ b < 0 by omega]) h

def sbin : BinOp → ByteArray → ByteArray → Option Value
 | .eql, a, b => some (.bool (decide (a = b)))
 | .neq, a, b => some (.bool (!decide (a = b)))
 | _, _, _ => none
theorem toList_eq (a b : ByteArray) : (a.toList == b.toList) = decide (a = b) := by
 rw [beq_dec]
 refine decide_eq_decide.2 ⟨fun h => ?_, fun h => by rw [h]⟩
 rw [ByteArray.toList_eq, ByteArray.toList_eq] at h
 exact ByteArray.ext (Array.ext' h)
theorem o_sbin {op : BinOp} {t t' : TypeId} {a b : ByteArray} (ho : ops[i]? = some ⟨d, .binOp op t x y t', ty, pos, after, g⟩) (hg : wants ops ρ g = true) (hf : fits n d = true)
    (hx : ev ρ x = some (.string a)) (hy : ev ρ y = some (.string b)) (hv : sbin op a b = some v)
    (h : St c (put ρ d v) σ gs (.inRegion ops rest :: k)) : St c ρ σ gs (.inRegion ops (i :: rest) :: k) :=
  st_pure ho hg hf rfl (fun ds a' w ha => by
    simp only [execOp, ha.eval hx, ha.eval hy]
    cases op <;> simp [sbin] at hv <;> subst hv <;> simp only [eqGuard, binOp, Op.stringOp, toList_eq, Sem.run_bind, Sem.run_pure] <;> rfl) h
theorem o_sadd {t t' : TypeId} {a b : ByteArray} (ho : ops[i]? = some ⟨d, .binOp .add t x y t', ty, pos, after, g⟩) (hg : wants ops ρ g = true) (hf : fits n d = true)
    (hx : ev ρ x = some (.string a)) (hy : ev ρ y = some (.string b)) (hs : a.size + b.size < 4611686018427387904)
    (h : St c (put ρ d (.string (a ++ b))) σ gs (.inRegion ops rest :: k)) : St c ρ σ gs (.inRegion ops (i :: rest) :: k) :=
  st_pure ho hg hf rfl (fun ds a' w ha => by
    have : ¬ (((a.size + b.size : Nat) : Int) > IntKind.i64.max) := by
      have : IntKind.i64.max = 9223372036854775807 := by decide
      rw [this]; omega
    have h2 : ((eqGuard .add t x y (.string a) (.string b)).run P w) = .ok () w := by simp [eqGuard]
    simp only [execOp, ha.eval hx, ha.eval hy, Sem.run_bind, h2, Result.andThen_ok, binOp, Op.stringOp, Sem.run_ite, Sem.run_pure]
    rw [if_neg this]; rfl) h

theorem o_not {t : TypeId} {b : Bool} (ho : ops[i]? = some ⟨d, .unOp .not t x, ty, pos, after, g⟩) (hg : wants ops ρ g = true) (hf : fits n d = true) (hx : ev ρ x = some (.bool b))
    (h : St c (put ρ d (.bool (!b))) σ gs (.inRegion ops rest :: k)) : St c ρ σ gs (.inRegion ops (i :: rest) :: k) :=
  st_pure ho hg hf rfl (fun ds a w ha => by simp [execOp, ha.eval hx, Op.unary]) h
theorem o_neg {t : TypeId} {ki : IntKind} {a : Int} (ho : ops[i]? = some ⟨d, .unOp .neg t x, ty, pos, after, g⟩) (hg : wants ops ρ g = true) (hf : fits n d = true) (hx : ev ρ x = some (.int ki a))
    (h : St c (put ρ d (.int ki (ki.wrap (0 - a)))) σ gs (.inRegion ops rest :: k)) : St c ρ σ gs (.inRegion ops (i :: rest) :: k) :=
  st_pure ho hg hf rfl (fun ds a w ha => by simp [execOp, ha.eval hx, Op.unary, Op.intArith]) h
theorem o_compl {t : TypeId} {ki : IntKind} {a : Int} (ho : ops[i]? = some ⟨d, .unOp .xor t x, ty, pos, after, g⟩) (hg : wants ops ρ g = true) (hf : fits n d = true) (hx : ev ρ x = some (.int ki a)) (hv : ibin .xor ki (if ki.signed then -1 else ki.max) a = some v)
    (h : St c (put ρ d v) σ gs (.inRegion ops rest :: k)) : St c ρ σ gs (.inRegion ops (i :: rest) :: k) :=
  st_pure ho hg hf rfl (fun ds a w ha => by cases hv; simp [execOp, ha.eval hx, Op.unary, Op.intBits]) h
theorem o_pick {b : Bool} (ho : ops[i]? = some ⟨d, .pick x y z, ty, pos, after, g⟩) (hg : wants ops ρ g = true) (hf : fits n d = true) (hx : ev ρ x = some (.bool b))
    (hy : ev ρ (if b then y else z) = some v) (h : St c (put ρ d v) σ gs (.inRegion ops rest :: k)) : St c ρ σ gs (.inRegion ops (i :: rest) :: k) :=
  st_pure ho hg hf rfl (fun ds a w ha => by
    have h2 := ha.eval hy
    cases b <;> simp_all [execOp, ha.eval hx, asBool]) h
theorem o_beq {op : BinOp} {t t' : TypeId} {a b e : Bool} (ho : ops[i]? = some ⟨d, .binOp op t x y t', ty, pos, after, g⟩) (hg : wants ops ρ g = true) (hf : fits n d = true) (ht : P.underlying t = some .bool)
    (hx : ev ρ x = some (.bool a)) (hy : ev ρ y = some (.bool b)) (hv : (match op with | .eql => some (decide (a = b)) | .neq => some (!decide (a = b)) | _ => none) = some e)
    (h : St c (put ρ d (.bool e)) σ gs (.inRegion ops rest :: k)) : St c ρ σ gs (.inRegion ops (i :: rest) :: k) :=
  st_pure ho hg hf rfl (fun ds a' w ha => by
    cases op <;> cases hv <;>
    simp [execOp, ha.eval hx, ha.eval hy, eqGuard, binOp, run_equal_bool w t a b ht, beq_dec]) h

theorem o_conv {t t' : TypeId} {ki kj : IntKind} {a : Int} (ho : ops[i]? = some ⟨d, .convert t t' x, ty, pos, after, g⟩) (hg : wants ops ρ g = true) (hf : fits n d = true)
    (ht : P.underlying t = some (.int ki)) (ht' : P.underlying t' = some (.int kj)) (hx : ev ρ x = some (.int ki a))
    (h : St c (put ρ d (.int kj (kj.wrap a))) σ gs (.inRegion ops rest :: k)) : St c ρ σ gs (.inRegion ops (i :: rest) :: k) :=
  st_pure ho hg hf rfl (fun ds a w ha => by simp [execOp, ha.eval hx, convert, run_underlying ht, run_underlying ht', Conv.intToInt]) h

theorem o_func {fn : Fn} {f1 cp : Array Operand} {vs : List Value} (ho : ops[i]? = some ⟨d, .makeFunc fn f1 cp, ty, pos, after, g⟩) (hg : wants ops ρ g = true) (hf : fits n d = true)
    (h1 : f1 = #[]) (hc : evs ρ cp.toList = some vs) (h : St c (put ρ d (.func fn #[] vs.toArray)) σ gs (.inRegion ops rest :: k)) : St c ρ σ gs (.inRegion ops (i :: rest) :: k) :=
  st_pure ho hg hf rfl (fun ds a w ha => by
    subst h1
    have : cp.map a.eval = vs.toArray := by rw [← ha.evals hc]; obtain ⟨l⟩ := cp; simp
    simp [execOp, Instr.makeFunc, this]) h
theorem o_extract {j : Nat} {vs : List Value} (ho : ops[i]? = some ⟨d, .extract x j, ty, pos, after, g⟩) (hg : wants ops ρ g = true) (hf : fits n d = true) (hx : ev ρ x = some (.tuple vs.toArray)) (hv : vs[j]? = some v)
    (h : St c (put ρ d v) σ gs (.inRegion ops rest :: k)) : St c ρ σ gs (.inRegion ops (i :: rest) :: k) :=
  st_pure ho hg hf rfl (fun ds a w ha => by simp [execOp, ha.eval hx, Instr.extract, hv]) h
theorem o_nilCheck {a : Addr} (ho : ops[i]? = some ⟨d, .nilCheck x, ty, pos, after, g⟩) (hg : wants ops ρ g = true) (hf : fits n d = true) (hx : ev ρ x = some (.pointer (some a)))
    (h : St c (put ρ d (.pointer (some a))) σ gs (.inRegion ops rest :: k)) : St c ρ σ gs (.inRegion ops (i :: rest) :: k) :=
  st_pure ho hg hf rfl (fun ds a w ha => by simp [execOp, ha.eval hx]) h
theorem o_nilCheckF {f : FuncId} {p q : Array Value} (ho : ops[i]? = some ⟨d, .nilCheck x, ty, pos, after, g⟩) (hg : wants ops ρ g = true) (hf : fits n d = true) (hx : ev ρ x = some (.func (.func f) p q))
    (h : St c (put ρ d (.func (.func f) p q)) σ gs (.inRegion ops rest :: k)) : St c ρ σ gs (.inRegion ops (i :: rest) :: k) :=
  st_pure ho hg hf rfl (fun ds a w ha => by simp [execOp, ha.eval hx]) h

theorem run_equalIn_ptrNil {t e : TypeId} (ht : P.underlying t = some (.pointer e)) (q : Nat) (p : Option Addr) (w : World) : (Op.equalIn (q + 1) t (.pointer p) (.pointer none)).run P w = .ok p.isNone w := by
 cases p <;> simp [Op.equalIn, run_underlying ht]
theorem run_equalIn_fnNil {t : TypeId} {as bs : Array TypeId} {vd : Bool} (ht : P.underlying t = some (.func as bs vd)) (q : Nat) (fn : Fn) (p r : Array Value) (w : World) : (Op.equalIn (q + 1) t (.func fn p r) .nilFunc).run P w = .ok false w := by
 simp [Op.equalIn, run_underlying ht]
theorem o_ptrNil {op : BinOp} {t t' e : TypeId} {p : Option Addr} {b : Bool} (ho : ops[i]? = some ⟨d, .binOp op t x y t', ty, pos, after, g⟩) (hg : wants ops ρ g = true) (hf : fits n d = true) (ht : P.underlying t = some (.pointer e))
    (hx : ev ρ x = some (.pointer p)) (hy : ev ρ y = some (.pointer none)) (hv : (match op with | .eql => some p.isNone | .neq => some (!p.isNone) | _ => none) = some b)
    (h : St c (put ρ d (.bool b)) σ gs (.inRegion ops rest :: k)) : St c ρ σ gs (.inRegion ops (i :: rest) :: k) :=
  st_pure ho hg hf rfl (fun ds a w ha => by
    have h1 : (Op.equal t (.pointer p) (.pointer none)).run P w = .ok p.isNone w := run_equalIn_ptrNil ht 9999 p w
    cases op <;> cases hv <;> simp [execOp, ha.eval hx, ha.eval hy, eqGuard, binOp, h1]) h
theorem o_fnNil {op : BinOp} {t t' : TypeId} {as bs : Array TypeId} {vd b : Bool} {fn : Fn} {p r : Array Value} (ho : ops[i]? = some ⟨d, .binOp op t x y t', ty, pos, after, g⟩) (hg : wants ops ρ g = true) (hf : fits n d = true) (ht : P.underlying t = some (.func as bs vd))
    (hx : ev ρ x = some (.func fn p r)) (hy : ev ρ y = some .nilFunc) (hv : (match op with | .eql => some false | .neq => some true | _ => none) = some b)
    (h : St c (put ρ d (.bool b)) σ gs (.inRegion ops rest :: k)) : St c ρ σ gs (.inRegion ops (i :: rest) :: k) :=
  st_pure ho hg hf rfl (fun ds a w ha => by
    have h1 : (Op.equal t (.func fn p r) .nilFunc).run P w = .ok false w := run_equalIn_fnNil ht 9999 fn p r w
    cases op <;> cases hv <;> simp [execOp, ha.eval hx, ha.eval hy, eqGuard, binOp, h1]) h

/-! ### len, cap, min, max -/
theorem o_min2 {ki : IntKind} {a b : Int} {ats : Array TypeId} (ho : ops[i]? = some ⟨d, .call ⟨.builtin .min, #[x, y], ats⟩, ty, pos, after, g⟩) (hg : wants ops ρ g = true) (hf : fits n d = true) (hx : ev ρ x = some (.int ki a)) (hy : ev ρ y = some (.int ki b))
    (h : St c (put ρ d (.int ki (min a b))) σ gs (.inRegion ops rest :: k)) : St c ρ σ gs (.inRegion ops (i :: rest) :: k) :=
  st_pure ho hg hf rfl (fun ds a' w ha => by
    simp only [execOp, resolve, ha.eval hx, ha.eval hy, Sem.run_bind, List.map_toArray, List.map_cons, List.map_nil, Sem.run_pure, Result.andThen_ok, invoke, builtin, Builtin.min_, List.foldlM_cons, List.foldlM_nil, Builtin.min2]
    congr 3
    split <;> omega) h
theorem o_max2 {ki : IntKind} {a b : Int} {ats : Array TypeId} (ho : ops[i]? = some ⟨d, .call ⟨.builtin .max, #[x, y], ats⟩, ty, pos, after, g⟩) (hg : wants ops ρ g = true) (hf : fits n d = true) (hx : ev ρ x = some (.int ki a)) (hy : ev ρ y = some (.int ki b))
    (h : St c (put ρ d (.int ki (max a b))) σ gs (.inRegion ops rest :: k)) : St c ρ σ gs (.inRegion ops (i :: rest) :: k) :=
  st_pure ho hg hf rfl (fun ds a' w ha => by
    simp only [execOp, resolve, ha.eval hx, ha.eval hy, Sem.run_bind, List.map_toArray, List.map_cons, List.map_nil, Sem.run_pure, Result.andThen_ok, invoke, builtin, Builtin.max_, List.foldlM_cons, List.foldlM_nil, Builtin.max2]
    congr 3
    split <;> omega) h
theorem o_lenS {t : TypeId} {s : ByteArray} (ho : ops[i]? = some ⟨d, .call ⟨.builtin .len, #[x], #[t]⟩, ty, pos, after, g⟩) (hg : wants ops ρ g = true) (hf : fits n d = true) (ht : P.underlying t = some .string) (hx : ev ρ x = some (.string s))
    (h : St c (put ρ d (.int .i64 s.size)) σ gs (.inRegion ops rest :: k)) : St c ρ σ gs (.inRegion ops (i :: rest) :: k) :=
  st_pure ho hg hf rfl (fun ds a' w ha => by
    simp [execOp, resolve, ha.eval hx, invoke, builtin, Builtin.len_, run_underlying ht, goInt]) h
theorem o_len {t e : TypeId} {a : Option Addr} {len cap : Nat} (ho : ops[i]? = some ⟨d, .call ⟨.builtin .len, #[x], #[t]⟩, ty, pos, after, g⟩) (hg : wants ops ρ g = true) (hf : fits n d = true) (ht : P.underlying t = some (.slice e)) (hx : ev ρ x = some (.slice a len cap))
    (h : St c (put ρ d (.int .i64 len)) σ gs (.inRegion ops rest :: k)) : St c ρ σ gs (.inRegion ops (i :: rest) :: k) :=
  st_pure ho hg hf rfl (fun ds a' w ha => by
    simp [execOp, resolve, ha.eval hx, invoke, builtin, Builtin.len_, run_underlying ht, goInt]) h
end
end Go.Eng
