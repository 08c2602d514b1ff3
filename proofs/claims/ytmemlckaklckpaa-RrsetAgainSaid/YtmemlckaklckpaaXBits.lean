/- A part of the proof of a statement on sets of records: what some functions of the program do, walked step by step. -/
import Derived.Test.YtmemlckaklckpaaXRow
import Derived.Laws.BitsAllLaws
import Derived.Laws.Shifts
set_option linter.unusedVariables false
set_option linter.unusedSimpArgs false
namespace Go.Proofs.X
open Go.RowKit
section
variable {P : Program} {w : World} {a : Act} {d : Option Nat} {ty : TypeId} {ps : String} {af : Array Edge} {g : Option (Nat × Bool)}
theorem Runs.shr {t u : TypeId} {x y : Operand} {m n : Int} {k2 : IntKind} (hx : a.eval x = .int .i64 m) (hy : a.eval y = .int k2 n) (h0 : 0 ≤ n) (h1 : n ≤ 64) :
    Runs P (Oper.mk d (.binOp .shr t x y u) ty ps af g) a w (.int .i64 (m / 2 ^ n.toNat)) := by
  have e : min n.toNat IntKind.i64.bits = n.toNat := by simp [IntKind.bits]; omega
  constructor; simp [execOp, hx, hy, eqGuard, binOp, shift_shr_any _ _ _ _ h0, e]
theorem Runs.shl {t u : TypeId} {x y : Operand} {m n : Int} {k2 : IntKind} (hx : a.eval x = .int .i64 m) (hy : a.eval y = .int k2 n) (h0 : 0 ≤ n) (h1 : n ≤ 64) (h2 : 0 ≤ m * 2 ^ n.toNat ∧ m * 2 ^ n.toNat < 9223372036854775808) :
    Runs P (Oper.mk d (.binOp .shl t x y u) ty ps af g) a w (.int .i64 (m * 2 ^ n.toNat)) := by
  have e : min n.toNat IntKind.i64.bits = n.toNat := by simp [IntKind.bits]; omega
  have e2 : IntKind.i64.wrap (m * 2 ^ n.toNat) = m * 2 ^ n.toNat := IntWalk.i64_in _ (by omega)
  constructor; simp [execOp, hx, hy, eqGuard, binOp, shift_shl_any _ _ _ _ h0, e, e2]
theorem Runs.shl8 {t u : TypeId} {x y : Operand} {m : Nat} (hx : a.eval x = .int .i64 (m : Nat)) (hy : a.eval y = .int .u64 8) (h : m * 256 < 4611686018427387904) :
    Runs P (Oper.mk d (.binOp .shl t x y u) ty ps af g) a w (.int .i64 ((m * 256 : Nat) : Int)) := by
  have := Runs.shl (P := P) (w := w) (d := d) (ty := ty) (ps := ps) (af := af) (g := g) (t := t) (u := u) hx hy (by omega) (by omega) (by simp; omega)
  have e : ((m : Nat) : Int) * 2 ^ (8 : Int).toNat = ((m * 256 : Nat) : Int) := by simp
  rwa [e] at this
theorem nat_join8 (x y : Nat) (hy : y < 256) : (x * 256) ||| y = x * 256 + y := by
  have := nat_join8' (x * 256) y (by omega) hy
  rw [Nat.or_comm] at this
  exact this
theorem Runs.or8 {t u : TypeId} {x y : Operand} {m n : Nat} (hx : a.eval x = .int .i64 ((m * 256 : Nat) : Int)) (hy : a.eval y = .int .i64 (n : Nat)) (hn : n < 256) (hm : m * 256 < 4611686018427387904) :
    Runs P (Oper.mk d (.binOp .or t x y u) ty ps af g) a w (.int .i64 ((m * 256 + n : Nat) : Int)) := by
  have e : (BitVec.ofInt 64 ((m * 256 : Nat) : Int) ||| BitVec.ofInt 64 (n : Int)).toNat = m * 256 + n := by
    rw [BitVec.toNat_or, BitVec.ofInt_natCast, BitVec.ofInt_natCast, BitVec.toNat_ofNat, BitVec.toNat_ofNat, Nat.mod_eq_of_lt (by omega), Nat.mod_eq_of_lt (by omega), nat_join8 m n hn]
  have e2 : IntKind.i64.wrap ((m * 256 + n : Nat) : Int) = ((m * 256 + n : Nat) : Int) := IntWalk.i64_in _ (by omega)
  constructor
  have hb : (Op.intBits .or .i64 ((m * 256 : Nat) : Int) (n : Nat)) = Sem.pure (.int .i64 ((m * 256 + n : Nat) : Int)) := by
    show Sem.pure (Value.int .i64 (IntKind.i64.wrap ((BitVec.ofInt 64 ((m * 256 : Nat) : Int) ||| BitVec.ofInt 64 (n : Int)).toNat : Nat))) = _
    rw [e, e2]
  simp only [execOp, hx, hy, eqGuard, binOp, hb, Sem.run_bind, Sem.run_pure, Result.andThen_ok]
  simp [Sem.run]
end
end Go.Proofs.X
