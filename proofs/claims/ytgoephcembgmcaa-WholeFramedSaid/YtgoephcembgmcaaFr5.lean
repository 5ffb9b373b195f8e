import Derived.Test.YtgoephcembgmcaaFr4
import Derived.Laws.Bits64b
import Derived.Laws.Shifts
set_option linter.unusedSimpArgs false
set_option linter.unusedVariables false
namespace Go.Proofs.Ytgoephcembgmcaa.Fr
open Go.RowKit Go.Proofs.YtgoephcembgmcaaW.PrintWords Go.Proofs.YtgoephcembgmcaaW.PrintLast Go.Proofs.YtgoephcembgmcaaW.PrintMore Go.Proofs.Ytgoephcembgmcaa.Wk Go.Proofs.Ytgoephcembgmcaa.FrM
open Go.Proofs.Ytgoephcembgmcaa.WkM (w64)

/-! Bits of an int, as the reader of numbers joins them. -/
theorem i64_or_nat (a b : Nat) (ha : a < 4611686018427387904) (hb : b < 4611686018427387904) : bits .or .i64 (a : Int) (b : Int) = ((a ||| b : Nat) : Int) := by
  have hx : a ||| b < 2 ^ 62 := Nat.or_lt_two_pow (by omega) (by omega)
  have h1 : (BitVec.ofInt 64 (a : Int)).toNat = a := by
    rw [BitVec.ofInt_natCast, BitVec.toNat_ofNat]; exact Nat.mod_eq_of_lt (by omega)
  have h2 : (BitVec.ofInt 64 (b : Int)).toNat = b := by
    rw [BitVec.ofInt_natCast, BitVec.toNat_ofNat]; exact Nat.mod_eq_of_lt (by omega)
  show IntKind.i64.wrap ((BitVec.ofInt 64 (a : Int) ||| BitVec.ofInt 64 (b : Int)).toNat : Int) = _
  rw [BitVec.toNat_or, h1, h2, i64_w]
  exact w64 _ (by omega) (by omega)
theorem shl_i64 (x j : Nat) (hj : j ≤ 5) (hx : x ≤ 255) : Op.shift .shl .i64 (x : Int) .i64 ((7 * j : Nat) : Int) = pure (.int .i64 ((x * 128 ^ j : Nat) : Int)) := by
  rw [shift_shl_any _ _ _ _ (by omega), i64_w, Int.toNat_natCast]
  have hb : min (7 * j) IntKind.i64.bits = 7 * j := by
    show min (7 * j) 64 = 7 * j
    omega
  rw [hb]
  have e : (x : Int) * 2 ^ (7 * j) = ((x * 128 ^ j : Nat) : Int) := by
    have : 128 ^ j = 2 ^ (7 * j) := by rw [Nat.pow_mul]
    rw [this]
    push_cast
    rfl
  rw [e]
  have hp : 128 ^ j ≤ 128 ^ 5 := Nat.pow_le_pow_right (by decide) hj
  have hm : x * 128 ^ j ≤ 255 * 128 ^ 5 := Nat.mul_le_mul hx hp
  rw [w64 _ (by omega) (by omega)]
/-- The step of the reader on ints. -/
theorem join_i64 (m j d : Nat) (hj : j ≤ 5) (hd : d ≤ 127) : bits .or .i64 ((m % 128 ^ j : Nat) : Int) ((d * 128 ^ j : Nat) : Int) = ((m % 128 ^ j + d * 128 ^ j : Nat) : Int) := by
  have hp : 128 ^ j ≤ 128 ^ 5 := Nat.pow_le_pow_right (by decide) hj
  have h0 : 0 < 128 ^ j := Nat.pow_pos (by decide)
  have hlt : m % 128 ^ j < 128 ^ j := Nat.mod_lt _ h0
  have hm : d * 128 ^ j ≤ 127 * 128 ^ 5 := Nat.mul_le_mul hd hp
  rw [i64_or_nat _ _ (by omega) (by omega)]
  have e : d * 128 ^ j = d <<< (7 * j) := by rw [Nat.shiftLeft_eq, Nat.pow_mul]
  rw [e, or_step hlt, ← e]
end Go.Proofs.Ytgoephcembgmcaa.Fr
