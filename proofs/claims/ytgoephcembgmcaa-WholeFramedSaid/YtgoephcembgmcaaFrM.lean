import Derived.Laws.BitsAllLaws
namespace Go.Proofs.Ytgoephcembgmcaa.FrM

/-! Numbers as bytes, seven bits each, the lowest first; there and back (plain law). -/
def vnum (n : Nat) : List Int := if n ≤ 127 then [(n : Int)] else ((n % 128 + 128 : Nat) : Int) :: vnum (n / 128)
termination_by n
decreasing_by omega
theorem vnum_small {n : Nat} (h : n ≤ 127) : vnum n = [(n : Int)] := by rw [vnum, if_pos h]
theorem vnum_big {n : Nat} (h : ¬ n ≤ 127) : vnum n = ((n % 128 + 128 : Nat) : Int) :: vnum (n / 128) := by rw [vnum, if_neg h]
theorem vnum_ne (n : Nat) : vnum n ≠ [] := by
  rw [vnum]
  split <;> simp
theorem vnum_byte : ∀ (k n : Nat), n < 128 ^ k → ∀ x ∈ vnum n, 0 ≤ x ∧ x ≤ 255
  | 0, n, h, x, hx => by
    have : n = 0 := by simpa using h
    rw [this, vnum_small (by omega)] at hx
    simp only [List.mem_singleton] at hx
    omega
  | k + 1, n, h, x, hx => by
    by_cases hn : n ≤ 127
    · rw [vnum_small hn] at hx
      simp only [List.mem_singleton] at hx
      omega
    · rw [vnum_big hn] at hx
      rcases List.mem_cons.1 hx with hx | hx
      · omega
      · refine vnum_byte k (n / 128) ?_ x hx
        rw [Nat.pow_succ] at h
        exact Nat.div_lt_of_lt_mul (by rw [Nat.mul_comm]; exact h)
theorem vnum_len : ∀ (k n : Nat), n < 128 ^ (k + 1) → (vnum n).length ≤ k + 1
  | 0, n, h => by
    rw [vnum_small (by simp at h; omega)]
    simp
  | k + 1, n, h => by
    by_cases hn : n ≤ 127
    · rw [vnum_small hn]
      simp
    · rw [vnum_big hn]
      have := vnum_len k (n / 128) (by
        rw [Nat.pow_succ] at h
        exact Nat.div_lt_of_lt_mul (by rw [Nat.mul_comm]; exact h))
      simp only [List.length_cons]
      omega
/-- The step of the reader: the bits that are new lie above those that are there. -/
theorem or_step {acc k d : Nat} (h : acc < 128 ^ k) : acc ||| (d <<< (7 * k)) = acc + d * 128 ^ k := by
  have e : 128 ^ k = 2 ^ (7 * k) := by rw [Nat.pow_mul]
  rw [e] at h ⊢
  rw [Nat.shiftLeft_eq, Nat.or_comm, Nat.mul_comm d, ← Nat.two_pow_add_eq_or_of_lt h, Nat.add_comm]
/-- What has been read after k bytes, and what is to come. -/
theorem part_step {n k : Nat} : n % 128 ^ k + (n / 128 ^ k % 128) * 128 ^ k = n % 128 ^ (k + 1) := by
  rw [Nat.pow_succ, Nat.mod_mul, Nat.mul_comm (128 ^ k)]
theorem part_last {n k : Nat} : n % 128 ^ k + (n / 128 ^ k) * 128 ^ k = n := by
  rw [Nat.mul_comm]
  exact Nat.mod_add_div n (128 ^ k)
theorem part_next {n k : Nat} : n / 128 ^ k / 128 = n / 128 ^ (k + 1) := by
  rw [Nat.div_div_eq_div_mul, Nat.pow_succ]
/-- The last byte of a number of more than one byte is no nought. -/
theorem part_pos {n k : Nat} (h : ¬ n / 128 ^ k ≤ 127) : 0 < n / 128 ^ (k + 1) := by
  rw [← part_next]
  omega
set_option maxRecDepth 100000 in
/-- byte(n) | 128, for what stays. -/
theorem or_128 (n : Nat) : n % 256 ||| 128 = n % 128 + 128 := by
  have h : ∀ m < 256, m ||| 128 = m % 128 + 128 := by decide
  rw [h _ (Nat.mod_lt _ (by decide))]
  omega
theorem and_127 (n : Nat) : n &&& 127 = n % 128 := Nat.and_two_pow_sub_one_eq_mod n 7
end Go.Proofs.Ytgoephcembgmcaa.FrM
