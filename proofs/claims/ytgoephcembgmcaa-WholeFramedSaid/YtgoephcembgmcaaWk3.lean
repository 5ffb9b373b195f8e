import Derived.Test.YtgoephcembgmcaaWk2
set_option linter.unusedSimpArgs false
set_option linter.unusedVariables false
namespace Go.Proofs.Ytgoephcembgmcaa.Wk
open Go.RowKit Go.Proofs.YtgoephcembgmcaaW.PrintWords Go.Proofs.YtgoephcembgmcaaW.PrintLast Go.Proofs.YtgoephcembgmcaaW.PrintMore Go.Proofs.Ytgoephcembgmcaa.WkM

/-! Cuts of a row of bytes. -/
theorem info5 : (Try.prog.info? 5).map (fun i => (i.zero, i.size, i.bytes)) = some (some (.int .u8 0), 1, 1) := by kernel_rfl
theorem take_any (A0 : Option Addr) (c0 : Nat) (l : List Int) (m : Nat) (hc : l.length ≤ c0) (hm : m ≤ l.length) :
    (∀ W : World, (Instr.slice 22 (.slice A0 l.length c0) none (some (.int .i64 (m : Int))) none).run Try.prog W = .ok (.slice A0 (l.take m).length c0) W) ∧
    (∀ w : World, Kd.C (Kd.int .u8) w A0 l.length l → Kd.C (Kd.int .u8) w A0 (l.take m).length (l.take m)) ∧ (l.take m).length ≤ c0 := by
  obtain ⟨i0, hi, _, hsz, _⟩ := info_parts info5
  obtain ⟨h1, h2, h3⟩ := print_take_of (P := Try.prog) (Value.int .u8) 0 22 5 .i64 Try.underlying22 hi hsz A0 c0 l (m : Int) (by omega) (by omega) hc
  rw [Int.toNat_natCast] at h1 h2 h3
  exact ⟨h1, fun w hr => Kd.C_of_reads (h1 := fun _ => rfl) (h2 _ (Kd.reads_of_C hr)), h3⟩
theorem drop_any (A0 : Option Addr) (c0 : Nat) (l : List Int) (m : Nat) (hc : l.length ≤ c0) (hm : m ≤ l.length) :
    ∃ A1 : Option Addr, (∀ W : World, (Instr.slice 22 (.slice A0 l.length c0) (some (.int .i64 (m : Int))) none none).run Try.prog W = .ok (.slice A1 (l.drop m).length (c0 - m)) W) ∧
    (∀ w : World, Kd.C (Kd.int .u8) w A0 l.length l → Kd.C (Kd.int .u8) w A1 (l.drop m).length (l.drop m)) ∧ (l.drop m).length ≤ c0 - m := by
  obtain ⟨i0, hi, _, hsz, _⟩ := info_parts info5
  obtain ⟨A1, h1, h2, h3⟩ := print_drop_of (P := Try.prog) (Value.int .u8) 0 22 5 .i64 Try.underlying22 hi hsz A0 c0 l (m : Int) (by omega) (by omega) hc
  rw [Int.toNat_natCast] at h1 h2 h3
  exact ⟨A1, h1, fun w hr => Kd.C_of_reads (h1 := fun _ => rfl) (h2 _ (Kd.reads_of_C hr)), h3⟩
theorem mid_any (A0 : Option Addr) (c0 : Nat) (l : List Int) (a b : Nat) (hc : l.length ≤ c0) (hab : a ≤ b) (hb : b ≤ l.length) :
    ∃ A1 : Option Addr, (∀ W : World, (Instr.slice 22 (.slice A0 l.length c0) (some (.int .i64 (a : Int))) (some (.int .i64 (b : Int))) none).run Try.prog W = .ok (.slice A1 ((l.take b).drop a).length (c0 - a)) W) ∧
    (∀ w : World, Kd.C (Kd.int .u8) w A0 l.length l → Kd.C (Kd.int .u8) w A1 ((l.take b).drop a).length ((l.take b).drop a)) ∧ ((l.take b).drop a).length ≤ c0 - a := by
  obtain ⟨i0, hi, _, hsz, _⟩ := info_parts info5
  obtain ⟨A1, h1, h2, h3⟩ := print_mid_of (P := Try.prog) (Value.int .u8) 0 22 5 .i64 .i64 Try.underlying22 hi hsz A0 c0 l (a : Int) (b : Int) (by omega) (by omega) (by omega) hc
  simp only [Int.toNat_natCast] at h1 h2 h3
  exact ⟨A1, h1, fun w hr => Kd.C_of_reads (h1 := fun _ => rfl) (h2 _ (Kd.reads_of_C hr)), h3⟩
/-- min(len, n) as the walk has it. -/
theorem min_as (N : Int) (hN : 0 ≤ N) (m : Nat) : ∃ k : Nat, (if N < (m : Int) then N else (m : Int)) = (k : Int) ∧ k ≤ m ∧ (k : Int) ≤ N := by
  by_cases h : N < (m : Int)
  · exact ⟨N.toNat, by rw [if_pos h]; omega, by omega, by omega⟩
  · exact ⟨m, by rw [if_neg h], by omega, by omega⟩
/-- A number that is small enough for every sum here; behind a definition, for the walk. -/
def Sm (x : Int) : Prop := -1000000 ≤ x ∧ x ≤ 5000000000
theorem Sm.w {x : Int} (h : Sm x) : wrap64 x = x := w64 _ (by unfold Sm at h; omega) (by unfold Sm at h; omega)
theorem Sm.i {x : Int} (h : Sm x) : IntKind.i64.wrap x = x := (i64_w _).trans h.w
theorem Sm.val (l : List Int) : Sm (val l) := by unfold Sm WkM.val; omega
end Go.Proofs.Ytgoephcembgmcaa.Wk
