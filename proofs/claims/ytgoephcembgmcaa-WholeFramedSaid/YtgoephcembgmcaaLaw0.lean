import Derived.Test.YtgoephcembgmcaaSh7
import Derived.ChangeKeysEq
set_option linter.unusedSimpArgs false
set_option linter.unusedVariables false
namespace Go.Proofs.Ytgoephcembgmcaa.Law
open Go.RowKit Go.Proofs.YtgoephcembgmcaaW.PrintWords Go.Proofs.YtgoephcembgmcaaW.PrintLast Go.Proofs.YtgoephcembgmcaaW.PrintMore Go.Proofs.Ytgoephcembgmcaa.Wk Go.Proofs.Ytgoephcembgmcaa.Fr Go.Proofs.Ytgoephcembgmcaa.Sh
/-! Sums compared, sums loaded. -/
theorem part5 (xs : List Int) (W : World) (i : Nat) (hi : i < xs.length) : (part 5 (bys xs) i).run Try.prog W = .ok (.int .u8 (rd xs (i : Int))) W := by
  have ha : (isAgg 5).run Try.prog W = .ok false W := by
    have h5 := Try.underlying5
    unfold isAgg
    rw [Sem.run_bind, run_underlying h5 W]
    rfl
  simp [part, ha, bys_get xs i hi]
theorem eqItems_same (xs : List Int) (W : World) (d : Nat) : ∀ is : List Nat, (∀ i ∈ is, i < xs.length) → (Op.eqItems (d + 1) 5 1 (bys xs) (bys xs) is).run Try.prog W = .ok true W
  | [], _ => by simp [Op.eqItems]
  | i :: is, h => by
    have h5 := Try.underlying5
    have he : (Op.equalIn (d + 1) 5 (.int .u8 (rd xs (i : Int))) (.int .u8 (rd xs (i : Int)))).run Try.prog W = .ok true W := by
      simp [Op.equalIn, run_underlying h5]
    simp only [Op.eqItems, Sem.run_bind, Nat.mul_one, part5 xs W i (h i (by simp)), Result.andThen_ok, he, Bool.not_true, Bool.false_eq_true, if_false]
    exact eqItems_same xs W d is (fun j hj => h j (by simp [hj]))
theorem cells5 : Try.prog.cellsOf 5 = 1 := by kernel_rfl
theorem equal25 (xs : List Int) (hx : xs.length = 32) (W : World) (d : Nat) : (Op.equalIn (d + 2) 25 (.agg (bys xs)) (.agg (bys xs))).run Try.prog W = .ok true W := by
  obtain ⟨i0, hi, _⟩ := info_parts info5
  rw [run_equalIn_array (P := Try.prog) W (d + 1) (bys xs) (bys xs) Try.underlying25 hi, cells5]
  exact eqItems_same xs W d (List.range 32) (fun i hi => by have := List.mem_range.1 hi; omega)
theorem neq25 (xs : List Int) (hx : xs.length = 32) (W : World) : (binOp .neq 25 (.agg (bys xs)) (.agg (bys xs))).run Try.prog W = .ok (.bool false) W := by
  simp only [binOp]
  simp [Op.equal, Op.maxDepth, equal25 xs hx W 9998]
theorem load25 {W : World} {g : Nat} {xs : List Int} (h : Bs W g 25 xs) (hx : xs.length = 32) : (Instr.loadAt 25 (.pointer (some ⟨g, 0, none⟩))).run Try.prog W = .ok (.agg (bys xs)) W := by
  have h1 := run_loadVar_row (P := Try.prog) W g 25 25 (bys xs) (0, 0) _ h Try.underlying25 rfl (by rw [bys_size, hx]; exact size25)
  simp only [Instr.loadAt, Instr.sureAddr, Sem.run_bind, Sem.run_pure, Result.andThen_ok, h1]
theorem exec_load25 {o : Oper} {a : Act} {W : World} {g : Nat} {xs : List Int} (x : Operand) (ho : o.op = .load 25 x) (hx : a.eval x = .pointer (some ⟨g, 0, none⟩)) (h : Bs W g 25 xs) (hl : xs.length = 32) : (execOp a.eval o).run Try.prog W = .ok (.value (.agg (bys xs))) W := by
  unfold execOp
  simp only [ho, hx, Sem.run_bind, load25 h hl, Result.andThen_ok, Sem.run_pure]
end Go.Proofs.Ytgoephcembgmcaa.Law
