import Derived.Test.YtgoephcembgmcaaWk1
import Derived.Test.YtgoephcembgmcaaWGuard
import Derived.Lib.SlBytesConst
set_option linter.unusedSimpArgs false
set_option linter.unusedVariables false
namespace Go.Proofs.Ytgoephcembgmcaa.Wk
open Go.RowKit Go.Proofs.YtgoephcembgmcaaW.PrintWords Go.Proofs.YtgoephcembgmcaaW.PrintLast Go.Proofs.YtgoephcembgmcaaW.PrintMore Go.Proofs.Ytgoephcembgmcaa.WkM

theorem bytesOf_bytes (s : ByteArray) : Bytes (bytesOf s) := by
  intro x hx
  unfold bytesOf at hx
  obtain ⟨b, _, rfl⟩ := List.mem_map.1 hx
  have := b.toNat_lt
  omega
theorem bytesOf_str {l : List Int} (h : Bytes l) : bytesOf (strOfNums l) = l := by
  unfold bytesOf strOfNums
  simp only [List.map_map]
  conv => rhs; rw [← List.map_id l]
  apply List.map_congr_left
  intro x hx
  have := h x hx
  simp
  omega

theorem eqA53 (d : Nat) (w : World) (x0 y0 : Int) (x1 y1 : Int) (x2 y2 : Int) :
    (Op.equalIn (d + 2) 29 (.agg #[.int .u32 x0, .int .u32 x1, .int .u32 x2]) (.agg #[.int .u32 y0, .int .u32 y1, .int .u32 y2])).run Try.prog w = .ok (x0 == y0 && (x1 == y1 && (x2 == y2))) w := by
  refine eqA_of Try.underlying29 (by kernel_rfl) ?_
  refine eqf_cons (by rfl) (by go_simp; rfl) (by go_simp; rfl) (by go_simp) ?_
  refine eqf_cons (by rfl) (by go_simp; rfl) (by go_simp; rfl) (by go_simp) ?_
  exact eqf_last (by rfl) (by go_simp; rfl) (by go_simp; rfl) (by go_simp)
/-- Two equal sums are equal. -/
theorem eq53 (w : World) (x0 x1 x2 : Int) : (binOp .eql 29 (.agg #[.int .u32 x0, .int .u32 x1, .int .u32 x2]) (.agg #[.int .u32 x0, .int .u32 x1, .int .u32 x2])).run Try.prog w = .ok (.bool true) w := by
  simp only [binOp]
  simp [Op.equal, Op.maxDepth, eqA53 9998 w]

/-- A row of three bytes that the call makes. -/
theorem row3 (W : World) (x y z : Int) : Kd.C (Kd.int .u8) (W.alloc (.cells #[.int .u8 x, .int .u8 y, .int .u8 z] 5 (3, 4))) (some ⟨W.heap.size, 0, none⟩) ([x, y, z] : List Int).length [x, y, z] := by
  refine Kd.C_of_reads (enc := Value.int .u8) (d := (0 : Int)) (h1 := fun _ => rfl) ⟨rfl, by simp, fun _ => ⟨_, rfl, fun j hj => ?_⟩⟩
  have h := blk_new W (.cells #[.int .u8 x, .int .u8 y, .int .u8 z] 5 (3, 4))
  match j, hj with
  | 0, _ => exact (cell_of_row _ _ 0 _ 5 (3, 4) h).trans rfl
  | 1, _ => exact (cell_of_row _ _ 1 _ 5 (3, 4) h).trans rfl
  | 2, _ => exact (cell_of_row _ _ 2 _ 5 (3, 4) h).trans rfl

end Go.Proofs.Ytgoephcembgmcaa.Wk
