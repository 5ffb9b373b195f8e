import Derived.Test.YtgoephcembgmcaaWk3
set_option linter.unusedSimpArgs false
set_option linter.unusedVariables false
namespace Go.Proofs.Ytgoephcembgmcaa.Wk
open Go.RowKit Go.Proofs.YtgoephcembgmcaaW.PrintWords Go.Proofs.YtgoephcembgmcaaW.PrintLast Go.Proofs.YtgoephcembgmcaaW.PrintMore Go.Proofs.Ytgoephcembgmcaa.WkM

/-! Rows of bytes that the call owns. -/
abbrev Own (w : World) (base : Nat) (v : Value) (xs : List Int) : Prop := (Kd.int .u8).R 5 w base (fun _ => True) v xs
theorem own_empty (W : World) (base : Nat) (h : base ≤ W.heap.size) : Own (W.alloc (.cells #[] 5)) base (.slice (some ⟨W.heap.size, 0, none⟩) 0 0) [] := by
  have h2 := World.ownsRow_lit (base := base) (e := 5) (size := 1) W #[] 0 h (by simp [maxLen]) (by simp)
  exact Kd.R_of_own (enc := Value.int .u8) (xs := ([] : List Int)) (by simpa [encs] using h2) (fun k hk => trivial)
theorem Box.grown {wr w1 : World} {g : Nat} {s : Int × Int × Int} {row : Option Nat} (h : Box wr g s) (hg : wr.grownBy w1 row) (hne : some g ≠ row) : Box w1 g s := blk_grown h hg hne
theorem Box.alloc {wr : World} {g : Nat} {s : Int × Int × Int} (h : Box wr g s) (o : Obj) : Box (wr.alloc o) g s := blk_alloc h o
theorem Box.ne_ {wr : World} {g base : Nat} {s : Int × Int × Int} {v : Value} {xs : List Int} (h : Box wr g s) (ho : Own wr base v xs) : some g ≠ v.ownBlock := Kd.R_ne ho h (by decide)
theorem make_any (n : Nat) (h : n ≤ 200000) : ∀ W : World, (Instr.makeSlice 22 (.int .i64 (n : Int)) (.int .i64 (n : Int))).run Try.prog W = .ok (.slice (some ⟨W.heap.size, 0, none⟩) n n) (W.alloc (.cells (madeCells #[.int .u8 0] n) 5)) :=
  print_make_of (P := Try.prog) 22 5 (.int .u8 0) 1 Try.underlying22 info5 rfl (by decide) n (by omega)
theorem own_made (W : World) (base n : Nat) (hb : base ≤ W.heap.size) (h : n ≤ 200000) : Own (W.alloc (.cells (madeCells #[.int .u8 0] n) 5)) base (.slice (some ⟨W.heap.size, 0, none⟩) n n) (List.replicate n 0) := by
  have h2 := own_made_of (enc := Value.int .u8) (d := (0 : Int)) W base 5 n hb (by omega)
  exact Kd.R_of_own (enc := Value.int .u8) (by simpa using h2) (fun k hk => trivial)
/-- A cell of a row of the call's own, and a byte put there. -/
theorem own_cell {W : World} {base g n cap i : Nat} {xs : List Int} (h : Own W base (.slice (some ⟨g, 0, none⟩) n cap) xs) (hi : i < n) :
    W.cell? ⟨g, i, none⟩ = some (.int .u8 (rd xs (i : Int))) ∧ W.frozen? ⟨g, i, none⟩ = false := by
  have h2 := Kd.R_celln (enc := Value.int .u8) (0 : Int) h (i : Int) (by omega) (by omega)
  simpa [rdOf, Go.Proofs.YtgoephcembgmcaaW.PrintWords.rd] using h2
theorem own_put {W : World} {base g n cap : Nat} {xs : List Int} (h : Own W base (.slice (some ⟨g, 0, none⟩) n cap) xs) (i : Nat) (x : Int) :
    Own (W.setCell ⟨g, i, none⟩ (.int .u8 x)) base (.slice (some ⟨g, 0, none⟩) n cap) (xs.set i x) := by
  have h2 := Kd.R_putn (enc := Value.int .u8) h (i : Int) x
  rw [Int.toNat_natCast] at h2
  exact h2
theorem own_reads {W : World} {base n cap : Nat} {A : Option Addr} {xs : List Int} (h : Own W base (.slice A n cap) xs) : n = xs.length ∧ n ≤ cap ∧ Kd.C (Kd.int .u8) W A xs.length xs := Kd.R_reads' h
end Go.Proofs.Ytgoephcembgmcaa.Wk
