import Derived.Test.YtjdkeicjhmdcfaaSl4
set_option linter.unusedSimpArgs false
set_option linter.unusedVariables false
namespace Go.Proofs.Ytjdkeicjhmdcfaa.Sl
open Go.RowKit Go.Maps Go.Proofs.YtjdkeicjhmdcfaaW.PrintWords Go.Proofs.YtjdkeicjhmdcfaaW.PrintLast Go.Proofs.YtjdkeicjhmdcfaaW.PrintMore Go.Proofs.Ytjdkeicjhmdcfaa.Wk

/-- A module's box with nothing else in it. -/
def Box6 (w : World) (n : Nat) (m : ByteArray) (c : Int) : Prop := w.heap[n]? = some (.cells #[.string m, .string ⟨#[]⟩, .bool false, .int .i64 c, .int .i64 0, .slice none 0 0] 49 (0, 0))
theorem Box6.cells {w : World} {n : Nat} {m : ByteArray} {c : Int} (h : Box6 w n m c) :
    (w.cell? ⟨n, 0, none⟩ = some (.string m) ∧ w.cell? ⟨n, 1, none⟩ = some (.string ⟨#[]⟩) ∧ w.cell? ⟨n, 2, none⟩ = some (.bool false)) ∧
    (w.cell? ⟨n, 3, none⟩ = some (.int .i64 c) ∧ w.cell? ⟨n, 4, none⟩ = some (.int .i64 0) ∧ w.cell? ⟨n, 5, none⟩ = some (.slice none 0 0)) :=
  ⟨⟨(blk_cell h 0).trans rfl, (blk_cell h 1).trans rfl, (blk_cell h 2).trans rfl⟩, (blk_cell h 3).trans rfl, (blk_cell h 4).trans rfl, (blk_cell h 5).trans rfl⟩
set_option maxRecDepth 100000 in
set_option maxHeartbeats 4000000 in
theorem enters_any (w : World) : Calls Try.prog 24 #[] w fun e w' => e = .returned (.bool true) ∧ Below w.heap.size w w' := by
  have hu49 := Try.underlying49
  go_enter Try.func24, Try.ntmps24
  go_wp2_with fail
  refine (new_ok w).mono ?_
  rintro e w1 ⟨rfl, h1, hb1⟩
  have H1 := hide (h1.alloc (.cells #[.string ⟨#[97]⟩, .string ⟨#[]⟩, .bool false, .int .i64 1, .int .i64 0, .slice none 0 0] 49))
  have B1 := hide (below_alloc hb1 (.cells #[.string ⟨#[97]⟩, .string ⟨#[]⟩, .bool false, .int .i64 1, .int .i64 0, .slice none 0 0] 49))
  have X1 : Hid (Box6 (w1.alloc (.cells #[.string ⟨#[97]⟩, .string ⟨#[]⟩, .bool false, .int .i64 1, .int .i64 0, .slice none 0 0] 49)) w1.heap.size ⟨#[97]⟩ 1) := blk_new _ _
  have NE : Hid (w1.heap.size ≠ w.heap.size) := by show _ ≠ _; have := h1.lt; omega
  clear h1 hb1
  go_wp2_with fail
  refine (enter_ok (w.heap.size + 1) w.heap.size w.heap.size [] 1 ⟨#[97]⟩ _ _ _ _ 1 _ (unhide H1) (by decide) (by decide) (by decide) (Nat.le_refl _)).mono ?_
  rintro e w3 ⟨rfl, h1, hb1, hk1⟩
  rw [show eres [] 1 ⟨#[97]⟩ 1 = 0 from by decide]
  rw [show eput [] 1 ⟨#[97]⟩ 1 = [((1 : Int), (⟨#[97]⟩ : ByteArray))] from by decide] at h1
  have H2 := hide h1
  have B2 := hide ((unhide B1).trans hb1)
  have X2 : Hid (Box6 w3 w1.heap.size ⟨#[97]⟩ 1) := (hk1.2 w1.heap.size (blk_lt (unhide X1)) (unhide NE) (by simp)).trans (unhide X1)
  obtain ⟨⟨_, _, _⟩, _, _, _⟩ := (unhide X2).cells
  clear h1 hb1 hk1 X1 H1 B1
  go_wp2_with fail
  refine (enter_ok (w.heap.size + 1) w.heap.size w.heap.size [((1 : Int), (⟨#[97]⟩ : ByteArray))] 2 ⟨#[97]⟩ _ _ _ _ 1 _ (unhide H2) (by decide) (by decide) (by decide) (Nat.le_refl _)).mono ?_
  rintro e w4 ⟨rfl, h1, hb1, hk1⟩
  rw [show eres [((1 : Int), (⟨#[97]⟩ : ByteArray))] 2 ⟨#[97]⟩ 1 = 150 from by decide]
  rw [show eput [((1 : Int), (⟨#[97]⟩ : ByteArray))] 2 ⟨#[97]⟩ 1 = [((1 : Int), (⟨#[97]⟩ : ByteArray))] from by decide] at h1
  have H3 := hide h1
  have B3 := hide ((unhide B2).trans hb1)
  have X3 : Hid (Box6 w4 w1.heap.size ⟨#[97]⟩ 1) := (hk1.2 w1.heap.size (blk_lt (unhide X2)) (unhide NE) (by simp)).trans (unhide X2)
  obtain ⟨⟨_, _, _⟩, _, _, _⟩ := (unhide X3).cells
  clear h1 hb1 hk1 X2 H2 B2
  go_wp2_with fail
  refine (enter_ok (w.heap.size + 1) w.heap.size w.heap.size [((1 : Int), (⟨#[97]⟩ : ByteArray))] 1 ⟨#[97]⟩ _ _ _ _ 1 _ (unhide H3) (by decide) (by decide) (by decide) (Nat.le_refl _)).mono ?_
  rintro e w5 ⟨rfl, h1, hb1, hk1⟩
  rw [show eres [((1 : Int), (⟨#[97]⟩ : ByteArray))] 1 ⟨#[97]⟩ 1 = 5 from by decide]
  rw [show eput [((1 : Int), (⟨#[97]⟩ : ByteArray))] 1 ⟨#[97]⟩ 1 = [((1 : Int), (⟨#[97]⟩ : ByteArray))] from by decide] at h1
  have H4 := hide h1
  have B4 := hide ((unhide B3).trans hb1)
  have X4 : Hid (Box6 w5 w1.heap.size ⟨#[97]⟩ 1) := (hk1.2 w1.heap.size (blk_lt (unhide X3)) (unhide NE) (by simp)).trans (unhide X3)
  obtain ⟨⟨_, _, _⟩, _, _, _⟩ := (unhide X4).cells
  clear h1 hb1 hk1 X3 H3 B3
  go_wp2_with fail
  refine (count_ok (w.heap.size + 1) w.heap.size [((1 : Int), (⟨#[97]⟩ : ByteArray))] ⟨#[97]⟩ _ (unhide H4) (by decide)).mono ?_
  rintro e w6 ⟨rfl, hb1⟩
  rw [show cnt_ [((1 : Int), (⟨#[97]⟩ : ByteArray))] ⟨#[97]⟩ = 1 from by decide]
  have H5 := hide ((unhide H4).below hb1)
  have B5 := hide (below_step (unhide B4) hb1)
  clear hb1 H4 B4 X4
  go_wp2_with fail
  refine (leave_ok (w.heap.size + 1) w.heap.size w.heap.size [((1 : Int), (⟨#[97]⟩ : ByteArray))] 1 _ (unhide H5) (by decide) (Nat.le_refl _)).mono ?_
  rintro e w7 ⟨rfl, h1, hb1, hk1⟩
  rw [show lres [((1 : Int), (⟨#[97]⟩ : ByteArray))] 1 = 0 from by decide]
  rw [show out_ [((1 : Int), (⟨#[97]⟩ : ByteArray))] 1 = [] from by decide] at h1
  have H6 := hide h1
  have B6 := hide ((unhide B5).trans hb1)
  clear h1 hb1 hk1 H5 B5
  go_wp2_with fail
  refine (leave_ok (w.heap.size + 1) w.heap.size w.heap.size [] 1 _ (unhide H6) (by decide) (Nat.le_refl _)).mono ?_
  rintro e w8 ⟨rfl, h1, hb1, hk1⟩
  rw [show lres [] 1 = 4 from by decide]
  rw [show out_ [] 1 = [] from by decide] at h1
  have H7 := hide h1
  have B7 := hide ((unhide B6).trans hb1)
  clear h1 hb1 hk1 H6 B6
  go_wp2_with fail
  refine (len_ok (w.heap.size + 1) w.heap.size [] _ (unhide H7)).mono ?_
  rintro e w' ⟨rfl, rfl⟩
  go_wp2
  go_ret
  exact ⟨rfl, unhide B7⟩
end Go.Proofs.Ytjdkeicjhmdcfaa.Sl
