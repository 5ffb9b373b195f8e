import Derived.Test.YtgoephcembgmcaaFr1
set_option linter.unusedSimpArgs false
set_option linter.unusedVariables false
namespace Go.Proofs.Ytgoephcembgmcaa.Fr
open Go.RowKit Go.Proofs.YtgoephcembgmcaaW.PrintWords Go.Proofs.YtgoephcembgmcaaW.PrintLast Go.Proofs.YtgoephcembgmcaaW.PrintMore Go.Proofs.Ytgoephcembgmcaa.Wk Go.Proofs.Ytgoephcembgmcaa.FrM
attribute [local go_sem] max2_int min2_int max_two min_two

set_option maxRecDepth 100000 in
theorem text_ok (base : Nat) (v : Value) (xs : List Int) (A : Option Addr) (c : Nat) (ys : List Int) (w : World) (ho : Own w base v xs) (hr : ∀ w', Below base w w' → Kd.C (Kd.int .u8) w' A ys.length ys) (hbase : base ≤ w.heap.size) (hc : ys.length ≤ c) (hl : ys.length ≤ 4096) (hx : xs.length ≤ 90000) :
    Calls Try.prog 8 #[v, .slice A ys.length c] w fun e w' => ∃ A' c', e = .returned (.slice A' (xs ++ vnum ys.length ++ ys).length c') ∧ Own w' base (.slice A' (xs ++ vnum ys.length ++ ys).length c') (xs ++ vnum ys.length ++ ys) ∧ Below base w w' ∧ Grew w w' v (.slice A' (xs ++ vnum ys.length ++ ys).length c') := by
  obtain ⟨k1, _, _⟩ := take_any A c ys ys.length hc (Nat.le_refl _)
  rw [List.take_length] at k1
  have d1 : ¬ (4096 : Int) < (ys.length : Int) := by omega
  obtain ⟨A0, c0, rfl⟩ := Kd.R_slice ho
  have HO := hide ho
  have HR := hide hr
  have hvl := vnum_len 5 ys.length (by omega)
  have HVL := hide hvl
  clear ho hr hvl
  go_enter Try.func8, Try.ntmps8
  go_wp2_with fail
  refine (num_ok base (.slice A0 xs.length c0) xs ys.length w (unhide HO) hbase (by omega) (by omega)).mono ?_
  rintro e w1 ⟨A1, c1, rfl, hO1, hB1, hG1⟩
  have HC1 := hide (unhide HR w1 hB1)
  have hlz : (xs ++ vnum ys.length).length ≤ 90006 := by rw [List.length_append]; have := unhide HVL; omega
  obtain ⟨zs, hz⟩ : ∃ zs, xs ++ vnum ys.length = zs := ⟨_, rfl⟩
  rw [hz] at hO1 hlz hG1 ⊢
  have HZ := hide hz
  clear hz
  have HO1 := hide hO1
  have HB1 := hide hB1
  have HG1 := hide hG1
  clear hO1 hB1 hG1 k1
  go_wp2_with (at_builtin; refine unhide ?_)
  refine hide ?_
  refine Kd.R_append_row (w0 := w) (Value.int .u8) (0 : Int) base rfl (.tmp 13) (.tmp 14) 22 5 (.int .u8 0) 1 rfl Try.underlying22 info5 rfl (by decide) (.slice A1 zs.length c1) zs ys A _ c (fun _ => True) rfl rfl (fun _ _ => trivial) (unhide HO1) (unhide HC1) (unhide HB1) (Nat.le_trans hbase (unhide HB1).size) (by omega) ?_
  intro v2 w2 hR2 hB2 hg2 hat2
  obtain ⟨A2, c2, rfl⟩ := Kd.R_slice hR2
  have hlen : (zs ++ ys).length = zs.length + ys.length := List.length_append
  have HR2 := hide hR2
  have HB2 := hide hB2
  have HG2 := hide ((unhide HG1).trans (Grew.of hg2 hat2))
  have HLEN := hide hlen
  clear hR2 hB2 hg2 hat2 hlen
  go_wp2
  go_ret
  rw [unhide HZ]
  exact ⟨A2, c2, by rw [unhide HLEN]; rfl, unhide HR2, unhide HB2, unhide HG2⟩

theorem and_31 : ∀ a : Nat, a < 32 → bits .and .u64 (a : Int) 31 = (a : Int) := by decide +kernel
/-- A number that is turned to the left. -/
def rot (x : Int) (k : Nat) : Int := bits .or .u32 (x * 2 ^ k % 4294967296) (x / 2 ^ (32 - k))
theorem rot_any (x : Int) (k : Nat) (w : World) (hk : 0 < k ∧ k < 32) (hx : 0 ≤ x ∧ x < 4294967296) :
    Calls Try.prog 27 #[.int .u32 x, .int .i64 (k : Int)] w fun e w' => e = .returned (.int .u32 (rot x k)) ∧ w = w' := by
  have e1 := and_31 k hk.2
  have e2 : (k : Int) < 32 := by omega
  have e3 : (0 : Int) < (k : Int) := by omega
  unfold rot
  go_enter Try.func27, Try.ntmps27
  go_wp2
  go_ret
  exact ⟨rfl, rfl⟩

/-- A reader lies in block g: its bytes, where it is; nothing has gone wrong. -/
def Rdr (w : World) (g : Nat) (v : Value) (at_ : Int) : Prop := w.heap[g]? = some (.cells #[v, .int .i64 at_, .nilIface] 69 (0, 0))
theorem Rdr.cells {w : World} {g : Nat} {v : Value} {k : Int} (h : Rdr w g v k) :
    (w.cell? ⟨g, 0, none⟩ = some v ∧ w.cell? ⟨g, 1, none⟩ = some (.int .i64 k) ∧ w.cell? ⟨g, 2, none⟩ = some .nilIface) ∧ w.frozen? ⟨g, 1, none⟩ = false ∧ g < w.heap.size :=
  ⟨⟨(blk_cell h 0).trans rfl, (blk_cell h 1).trans rfl, (blk_cell h 2).trans rfl⟩, blk_frozen h 1, blk_lt h⟩
theorem read_any (A : Option Addr) (n c : Nat) (w : World) : Calls Try.prog 12 #[.slice A n c] w fun e w' => e = .returned (.pointer (some ⟨w.heap.size, 0, none⟩)) ∧ Rdr w' w.heap.size (.slice A n c) 0 ∧ Below w.heap.size w w' := by
  go_enter Try.func12, Try.ntmps12
  go_wp2
  go_ret
  exact ⟨rfl, blk_new _ _, below_alloc (Below.refl _ _) _⟩
theorem err_ok (g : Nat) (v : Value) (k : Int) (w : World) (h : Rdr w g v k) : Calls Try.prog 28 #[.pointer (some ⟨g, 0, none⟩)] w fun e w' => e = .returned .nilIface ∧ w = w' := by
  have hu := Try.underlying69
  obtain ⟨⟨_, _, _⟩, _, _⟩ := h.cells
  clear h
  go_enter Try.func28, Try.ntmps28
  go_wp2
  go_ret
  exact ⟨rfl, rfl⟩
theorem at_ok (g : Nat) (v : Value) (k : Int) (w : World) (h : Rdr w g v k) : Calls Try.prog 29 #[.pointer (some ⟨g, 0, none⟩)] w fun e w' => e = .returned (.int .i64 k) ∧ w = w' := by
  have hu := Try.underlying69
  obtain ⟨⟨_, _, _⟩, _, _⟩ := h.cells
  clear h
  go_enter Try.func29, Try.ntmps29
  go_wp2
  go_ret
  exact ⟨rfl, rfl⟩
theorem check_ok (k s : Int) (A : Option Addr) (n c : Nat) (w : World) (hk : 1 ≤ k ∧ k ≤ 31) (hs : 0 ≤ s ∧ s ≤ 7) (hn : n ≤ 16384) :
    Calls Try.prog 22 #[.agg #[.int .i64 k, .int .i64 s, .slice A n c]] w fun e w' => e = .returned (.int .i64 0) ∧ Below w.heap.size w w' := by
  have hu := Try.underlying37
  have d1 : ¬ k < 1 := by omega
  have d2 : ¬ 31 < k := by omega
  have d3 : ¬ s < 0 := by omega
  have d4 : ¬ 7 < s := by omega
  have d5 : ¬ 16384 < (n : Int) := by omega
  clear hk hs hn
  go_enter Try.func22, Try.ntmps22
  go_wp2
  go_ret
  exact ⟨rfl, below_alloc (Below.refl _ _) _⟩
end Go.Proofs.Ytgoephcembgmcaa.Fr
