import Derived.Test.YtgoephcembgmcaaRd1
import Derived.Test.YtgoephcembgmcaaSh7
set_option linter.unusedSimpArgs false
set_option linter.unusedVariables false
namespace Go.Proofs.Ytgoephcembgmcaa.Fr
open Go.RowKit Go.Proofs.YtgoephcembgmcaaW.PrintWords Go.Proofs.YtgoephcembgmcaaW.PrintLast Go.Proofs.YtgoephcembgmcaaW.PrintMore Go.Proofs.Ytgoephcembgmcaa.Wk Go.Proofs.Ytgoephcembgmcaa.FrM
open Go.Proofs.Ytgoephcembgmcaa.Sh (Bs bys bys_size bys_one size5 size25)
open Go.Proofs.Ytgoephcembgmcaa.WkM (w64)
/-- The first 32 bytes of a row into an array. -/
theorem copy_in (W : World) (g t : Nat) (xs L : List Int) (ad : Addr) (n c : Nat) (h : Bs W g t xs) (hx : xs.length = 32) (hC : Kd.C (Kd.int .u8) W (some ad) n L) (hn : 32 ≤ n) :
    (Builtin.copy_ #[22, 22] 3 #[.slice (some ⟨g, 0, none⟩) 32 32, .slice (some ad) n c]).run Try.prog W = .ok (.int .i64 32) (W.setRow g (bys (L.take 32))) := by
  have hl : (L.take 32).length = 32 := by rw [List.length_take, hC.1]; omega
  have h1 := run_copy_row Try.prog W 22 22 3 5 g 0 32 32 ad n c (bys xs) t ((L.take 32).map (Value.int .u8)) Try.underlying22 size5 h (by rw [List.length_map, hl]; exact (Nat.min_eq_right hn).symm) (fun j v hj => by
    have hj2 : j < 32 := by
      have := (List.getElem?_eq_some_iff.1 hj).1
      rwa [List.length_map, hl] at this
    obtain ⟨ad', ha, hc⟩ := Kd.at_int hC (j : Int) (by omega) (by omega)
    cases ha
    rw [Int.toNat_natCast] at hc
    rw [hc]
    rw [List.getElem?_map, List.getElem?_take, if_pos hj2, List.getElem?_eq_getElem (by rw [hC.1]; omega)] at hj
    rw [← hj]
    unfold rd
    rw [Int.toNat_natCast, List.getD_eq_getElem?_getD, List.getElem?_eq_getElem (by rw [hC.1]; omega)]
    rfl) (by rw [List.length_map, hl, bys_size]; omega) (fun v hv => by
      obtain ⟨x, _, rfl⟩ := List.mem_map.1 hv
      rfl)
  rw [List.length_map, hl] at h1
  have e : ((bys xs).toList.take 0 ++ (L.take 32).map (Value.int .u8) ++ (bys xs).toList.drop (0 + 32)).toArray = bys (L.take 32) := by
    have hl : (bys xs).toList.length ≤ 0 + 32 := by rw [Array.length_toList, bys_size]; omega
    rw [List.drop_of_length_le hl, List.take_zero, List.nil_append, List.append_nil]
    rfl
  rw [e] at h1
  exact h1
theorem Rdr.far {w : World} {g : Nat} {v : Value} {k : Int} (h : Rdr w g v k) {p : Nat} (hp : p ≠ g) (cs : Array Value) : Rdr (w.setRow p cs) g v k := (setRow_other w p g cs (Ne.symm hp)).trans h
theorem KeepBut.row {w w1 : World} {g p : Nat} {row : Option Nat} (h : KeepBut w w1 g row) (hp : w.heap.size ≤ p) (cs : Array Value) : KeepBut w (w1.setRow p cs) g row :=
  ⟨by rw [size_setRow]; exact h.1, fun i hi hg hr => (setRow_other w1 p i cs (by omega)).trans (h.2 i hi hg hr)⟩
def T15_2 : Bool × List (List Nat × List Nat) := (true, [([], []), ([0], [0]), ([1], [1]), ([2], [2]), ([3], [3]), ([4], [4]), ([5], [5]), ([6, 5], [5, 6]), ([7, 5], [5, 7]), ([8, 5], [5, 8]), ([9, 5], [5, 9]), ([5], [5]), ([11, 5], [5, 11]), ([12, 5], [5, 12]), ([13, 5], [5, 13]), ([10, 14, 5], [5, 10, 14]), ([15, 5], [5, 15]), ([5, 16], [5, 16])])
def BT15_2 : List Nat := [0, 1, 3, 7, 15, 31, 63, 127, 255, 511, 1023, 63, 2111, 6207, 14399, 32767, 65535, 131071]
theorem tabT15_2 : rtab .any (opsOf Try.f15 2) = T15_2 := by kernel_rfl
theorem bitsT15_2 : waitsOk T15_2.2 BT15_2 = true := by kernel_rfl
def T15_6 : Bool × List (List Nat × List Nat) := (true, [([], []), ([0], [0]), ([1], [1]), ([2], [2]), ([], []), ([], []), ([5], [5]), ([6], [6]), ([7], [7]), ([], []), ([9], [9]), ([10], [10]), ([11], [11]), ([8, 12], [8, 12]), ([4, 13], [4, 13]), ([3, 14], [3, 14]), ([0, 0, 1, 2, 3, 4, 5, 6, 7, 8, 9, 10, 11, 12, 13, 14, 15], [0]), ([16, 0, 1, 2, 3, 4, 5, 6, 7, 8, 9, 10, 11, 12, 13, 14, 15], [16]), ([17, 15, 14, 0, 1, 2, 3, 4, 5, 6, 7, 8, 9, 10, 11, 12, 13, 14, 15], [15, 17])])
def BT15_6 : List Nat := [0, 1, 3, 7, 0, 0, 32, 96, 224, 0, 512, 1536, 3584, 8160, 16368, 32767, 65535, 131071, 262143]
theorem tabT15_6 : rtab .any (opsOf Try.f15 6) = T15_6 := by kernel_rfl
theorem bitsT15_6 : waitsOk T15_6.2 BT15_6 = true := by kernel_rfl

set_option maxHeartbeats 2000000 in
set_option maxRecDepth 100000 in
theorem sum_rd (g base : Nat) (ad : Addr) (n c k : Nat) (L sm rest : List Int) (w : World) (h : Rdr w g (.slice (some ad) n c) (k : Int)) (hC : Kd.C (Kd.int .u8) w (some ad) n L) (hL : L.drop k = sm ++ rest) (hs : sm.length = 32) (hn : n ≤ 1000000) (hnc : n ≤ c) (hne : ad.block ≠ g) (hb : base ≤ g) (hk : k ≤ n) :
    Calls Try.prog 15 #[.pointer (some ⟨g, 0, none⟩)] w fun e w' => e = .returned (.agg (bys sm)) ∧ Rdr w' g (.slice (some ad) n c) ((k + 32 : Nat) : Int) ∧ Below base w w' ∧ KeepBut w w' g none := by
  have hu := Try.underlying69
  have hLn : L.length = n := hC.1
  have hlen : L.length - k = 32 + rest.length := by rw [← List.length_drop, hL, List.length_append, hs]
  obtain ⟨nk, hnk⟩ : ∃ q, q = n - k := ⟨_, rfl⟩
  have E3 : Hid (wrap64 ((n : Int) - (k : Int)) = (nk : Int)) := by show _ = _; rw [w64 _ (by omega) (by omega)]; omega
  have D3 : Hid (¬ (nk : Int) < 32) := by show ¬ _; omega
  have D5 : Hid (32 ≤ nk) := by show _ ≤ _; omega
  obtain ⟨k2, hk2⟩ : ∃ q, q = k + 32 := ⟨_, rfl⟩
  have E1 : Hid (wrap64 ((k : Int) + 32) = (k2 : Int)) := by show _ = _; rw [w64 _ (by omega) (by omega)]; omega
  rw [← hk2]
  obtain ⟨A9, hcut, hcr, hcl⟩ := drop_any (some ad) c L k (by omega) (by omega)
  obtain ⟨M, hM⟩ : ∃ M, M = L.drop k := ⟨_, rfl⟩
  have hMn : M.length = nk := by rw [hM, List.length_drop]; omega
  have hMt : M.take 32 = sm := by rw [hM, hL, ← hs, List.take_left]
  rw [← hM, hLn, hMn] at hcut hcr
  obtain ⟨ad9, rfl⟩ : ∃ a, A9 = some a := by
    obtain ⟨a, ha, _⟩ := Kd.at_int (hcr w hC) 0 (by omega) (by omega)
    exact ⟨a, ha⟩
  have HCUT := hide hcut
  have HCR := hide hcr
  have HMT := hide hMt
  have NG : Hid (g < w.heap.size) := h.cells.2.2
  have R0 : Hid (Rdr ((w.alloc (.cells (bys (List.replicate 32 0)) 25)).alloc (.cells (bys (List.replicate 32 0)) 25)) g (.slice (some ad) n c) (k : Int)) := (h.alloc _).alloc _
  have C0 : Hid (Kd.C (Kd.int .u8) ((w.alloc (.cells (bys (List.replicate 32 0)) 25)).alloc (.cells (bys (List.replicate 32 0)) 25)) (some ad) n L) := Kd.C_alloc (Kd.C_alloc hC _) _
  have B0 : Hid (Below base w ((w.alloc (.cells (bys (List.replicate 32 0)) 25)).alloc (.cells (bys (List.replicate 32 0)) 25))) := ((below_alloc (below_alloc (Below.refl w.heap.size w) _) _)).mono (Nat.le_trans hb (Nat.le_of_lt h.cells.2.2))
  have K0 : Hid (KeepBut w ((w.alloc (.cells (bys (List.replicate 32 0)) 25)).alloc (.cells (bys (List.replicate 32 0)) 25)) g none) := KeepBut.of_below (below_alloc (below_alloc (Below.refl w.heap.size w) _) _) g none
  have X0 : Hid (Bs ((w.alloc (.cells (bys (List.replicate 32 0)) 25)).alloc (.cells (bys (List.replicate 32 0)) 25)) w.heap.size 25 (List.replicate 32 0)) := blk_alloc (blk_new _ _) _
  have X1 : Hid (Bs ((w.alloc (.cells (bys (List.replicate 32 0)) 25)).alloc (.cells (bys (List.replicate 32 0)) 25)) (w.heap.size + 1) 25 (List.replicate 32 0)) := heap_alloc2_new w _ _
  have SZ : Hid ((Try.prog.info? 25).map (·.size) = some (bys sm).size) := by show _ = _; rw [bys_size, hs]; exact size25
  have HS := hide hs
  clear h hC hL hlen hLn hnk hcut hcr hcl hM hMn hMt hk2 hs
  go_enter Try.func15, Try.ntmps15
  go_wp2
  show Code.wp _ _ _ _ ((w.alloc (.cells (bys (List.replicate 32 0)) 25)).alloc (.cells (bys (List.replicate 32 0)) 25))
  obtain ⟨g1, hg1⟩ : ∃ q, q = w.heap.size + 1 := ⟨_, rfl⟩
  rw [← hg1] at X1 ⊢
  have HG1 := hide hg1
  clear hg1
  generalize (w.alloc (.cells (bys (List.replicate 32 0)) 25)).alloc (.cells (bys (List.replicate 32 0)) 25) = w1 at R0 C0 B0 K0 X0 X1 ⊢
  have e3 := unhide E3
  have d3 := unhide D3
  refine start_ (n := 18) (S := fun w' => Rdr w' g (.slice (some ad) n c) (k : Int)) (ds := []) #[false, false, false, false, false, false, false, false, false, false, false, false, false, false, false, false, false, false] (by kernel_rfl) rfl rfl (unhide R0) (fun hHeld => ?_)
  refine with_tabW tabT15_2 bitsT15_2 (fun HT_ HW_ => ?_)
  refine pure_ (i := 0) (N := some 4) (v := ?_) (a' := ?_) #[true, false, false, false, false, false, false, false, false, false, false, false, false, false, false, false, false, false] rfl rfl (any_of HT_.out (by kernel_rfl)) (fun _ _ _ h => h) (Or.inl ⟨by rfl, ?_⟩) ?_ ?_
  rotate_left
  · intro w'
    go_simp
    with_reducible rfl
  rotate_left
  · simp only [Act.put, List.setIfInBounds_toArray, List.set_cons_zero, List.set_cons_succ, i64_w, i32_w]
    rfl
  refine pure_ (i := 1) (N := some 5) (v := ?_) (a' := ?_) #[true, true, false, false, false, false, false, false, false, false, false, false, false, false, false, false, false, false] rfl rfl (any_of HT_.out (by kernel_rfl)) (fun _ _ _ h => h) (Or.inl ⟨by rfl, ?_⟩) ?_ ?_
  rotate_left
  · intro w'
    go_simp
    with_reducible rfl
  rotate_left
  · simp only [Act.put, List.setIfInBounds_toArray, List.set_cons_zero, List.set_cons_succ, i64_w, i32_w]
    rfl
  refine pure_ (i := 2) (N := some 6) (v := ?_) (a' := ?_) #[true, true, true, false, false, false, false, false, false, false, false, false, false, false, false, false, false, false] rfl rfl (any_of HT_.out (by kernel_rfl)) (fun _ _ _ h => h) (Or.inl ⟨by rfl, ?_⟩) ?_ ?_
  rotate_left
  · intro w'
    go_simp
    with_reducible rfl
  rotate_left
  · simp only [Act.put, List.setIfInBounds_toArray, List.set_cons_zero, List.set_cons_succ, i64_w, i32_w]
    rfl
  refine take_ (i := 3) (N := some 7) (v := ?_) (a' := ?_) #[true, true, true, true, false, false, false, false, false, false, false, false, false, false, false, false, false, false] rfl rfl (take_ofW HT_.out HW_.out (by kernel_rfl)) (fun _ _ _ h => h) (Or.inl ⟨by rfl, ?_⟩) hHeld ?_ ?_
  rotate_left
  · rintro w' h1_
    obtain ⟨⟨_, _, _⟩, _, _⟩ := h1_.cells
    go_simp
    with_reducible rfl
  rotate_left
  · simp only [Act.put, List.setIfInBounds_toArray, List.set_cons_zero, List.set_cons_succ, i64_w, i32_w]
    rfl
  refine pure_ (i := 4) (N := some 8) (v := ?_) (a' := ?_) #[true, true, true, true, true, false, false, false, false, false, false, false, false, false, false, false, false, false] rfl rfl (any_of HT_.out (by kernel_rfl)) (fun _ _ _ h => h) (Or.inl ⟨by rfl, ?_⟩) ?_ ?_
  rotate_left
  · intro w'
    go_simp
    with_reducible rfl
  rotate_left
  · simp only [Act.put, List.setIfInBounds_toArray, List.set_cons_zero, List.set_cons_succ, i64_w, i32_w]
    rfl
  refine pure_ (i := 5) (N := some 9) (v := ?_) (a' := ?_) #[true, true, true, true, true, true, false, false, false, false, false, false, false, false, false, false, false, false] rfl rfl (any_of HT_.out (by kernel_rfl)) (fun _ _ _ h => h) (Or.inl ⟨by rfl, ?_⟩) ?_ ?_
  rotate_left
  · intro w'
    go_simp
    with_reducible rfl
  rotate_left
  · simp only [Act.put, List.setIfInBounds_toArray, List.set_cons_zero, List.set_cons_succ, i64_w, i32_w]
    rfl
  refine pure_ (i := 6) (N := some 10) (v := ?_) (a' := ?_) #[true, true, true, true, true, true, true, false, false, false, false, false, false, false, false, false, false, false] rfl rfl (any_of HT_.out (by kernel_rfl)) (fun _ _ _ h => h) (Or.inl ⟨by rfl, ?_⟩) ?_ ?_
  rotate_left
  · intro w'
    go_simp
    with_reducible rfl
  rotate_left
  · simp only [Act.put, List.setIfInBounds_toArray, List.set_cons_zero, List.set_cons_succ, i64_w, i32_w]
    rfl
  refine pure_ (i := 7) (N := some 11) (v := ?_) (a' := ?_) #[true, true, true, true, true, true, true, true, false, false, false, false, false, false, false, false, false, false] rfl rfl (any_of HT_.out (by kernel_rfl)) (fun _ _ _ h => h) (Or.inl ⟨by rfl, ?_⟩) ?_ ?_
  rotate_left
  · intro w'
    go_simp
    with_reducible rfl
  rotate_left
  · simp only [Act.put, List.setIfInBounds_toArray, List.set_cons_zero, List.set_cons_succ, i64_w, i32_w]
    rfl
  refine pure_ (i := 8) (N := some 12) (v := ?_) (a' := ?_) #[true, true, true, true, true, true, true, true, true, false, false, false, false, false, false, false, false, false] rfl rfl (any_of HT_.out (by kernel_rfl)) (fun _ _ _ h => h) (Or.inl ⟨by rfl, ?_⟩) ?_ ?_
  rotate_left
  · intro w'
    go_simp
    with_reducible rfl
  rotate_left
  · simp only [Act.put, List.setIfInBounds_toArray, List.set_cons_zero, List.set_cons_succ, i64_w, i32_w]
    rfl
  refine take_ (i := 9) (N := some 13) (v := ?_) (a' := ?_) #[true, true, true, true, true, true, true, true, true, true, false, false, false, false, false, false, false, false] rfl rfl (take_ofW HT_.out HW_.out (by kernel_rfl)) (fun _ _ _ h => h) (Or.inl ⟨by rfl, ?_⟩) hHeld ?_ ?_
  rotate_left
  · rintro w' h1_
    obtain ⟨⟨_, _, _⟩, _, _⟩ := h1_.cells
    go_simp
    with_reducible rfl
  rotate_left
  · simp only [Act.put, List.setIfInBounds_toArray, List.set_cons_zero, List.set_cons_succ, i64_w, i32_w]
    rfl
  refine pure_ (i := 10) (N := some 14) (v := ?_) (a' := ?_) #[true, true, true, true, true, true, true, true, true, true, true, false, false, false, false, false, false, false] rfl rfl (any_of HT_.out (by kernel_rfl)) (fun _ _ _ h => h) (Or.inl ⟨by rfl, ?_⟩) ?_ ?_
  rotate_left
  · intro w'
    go_simp
    with_reducible rfl
  rotate_left
  · simp only [Act.put, List.setIfInBounds_toArray, List.set_cons_zero, List.set_cons_succ, i64_w, i32_w]
    rfl
  refine pure_ (i := 11) (N := some 15) (v := ?_) (a' := ?_) #[true, true, true, true, true, true, true, true, true, true, true, true, false, false, false, false, false, false] rfl rfl (any_of HT_.out (by kernel_rfl)) (fun _ _ _ h => h) (Or.inl ⟨by rfl, ?_⟩) ?_ ?_
  rotate_left
  · intro w'
    go_simp
    with_reducible rfl
  rotate_left
  · simp only [Act.put, List.setIfInBounds_toArray, List.set_cons_zero, List.set_cons_succ, i64_w, i32_w]
    rfl
  refine pure_ (i := 12) (N := some 16) (v := ?_) (a' := ?_) #[true, true, true, true, true, true, true, true, true, true, true, true, true, false, false, false, false, false] rfl rfl (any_of HT_.out (by kernel_rfl)) (fun _ _ _ h => h) (Or.inl ⟨by rfl, ?_⟩) ?_ ?_
  rotate_left
  · intro w'
    go_simp
    with_reducible rfl
  rotate_left
  · simp only [Act.put, List.setIfInBounds_toArray, List.set_cons_zero, List.set_cons_succ, i64_w, i32_w]
    rfl
  refine pure_ (i := 13) (N := some 17) (v := ?_) (a' := ?_) #[true, true, true, true, true, true, true, true, true, true, true, true, true, true, false, false, false, false] rfl rfl (any_of HT_.out (by kernel_rfl)) (fun _ _ _ h => h) (Or.inl ⟨by rfl, ?_⟩) ?_ ?_
  rotate_left
  · intro w'
    go_simp
    with_reducible rfl
  rotate_left
  · simp only [Act.put, List.setIfInBounds_toArray, List.set_cons_zero, List.set_cons_succ, i64_w, i32_w]
    rfl
  refine take_ (i := 14) (N := some 18) (v := ?_) (a' := ?_) #[true, true, true, true, true, true, true, true, true, true, true, true, true, true, true, false, false, false] rfl rfl (take_ofW HT_.out HW_.out (by kernel_rfl)) (fun _ _ _ h => h) (Or.inl ⟨by rfl, ?_⟩) hHeld ?_ ?_
  rotate_left
  · rintro w' h1_
    obtain ⟨⟨_, _, _⟩, _, _⟩ := h1_.cells
    go_simp
    with_reducible rfl
  rotate_left
  · simp only [Act.put, List.setIfInBounds_toArray, List.set_cons_zero, List.set_cons_succ, i64_w, i32_w]
    rfl
  refine pure_ (i := 15) (N := some 19) (v := ?_) (a' := ?_) #[true, true, true, true, true, true, true, true, true, true, true, true, true, true, true, true, false, false] rfl rfl (any_of HT_.out (by kernel_rfl)) (fun _ _ _ h => h) (Or.inl ⟨by rfl, ?_⟩) ?_ ?_
  rotate_left
  · intro w'
    go_simp
    with_reducible rfl
  rotate_left
  · simp only [Act.put, List.setIfInBounds_toArray, List.set_cons_zero, List.set_cons_succ, i64_w, i32_w]
    rfl
  refine pure_ (i := 16) (N := some 20) (v := ?_) (a' := ?_) #[true, true, true, true, true, true, true, true, true, true, true, true, true, true, true, true, true, false] rfl rfl (any_of HT_.out (by kernel_rfl)) (fun _ _ _ h => h) (Or.inl ⟨by rfl, ?_⟩) ?_ ?_
  rotate_left
  · intro w'
    go_simp
    with_reducible rfl
  rotate_left
  · simp only [Act.put, List.setIfInBounds_toArray, List.set_cons_zero, List.set_cons_succ, i64_w, i32_w]
    rfl
  refine pure_ (i := 17) (N := some 21) (v := ?_) (a' := ?_) #[true, true, true, true, true, true, true, true, true, true, true, true, true, true, true, true, true, true] rfl rfl (any_of HT_.out (by kernel_rfl)) (fun _ _ _ h => h) (Or.inl ⟨by rfl, ?_⟩) ?_ ?_
  rotate_left
  · intro w'
    go_simp
    with_reducible rfl
  rotate_left
  · simp only [Act.put, List.setIfInBounds_toArray, List.set_cons_zero, List.set_cons_succ, i64_w, i32_w]
    rfl
  refine done_ (done_of HT_.out (by kernel_rfl)) ?_
  clear HT_ HW_ hHeld
  obtain ⟨⟨m0, m1, m2⟩, m3, m4⟩ := (show Rdr w1.drew g (.slice (some ad) n c) (k : Int) from unhide R0).cells
  clear e3
  go_wp2
  clear m0 m1 m2 m3 m4 d3
  have hcut := unhide HCUT
  have e1 := unhide E1
  refine start_ (n := 19) (S := fun w' => Rdr w' g (.slice (some ad) n c) (k : Int)) (ds := [18]) #[false, false, false, false, false, false, false, false, false, false, false, false, false, false, false, false, false, false, false] (by kernel_rfl) rfl rfl (unhide R0) (fun hHeld => ?_)
  refine with_tabW tabT15_6 bitsT15_6 (fun HT_ HW_ => ?_)
  refine pure_ (i := 0) (N := some 35) (v := ?_) (a' := ?_) #[true, false, false, false, false, false, false, false, false, false, false, false, false, false, false, false, false, false, false] rfl rfl (any_of HT_.out (by kernel_rfl)) (fun _ _ _ h => h) (Or.inl ⟨by rfl, ?_⟩) ?_ ?_
  rotate_left
  · intro w'
    go_simp
    with_reducible rfl
  rotate_left
  · simp only [Act.put, List.setIfInBounds_toArray, List.set_cons_zero, List.set_cons_succ, i64_w, i32_w]
    rfl
  refine pure_ (i := 1) (N := some 36) (v := ?_) (a' := ?_) #[true, true, false, false, false, false, false, false, false, false, false, false, false, false, false, false, false, false, false] rfl rfl (any_of HT_.out (by kernel_rfl)) (fun _ _ _ h => h) (Or.inl ⟨by rfl, ?_⟩) ?_ ?_
  rotate_left
  · intro w'
    go_simp
    with_reducible rfl
  rotate_left
  · simp only [Act.put, List.setIfInBounds_toArray, List.set_cons_zero, List.set_cons_succ, i64_w, i32_w]
    rfl
  refine pure_ (i := 2) (N := some 37) (v := ?_) (a' := ?_) #[true, true, true, false, false, false, false, false, false, false, false, false, false, false, false, false, false, false, false] rfl rfl (any_of HT_.out (by kernel_rfl)) (fun _ _ _ h => h) (Or.inl ⟨by rfl, ?_⟩) ?_ ?_
  rotate_left
  · intro w'
    go_simp
    with_reducible rfl
  rotate_left
  · simp only [Act.put, List.setIfInBounds_toArray, List.set_cons_zero, List.set_cons_succ, i64_w, i32_w]
    rfl
  refine take_ (i := 3) (N := some 38) (v := ?_) (a' := ?_) #[true, true, true, true, false, false, false, false, false, false, false, false, false, false, false, false, false, false, false] rfl rfl (take_ofW HT_.out HW_.out (by kernel_rfl)) (fun _ _ _ h => h) (Or.inl ⟨by rfl, ?_⟩) hHeld ?_ ?_
  rotate_left
  · rintro w' h1_
    obtain ⟨⟨_, _, _⟩, _, _⟩ := h1_.cells
    go_simp
    with_reducible rfl
  rotate_left
  · simp only [Act.put, List.setIfInBounds_toArray, List.set_cons_zero, List.set_cons_succ, i64_w, i32_w]
    rfl
  refine pure_ (i := 4) (N := some 39) (v := ?_) (a' := ?_) #[true, true, true, true, true, false, false, false, false, false, false, false, false, false, false, false, false, false, false] rfl rfl (any_of HT_.out (by kernel_rfl)) (fun _ _ _ h => h) (Or.inl ⟨by rfl, ?_⟩) ?_ ?_
  rotate_left
  · intro w'
    go_simp
    with_reducible rfl
  rotate_left
  · simp only [Act.put, List.setIfInBounds_toArray, List.set_cons_zero, List.set_cons_succ, i64_w, i32_w]
    rfl
  refine pure_ (i := 5) (N := some 40) (v := ?_) (a' := ?_) #[true, true, true, true, true, true, false, false, false, false, false, false, false, false, false, false, false, false, false] rfl rfl (any_of HT_.out (by kernel_rfl)) (fun _ _ _ h => h) (Or.inl ⟨by rfl, ?_⟩) ?_ ?_
  rotate_left
  · intro w'
    go_simp
    with_reducible rfl
  rotate_left
  · simp only [Act.put, List.setIfInBounds_toArray, List.set_cons_zero, List.set_cons_succ, i64_w, i32_w]
    rfl
  refine pure_ (i := 6) (N := some 41) (v := ?_) (a' := ?_) #[true, true, true, true, true, true, true, false, false, false, false, false, false, false, false, false, false, false, false] rfl rfl (any_of HT_.out (by kernel_rfl)) (fun _ _ _ h => h) (Or.inl ⟨by rfl, ?_⟩) ?_ ?_
  rotate_left
  · intro w'
    go_simp
    with_reducible rfl
  rotate_left
  · simp only [Act.put, List.setIfInBounds_toArray, List.set_cons_zero, List.set_cons_succ, i64_w, i32_w]
    rfl
  refine pure_ (i := 7) (N := some 42) (v := ?_) (a' := ?_) #[true, true, true, true, true, true, true, true, false, false, false, false, false, false, false, false, false, false, false] rfl rfl (any_of HT_.out (by kernel_rfl)) (fun _ _ _ h => h) (Or.inl ⟨by rfl, ?_⟩) ?_ ?_
  rotate_left
  · intro w'
    go_simp
    with_reducible rfl
  rotate_left
  · simp only [Act.put, List.setIfInBounds_toArray, List.set_cons_zero, List.set_cons_succ, i64_w, i32_w]
    rfl
  refine take_ (i := 8) (N := some 43) (v := ?_) (a' := ?_) #[true, true, true, true, true, true, true, true, true, false, false, false, false, false, false, false, false, false, false] rfl rfl (take_ofW HT_.out HW_.out (by kernel_rfl)) (fun _ _ _ h => h) (Or.inl ⟨by rfl, ?_⟩) hHeld ?_ ?_
  rotate_left
  · rintro w' h1_
    obtain ⟨⟨_, _, _⟩, _, _⟩ := h1_.cells
    go_simp
    with_reducible rfl
  rotate_left
  · simp only [Act.put, List.setIfInBounds_toArray, List.set_cons_zero, List.set_cons_succ, i64_w, i32_w]
    rfl
  refine pure_ (i := 9) (N := some 44) (v := ?_) (a' := ?_) #[true, true, true, true, true, true, true, true, true, true, false, false, false, false, false, false, false, false, false] rfl rfl (any_of HT_.out (by kernel_rfl)) (fun _ _ _ h => h) (Or.inl ⟨by rfl, ?_⟩) ?_ ?_
  rotate_left
  · intro w'
    go_simp
    with_reducible rfl
  rotate_left
  · simp only [Act.put, List.setIfInBounds_toArray, List.set_cons_zero, List.set_cons_succ, i64_w, i32_w]
    rfl
  refine pure_ (i := 10) (N := some 45) (v := ?_) (a' := ?_) #[true, true, true, true, true, true, true, true, true, true, true, false, false, false, false, false, false, false, false] rfl rfl (any_of HT_.out (by kernel_rfl)) (fun _ _ _ h => h) (Or.inl ⟨by rfl, ?_⟩) ?_ ?_
  rotate_left
  · intro w'
    go_simp
    with_reducible rfl
  rotate_left
  · simp only [Act.put, List.setIfInBounds_toArray, List.set_cons_zero, List.set_cons_succ, i64_w, i32_w]
    rfl
  refine pure_ (i := 11) (N := some 46) (v := ?_) (a' := ?_) #[true, true, true, true, true, true, true, true, true, true, true, true, false, false, false, false, false, false, false] rfl rfl (any_of HT_.out (by kernel_rfl)) (fun _ _ _ h => h) (Or.inl ⟨by rfl, ?_⟩) ?_ ?_
  rotate_left
  · intro w'
    go_simp
    with_reducible rfl
  rotate_left
  · simp only [Act.put, List.setIfInBounds_toArray, List.set_cons_zero, List.set_cons_succ, i64_w, i32_w]
    rfl
  refine take_ (i := 12) (N := some 47) (v := ?_) (a' := ?_) #[true, true, true, true, true, true, true, true, true, true, true, true, true, false, false, false, false, false, false] rfl rfl (take_ofW HT_.out HW_.out (by kernel_rfl)) (fun _ _ _ h => h) (Or.inl ⟨by rfl, ?_⟩) hHeld ?_ ?_
  rotate_left
  · rintro w' h1_
    obtain ⟨⟨_, _, _⟩, _, _⟩ := h1_.cells
    go_simp
    with_reducible rfl
  rotate_left
  · simp only [Act.put, List.setIfInBounds_toArray, List.set_cons_zero, List.set_cons_succ, i64_w, i32_w]
    rfl
  refine pure_ (i := 13) (N := some 48) (v := ?_) (a' := ?_) #[true, true, true, true, true, true, true, true, true, true, true, true, true, true, false, false, false, false, false] rfl rfl (any_of HT_.out (by kernel_rfl)) (fun _ _ _ h => h) (Or.inl ⟨by rfl, ?_⟩) ?_ ?_
  rotate_left
  · intro w'
    go_simp
    with_reducible rfl
  rotate_left
  · simp only [Act.put, List.setIfInBounds_toArray, List.set_cons_zero, List.set_cons_succ, i64_w, i32_w]
    rfl
  refine one_ (i := 14) (N := some 49) #[true, true, true, true, true, true, true, true, true, true, true, true, true, true, true, false, false, false, false] rfl rfl (one_of HT_.out (by kernel_rfl)) (by decide) (fun K hK => ?_)
  have hcp := copy_in w1.drew.drew g1 25 _ M ad9 nk (c - k) (unhide X1) List.length_replicate ((unhide HCR) _ (unhide C0)) (unhide D5)
  rw [unhide HMT] at hcp
  have R3 : Hid (Rdr (w1.drew.drew.setRow g1 (bys sm)) g (.slice (some ad) n c) (k : Int)) := Rdr.far (show Rdr w1.drew.drew g _ _ from unhide R0) (by have := unhide HG1; have := unhide NG; omega) _
  have X3 : Hid (Bs (w1.drew.drew.setRow g1 (bys sm)) w.heap.size 25 (List.replicate 32 0)) := (setRow_other w1.drew.drew g1 w.heap.size _ (by have := unhide HG1; omega)).trans (unhide X0)
  have X4 : Hid (Bs (w1.drew.drew.setRow g1 (bys sm)) g1 25 sm) := (show Bs w1.drew.drew g1 25 (List.replicate 32 0) from unhide X1).row
  have B3 : Hid (Below base w (w1.drew.drew.setRow g1 (bys sm))) := below_setRow (below_drew (below_drew (unhide B0))) (by have := unhide HG1; have := unhide NG; omega) _
  have K3 : Hid (KeepBut w (w1.drew.drew.setRow g1 (bys sm)) g none) := KeepBut.row (show KeepBut w w1.drew.drew g none from unhide K0) (by have := unhide HG1; omega) _
  generalize w1.drew.drew.setRow g1 (bys sm) = w3 at hcp R3 X3 X4 B3 K3
  refine value_ (v := .int .i64 32) (w1 := w3) (by rfl) rfl ?hrun ?_
  case hrun =>
    go_simp
  clear hcp
  clear hHeld
  refine hK.out _ _ (unhide R3) (fun hHeld => ?_)
  clear hK K
  refine norm_ (a' := ?_) ?_ ?_
  rotate_left
  · show Act.put _ (some 49) _ = _
    simp only [Act.put, List.setIfInBounds_toArray, List.set_cons_zero, List.set_cons_succ, i64_w, i32_w]
    rfl
  refine pure_ (i := 15) (N := some 50) (v := ?_) (a' := ?_) #[true, true, true, true, true, true, true, true, true, true, true, true, true, true, true, true, false, false, false] rfl rfl (any_of HT_.out (by kernel_rfl)) (fun _ _ _ h => h) (Or.inl ⟨by rfl, ?_⟩) ?_ ?_
  rotate_left
  · intro w'
    go_simp
    with_reducible rfl
  rotate_left
  · simp only [Act.put, List.setIfInBounds_toArray, List.set_cons_zero, List.set_cons_succ, i64_w, i32_w]
    rfl
  refine pure_ (i := 16) (N := some 51) (v := ?_) (a' := ?_) #[true, true, true, true, true, true, true, true, true, true, true, true, true, true, true, true, true, false, false] rfl rfl (any_of HT_.out (by kernel_rfl)) (fun _ _ _ h => h) (Or.inl ⟨by rfl, ?_⟩) ?_ ?_
  rotate_left
  · intro w'
    go_simp
    with_reducible rfl
  rotate_left
  · simp only [Act.put, List.setIfInBounds_toArray, List.set_cons_zero, List.set_cons_succ, i64_w, i32_w]
    rfl
  refine pure_ (i := 17) (N := some 52) (v := ?_) (a' := ?_) #[true, true, true, true, true, true, true, true, true, true, true, true, true, true, true, true, true, true, false] rfl rfl (any_of HT_.out (by kernel_rfl)) (fun _ _ _ h => h) (Or.inl ⟨by rfl, ?_⟩) ?_ ?_
  rotate_left
  · intro w'
    go_simp
    with_reducible rfl
  rotate_left
  · simp only [Act.put, List.setIfInBounds_toArray, List.set_cons_zero, List.set_cons_succ, i64_w, i32_w]
    rfl
  refine last_ (i := 18) (N := none) #[true, true, true, true, true, true, true, true, true, true, true, true, true, true, true, true, true, true, true] rfl rfl (one_of HT_.out (by kernel_rfl)) (by decide) (fun K hK => ?_)
  obtain ⟨⟨m0, m1, m2⟩, m3, m4⟩ := (unhide R3).cells
  refine skip_ (w1 := w3.setCell ⟨g, 1, none⟩ (.int .i64 (k2 : Int))) (by rfl) rfl ?hrun ?_
  case hrun =>
    first | (go_simp; done) | (go_simp; rfl)
  refine hK.out _ _ ?_
  clear hK K
  refine done_ (done_of HT_.out (by kernel_rfl)) ?_
  clear HT_ HW_; (try clear hHeld)
  have R4 : Hid (Rdr (w3.setCell ⟨g, 1, none⟩ (.int .i64 (k2 : Int))) g (.slice (some ad) n c) (k2 : Int)) := blk_put (unhide R3) 1 _ rfl
  have X5 : Hid (Bs (w3.setCell ⟨g, 1, none⟩ (.int .i64 (k2 : Int))) w.heap.size 25 (List.replicate 32 0)) := (unhide X3).far (by have := unhide NG; simp; omega) _
  have X6 : Hid (Bs (w3.setCell ⟨g, 1, none⟩ (.int .i64 (k2 : Int))) g1 25 sm) := (unhide X4).far (by have := unhide NG; have := unhide HG1; simp; omega) _
  have B4 : Hid (Below base w (w3.setCell ⟨g, 1, none⟩ (.int .i64 (k2 : Int)))) := (unhide B3).setCell hb _
  have K4 : Hid (KeepBut w (w3.setCell ⟨g, 1, none⟩ (.int .i64 (k2 : Int))) g none) := (unhide K3).set_ 1 _
  clear m0 m1 m2 m3 m4 e1 hcut
  generalize w3.setCell ⟨g, 1, none⟩ (.int .i64 (k2 : Int)) = w4 at R4 X5 X6 B4 K4 ⊢
  go_wp2_with (first | refine wpList_load_row rfl 25 _ rfl g1 rfl 25 _ (0, 0) _ (unhide X6) Try.underlying25 rfl (unhide SZ) ?_ | refine wpList_store_row rfl 25 _ _ rfl w.heap.size (bys sm) rfl rfl 25 _ (unhide X5) (unhide SZ) (by rw [bys_size, bys_size, unhide HS]; rfl) (bys_one _) ?_)
  refine bodyPost_ret (v := .agg (bys sm)) ?_ rfl ⟨rfl, ?_, ?_, ?_⟩
  · exact results_cell_row rfl _ _ w.heap.size 25 (bys sm) (0, 0) _ rfl (unhide X5).row Try.underlying25 rfl (unhide SZ)
  · exact Rdr.far (unhide R4) (by have := unhide NG; omega) _
  · exact below_setRow (unhide B4) (by have := unhide NG; omega) _
  · exact KeepBut.row (unhide K4) (Nat.le_refl _) _
end Go.Proofs.Ytgoephcembgmcaa.Fr
