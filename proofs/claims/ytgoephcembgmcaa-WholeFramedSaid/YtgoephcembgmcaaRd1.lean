import Derived.Test.YtgoephcembgmcaaFr6
set_option linter.unusedSimpArgs false
set_option linter.unusedVariables false
namespace Go.Proofs.Ytgoephcembgmcaa.Fr
open Go.RowKit Go.Proofs.YtgoephcembgmcaaW.PrintWords Go.Proofs.YtgoephcembgmcaaW.PrintLast Go.Proofs.YtgoephcembgmcaaW.PrintMore Go.Proofs.Ytgoephcembgmcaa.Wk Go.Proofs.Ytgoephcembgmcaa.FrM
open Go.Proofs.Ytgoephcembgmcaa.WkM (w64)
theorem Rdr.below {w w1 : World} {g : Nat} {v : Value} {k : Int} (h : Rdr w g v k) (hb : Below w.heap.size w w1) : Rdr w1 g v k := blk_below h hb
theorem Rdr.alloc {w : World} {g : Nat} {v : Value} {k : Int} (h : Rdr w g v k) (o : Obj) : Rdr (w.alloc o) g v k := blk_alloc h o
theorem Rdr.grown {w w1 : World} {g : Nat} {v : Value} {k : Int} {row : Option Nat} (h : Rdr w g v k) (hg : w.grownBy w1 row) (hne : some g ≠ row) : Rdr w1 g v k := blk_grown h hg hne
/-- A row of the call's own, apart from block g. -/
abbrev OwnG (g : Nat) (w : World) (base : Nat) (v : Value) (xs : List Int) : Prop := (Kd.int .u8).R 5 w base (fun k => k ≠ g) v xs
theorem own_emptyG (W : World) (base g : Nat) (h : base ≤ W.heap.size) (hg : g < W.heap.size) : OwnG g (W.alloc (.cells #[] 5)) base (.slice (some ⟨W.heap.size, 0, none⟩) 0 0) [] := by
  have h2 := World.ownsRow_lit (base := base) (e := 5) (size := 1) W #[] 0 h (by simp [maxLen]) (by simp)
  exact Kd.R_of_own (enc := Value.int .u8) (xs := ([] : List Int)) (by simpa [encs] using h2) (fun k hk => by simp [Value.ownBlock] at hk; omega)
/-- A row that is read is as it was where only block g turned. -/
theorem C_keep {w w1 : World} {ad : Addr} {n g : Nat} {L : List Int} (h : Kd.C (Kd.int .u8) w (some ad) n L) (hk : KeepBut w w1 g none) (hne : ad.block ≠ g) : Kd.C (Kd.int .u8) w1 (some ad) n L := Kd.C_keep (0 : Int) h hk (fun ad' e _ => by cases e; exact hne)
def T14_8 : Bool × List (List Nat × List Nat) := (true, [([], []), ([], []), ([1], [1]), ([2], [2]), ([3], [3]), ([4], [4]), ([], []), ([6], [6]), ([7], [7]), ([8], [8]), ([5, 9], [5, 9]), ([0, 10], [0, 10]), ([11], [11])])
def BT14_8 : List Nat := [0, 0, 2, 6, 14, 30, 0, 64, 192, 448, 1022, 2047, 4095]
theorem tabT14_8 : rtab .any (opsOf Try.f14 8) = T14_8 := by kernel_rfl
theorem bitsT14_8 : waitsOk T14_8.2 BT14_8 = true := by kernel_rfl
def T14_12 : Bool × List (List Nat × List Nat) := (true, [([], []), ([], []), ([1], [1]), ([2], [2]), ([3], [3]), ([], []), ([5], [5]), ([6], [6]), ([7], [7]), ([], []), ([8, 9], [8, 9]), ([], []), ([11], [11]), ([12], [12]), ([13], [13]), ([4, 10, 14], [4, 10, 14]), ([0, 15], [0, 15]), ([16, 16, 0, 1, 2, 3, 4, 5, 6, 7, 8, 9, 10, 11, 12, 13, 14, 15, 16], [16])])
def BT14_12 : List Nat := [0, 0, 2, 6, 14, 0, 32, 96, 224, 0, 992, 0, 2048, 6144, 14336, 32766, 65535, 131071]
theorem tabT14_12 : rtab .any (opsOf Try.f14 12) = T14_12 := by kernel_rfl
theorem bitsT14_12 : waitsOk T14_12.2 BT14_12 = true := by kernel_rfl

set_option maxHeartbeats 2000000 in
set_option maxRecDepth 100000 in
theorem text_rd (g base : Nat) (ad : Addr) (n c k : Nat) (L t rest : List Int) (w : World) (h : Rdr w g (.slice (some ad) n c) (k : Int)) (hC : Kd.C (Kd.int .u8) w (some ad) n L) (hL : L.drop k = vnum t.length ++ (t ++ rest)) (ht : t.length ≤ 4096) (hn : n ≤ 1000000) (hnc : n ≤ c) (hne : ad.block ≠ g) (hb : base ≤ g) (hk : k ≤ n) :
    Calls Try.prog 14 #[.pointer (some ⟨g, 0, none⟩)] w fun e w' => ∃ A1 c1, e = .returned (.slice A1 t.length c1) ∧ OwnG g w' w.heap.size (.slice A1 t.length c1) t ∧ Rdr w' g (.slice (some ad) n c) ((k + (vnum t.length).length + t.length : Nat) : Int) ∧ Below base w w' ∧ KeepBut w w' g none := by
  have hu := Try.underlying69
  have HC := hide hC
  have HR := hide h
  have HLL := hide hL
  have hLn : L.length = n := hC.1
  obtain ⟨k1, hk1⟩ : ∃ q, q = k + (vnum t.length).length := ⟨_, rfl⟩
  obtain ⟨tn, htn⟩ : ∃ q, q = t.length := ⟨_, rfl⟩
  obtain ⟨k2, hk2⟩ : ∃ q, q = k1 + tn := ⟨_, rfl⟩
  have hlen : L.length - k = (vnum t.length).length + (t.length + rest.length) := by rw [← List.length_drop, hL, List.length_append, List.length_append]
  have E1 : Hid (wrap64 ((k1 : Int) + (tn : Int)) = (k2 : Int)) := by show _ = _; rw [w64 _ (by omega) (by omega)]; omega
  have E2 : Hid (wrap64 ((k2 : Int) - (tn : Int)) = (k1 : Int)) := by show _ = _; rw [w64 _ (by omega) (by omega)]; omega
  obtain ⟨nk, hnk⟩ : ∃ q, q = n - k1 := ⟨_, rfl⟩
  have E3 : Hid (wrap64 ((n : Int) - (k1 : Int)) = (nk : Int)) := by show _ = _; rw [w64 _ (by omega) (by omega)]; omega
  have D3 : Hid (¬ (nk : Int) < (tn : Int)) := by show ¬ _; omega
  have D4 : Hid (¬ (4096 : Int) < (tn : Int)) := by show ¬ _; omega
  obtain ⟨A9, hcut, hcr, hcl⟩ := mid_any (some ad) c L k1 k2 (by omega) (by omega) (by omega)
  have hmid : (L.take k2).drop k1 = t := by
    have e1 : L.drop k1 = t ++ rest := by rw [hk1, ← List.drop_drop, hL, List.drop_left]
    rw [List.drop_take, e1, hk2, Nat.add_sub_cancel_left, htn, List.take_left']
    rfl
  rw [hmid, hLn] at hcut hcr
  rw [hmid] at hcl
  have HCUT : Hid (∀ W : World, (Instr.slice 22 (.slice (some ad) n c) (some (.int .i64 (k1 : Int))) (some (.int .i64 (k2 : Int))) none).run Try.prog W = .ok (.slice A9 tn (c - k1)) W) := by rw [htn]; exact hcut
  have HCR : Hid (∀ w : World, Kd.C (Kd.int .u8) w (some ad) n L → Kd.C (Kd.int .u8) w A9 tn t) := by rw [htn]; exact hcr
  have HTN := hide htn
  have HT4 := hide ht
  have HK1 := hide hk1
  have HK2 := hide hk2
  rw [← htn]
  obtain ⟨⟨m0, m1, m2⟩, m3, m4⟩ := h.cells
  clear h hC hL hlen hk1 hk2 hnk hcut hcr hcl hmid hLn ht
  go_enter Try.func14, Try.ntmps14
  go_wp2_with fail
  refine (num_rd g base ad n c k t.length L (t ++ rest) _ (unhide HR) (unhide HC) (unhide HLL) (by have := unhide HT4; omega) hn hne hb).mono ?_
  rintro e w1 ⟨rfl, hR1, hB1, hK1⟩
  rw [← unhide HK1] at hR1
  rw [← unhide HTN]
  have R1 := hide hR1
  have B1 := hide hB1
  have K1 := hide hK1
  clear hR1 hB1 hK1 m0 m1 m2 m3 m4 htn
  obtain ⟨⟨m0, m1, m2⟩, m3, m4⟩ := (unhide R1).cells
  have d4 := unhide D4
  go_wp2
  clear m0 m1 m2 m3 m4 d4
  have e3 := unhide E3
  have d3 := unhide D3
  refine start_ (n := 13) (S := fun w' => Rdr w' g (.slice (some ad) n c) (k1 : Int)) (ds := []) #[false, false, false, false, false, false, false, false, false, false, false, false, false] (by kernel_rfl) rfl rfl (unhide R1) (fun hHeld => ?_)
  refine with_tabW tabT14_8 bitsT14_8 (fun HT_ HW_ => ?_)
  refine pure_ (i := 0) (N := some 24) (v := ?_) (a' := ?_) #[true, false, false, false, false, false, false, false, false, false, false, false, false] rfl rfl (any_of HT_.out (by kernel_rfl)) (fun _ _ _ h => h) (Or.inl ⟨by rfl, ?_⟩) ?_ ?_
  rotate_left
  · intro w'
    go_simp
    with_reducible rfl
  rotate_left
  · simp only [Act.put, List.setIfInBounds_toArray, List.set_cons_zero, List.set_cons_succ, i64_w, i32_w]
    rfl
  refine pure_ (i := 1) (N := some 25) (v := ?_) (a' := ?_) #[true, true, false, false, false, false, false, false, false, false, false, false, false] rfl rfl (any_of HT_.out (by kernel_rfl)) (fun _ _ _ h => h) (Or.inl ⟨by rfl, ?_⟩) ?_ ?_
  rotate_left
  · intro w'
    go_simp
    with_reducible rfl
  rotate_left
  · simp only [Act.put, List.setIfInBounds_toArray, List.set_cons_zero, List.set_cons_succ, i64_w, i32_w]
    rfl
  refine pure_ (i := 2) (N := some 26) (v := ?_) (a' := ?_) #[true, true, true, false, false, false, false, false, false, false, false, false, false] rfl rfl (any_of HT_.out (by kernel_rfl)) (fun _ _ _ h => h) (Or.inl ⟨by rfl, ?_⟩) ?_ ?_
  rotate_left
  · intro w'
    go_simp
    with_reducible rfl
  rotate_left
  · simp only [Act.put, List.setIfInBounds_toArray, List.set_cons_zero, List.set_cons_succ, i64_w, i32_w]
    rfl
  refine pure_ (i := 3) (N := some 27) (v := ?_) (a' := ?_) #[true, true, true, true, false, false, false, false, false, false, false, false, false] rfl rfl (any_of HT_.out (by kernel_rfl)) (fun _ _ _ h => h) (Or.inl ⟨by rfl, ?_⟩) ?_ ?_
  rotate_left
  · intro w'
    go_simp
    with_reducible rfl
  rotate_left
  · simp only [Act.put, List.setIfInBounds_toArray, List.set_cons_zero, List.set_cons_succ, i64_w, i32_w]
    rfl
  refine take_ (i := 4) (N := some 28) (v := ?_) (a' := ?_) #[true, true, true, true, true, false, false, false, false, false, false, false, false] rfl rfl (take_ofW HT_.out HW_.out (by kernel_rfl)) (fun _ _ _ h => h) (Or.inl ⟨by rfl, ?_⟩) hHeld ?_ ?_
  rotate_left
  · rintro w' h1_
    obtain ⟨⟨_, _, _⟩, _, _⟩ := h1_.cells
    go_simp
    with_reducible rfl
  rotate_left
  · simp only [Act.put, List.setIfInBounds_toArray, List.set_cons_zero, List.set_cons_succ, i64_w, i32_w]
    rfl
  refine pure_ (i := 5) (N := some 29) (v := ?_) (a' := ?_) #[true, true, true, true, true, true, false, false, false, false, false, false, false] rfl rfl (any_of HT_.out (by kernel_rfl)) (fun _ _ _ h => h) (Or.inl ⟨by rfl, ?_⟩) ?_ ?_
  rotate_left
  · intro w'
    go_simp
    with_reducible rfl
  rotate_left
  · simp only [Act.put, List.setIfInBounds_toArray, List.set_cons_zero, List.set_cons_succ, i64_w, i32_w]
    rfl
  refine pure_ (i := 6) (N := some 30) (v := ?_) (a' := ?_) #[true, true, true, true, true, true, true, false, false, false, false, false, false] rfl rfl (any_of HT_.out (by kernel_rfl)) (fun _ _ _ h => h) (Or.inl ⟨by rfl, ?_⟩) ?_ ?_
  rotate_left
  · intro w'
    go_simp
    with_reducible rfl
  rotate_left
  · simp only [Act.put, List.setIfInBounds_toArray, List.set_cons_zero, List.set_cons_succ, i64_w, i32_w]
    rfl
  refine pure_ (i := 7) (N := some 31) (v := ?_) (a' := ?_) #[true, true, true, true, true, true, true, true, false, false, false, false, false] rfl rfl (any_of HT_.out (by kernel_rfl)) (fun _ _ _ h => h) (Or.inl ⟨by rfl, ?_⟩) ?_ ?_
  rotate_left
  · intro w'
    go_simp
    with_reducible rfl
  rotate_left
  · simp only [Act.put, List.setIfInBounds_toArray, List.set_cons_zero, List.set_cons_succ, i64_w, i32_w]
    rfl
  refine pure_ (i := 8) (N := some 32) (v := ?_) (a' := ?_) #[true, true, true, true, true, true, true, true, true, false, false, false, false] rfl rfl (any_of HT_.out (by kernel_rfl)) (fun _ _ _ h => h) (Or.inl ⟨by rfl, ?_⟩) ?_ ?_
  rotate_left
  · intro w'
    go_simp
    with_reducible rfl
  rotate_left
  · simp only [Act.put, List.setIfInBounds_toArray, List.set_cons_zero, List.set_cons_succ, i64_w, i32_w]
    rfl
  refine take_ (i := 9) (N := some 33) (v := ?_) (a' := ?_) #[true, true, true, true, true, true, true, true, true, true, false, false, false] rfl rfl (take_ofW HT_.out HW_.out (by kernel_rfl)) (fun _ _ _ h => h) (Or.inl ⟨by rfl, ?_⟩) hHeld ?_ ?_
  rotate_left
  · rintro w' h1_
    obtain ⟨⟨_, _, _⟩, _, _⟩ := h1_.cells
    go_simp
    with_reducible rfl
  rotate_left
  · simp only [Act.put, List.setIfInBounds_toArray, List.set_cons_zero, List.set_cons_succ, i64_w, i32_w]
    rfl
  refine pure_ (i := 10) (N := some 34) (v := ?_) (a' := ?_) #[true, true, true, true, true, true, true, true, true, true, true, false, false] rfl rfl (any_of HT_.out (by kernel_rfl)) (fun _ _ _ h => h) (Or.inl ⟨by rfl, ?_⟩) ?_ ?_
  rotate_left
  · intro w'
    go_simp
    with_reducible rfl
  rotate_left
  · simp only [Act.put, List.setIfInBounds_toArray, List.set_cons_zero, List.set_cons_succ, i64_w, i32_w]
    rfl
  refine pure_ (i := 11) (N := some 35) (v := ?_) (a' := ?_) #[true, true, true, true, true, true, true, true, true, true, true, true, false] rfl rfl (any_of HT_.out (by kernel_rfl)) (fun _ _ _ h => h) (Or.inl ⟨by rfl, ?_⟩) ?_ ?_
  rotate_left
  · intro w'
    go_simp
    with_reducible rfl
  rotate_left
  · simp only [Act.put, List.setIfInBounds_toArray, List.set_cons_zero, List.set_cons_succ, i64_w, i32_w]
    rfl
  refine pure_ (i := 12) (N := some 23) (v := ?_) (a' := ?_) #[true, true, true, true, true, true, true, true, true, true, true, true, true] rfl rfl (any_of HT_.out (by kernel_rfl)) (fun _ _ _ h => h) (Or.inl ⟨by rfl, ?_⟩) ?_ ?_
  rotate_left
  · intro w'
    go_simp
    with_reducible rfl
  rotate_left
  · simp only [Act.put, List.setIfInBounds_toArray, List.set_cons_zero, List.set_cons_succ, i64_w, i32_w]
    rfl
  refine done_ (done_of HT_.out (by kernel_rfl)) ?_
  clear HT_ HW_ hHeld
  obtain ⟨⟨m0, m1, m2⟩, m3, m4⟩ := (show Rdr w1.drew g (.slice (some ad) n c) (k1 : Int) from unhide R1).cells
  clear e3
  have e1 := unhide E1
  go_wp2
  clear m0 m1 m2 m3 m4 d3 e1
  have R2 : Hid (Rdr (w1.setCell ⟨g, 1, none⟩ (.int .i64 (k2 : Int))).drew.drew g (.slice (some ad) n c) (k2 : Int)) := blk_put (unhide R1) 1 _ rfl
  have B2 : Hid (Below base w (w1.setCell ⟨g, 1, none⟩ (.int .i64 (k2 : Int))).drew.drew) := below_drew (below_drew ((unhide B1).setCell hb _))
  have K2 : Hid (KeepBut w (w1.setCell ⟨g, 1, none⟩ (.int .i64 (k2 : Int))).drew.drew g none) := (unhide K1).set_ 1 _
  clear R1 B1 K1
  generalize (w1.setCell ⟨g, 1, none⟩ (.int .i64 (k2 : Int))).drew = w5 at R2 B2 K2 ⊢
  have N2 : Hid (g < w5.heap.size) := (unhide R2).cells.2.2
  have C2 : Hid (Kd.C (Kd.int .u8) (w5.drew.alloc (.cells #[] 5)) A9 tn t) := Kd.C_alloc ((unhide HCR) _ (C_keep (unhide HC) (unhide K2) hne)) _
  have RE := hide (own_emptyG w5.drew w5.drew.heap.size g (Nat.le_refl _) (unhide N2))
  have BE := hide (below_alloc (Below.refl w5.drew.heap.size w5.drew) (.cells #[] 5))
  have RA := hide ((unhide R2).alloc (.cells #[] 5))
  obtain ⟨w6, hw6⟩ : ∃ x, w5.drew.alloc (.cells #[] 5) = x := ⟨_, rfl⟩
  rw [hw6] at RE BE RA C2
  have e2 := unhide E2
  have hcut := unhide HCUT
  refine start_ (n := 18) (S := fun w' => Rdr w' g (.slice (some ad) n c) (k2 : Int)) (ds := []) #[false, false, false, false, false, false, false, false, false, false, false, false, false, false, false, false, false, false] (by kernel_rfl) rfl rfl (unhide R2) (fun hHeld => ?_)
  refine with_tabW tabT14_12 bitsT14_12 (fun HT_ HW_ => ?_)
  refine pure_ (i := 1) (N := some 52) (v := ?_) (a' := ?_) #[false, true, false, false, false, false, false, false, false, false, false, false, false, false, false, false, false, false] rfl rfl (any_of HT_.out (by kernel_rfl)) (fun _ _ _ h => h) (Or.inl ⟨by rfl, ?_⟩) ?_ ?_
  rotate_left
  · intro w'
    go_simp
    with_reducible rfl
  rotate_left
  · simp only [Act.put, List.setIfInBounds_toArray, List.set_cons_zero, List.set_cons_succ, i64_w, i32_w]
    rfl
  refine pure_ (i := 2) (N := some 53) (v := ?_) (a' := ?_) #[false, true, true, false, false, false, false, false, false, false, false, false, false, false, false, false, false, false] rfl rfl (any_of HT_.out (by kernel_rfl)) (fun _ _ _ h => h) (Or.inl ⟨by rfl, ?_⟩) ?_ ?_
  rotate_left
  · intro w'
    go_simp
    with_reducible rfl
  rotate_left
  · simp only [Act.put, List.setIfInBounds_toArray, List.set_cons_zero, List.set_cons_succ, i64_w, i32_w]
    rfl
  refine pure_ (i := 3) (N := some 54) (v := ?_) (a' := ?_) #[false, true, true, true, false, false, false, false, false, false, false, false, false, false, false, false, false, false] rfl rfl (any_of HT_.out (by kernel_rfl)) (fun _ _ _ h => h) (Or.inl ⟨by rfl, ?_⟩) ?_ ?_
  rotate_left
  · intro w'
    go_simp
    with_reducible rfl
  rotate_left
  · simp only [Act.put, List.setIfInBounds_toArray, List.set_cons_zero, List.set_cons_succ, i64_w, i32_w]
    rfl
  refine take_ (i := 4) (N := some 55) (v := ?_) (a' := ?_) #[false, true, true, true, true, false, false, false, false, false, false, false, false, false, false, false, false, false] rfl rfl (take_ofW HT_.out HW_.out (by kernel_rfl)) (fun _ _ _ h => h) (Or.inl ⟨by rfl, ?_⟩) hHeld ?_ ?_
  rotate_left
  · rintro w' h1_
    obtain ⟨⟨_, _, _⟩, _, _⟩ := h1_.cells
    go_simp
    with_reducible rfl
  rotate_left
  · simp only [Act.put, List.setIfInBounds_toArray, List.set_cons_zero, List.set_cons_succ, i64_w, i32_w]
    rfl
  refine pure_ (i := 5) (N := some 56) (v := ?_) (a' := ?_) #[false, true, true, true, true, true, false, false, false, false, false, false, false, false, false, false, false, false] rfl rfl (any_of HT_.out (by kernel_rfl)) (fun _ _ _ h => h) (Or.inl ⟨by rfl, ?_⟩) ?_ ?_
  rotate_left
  · intro w'
    go_simp
    with_reducible rfl
  rotate_left
  · simp only [Act.put, List.setIfInBounds_toArray, List.set_cons_zero, List.set_cons_succ, i64_w, i32_w]
    rfl
  refine pure_ (i := 6) (N := some 57) (v := ?_) (a' := ?_) #[false, true, true, true, true, true, true, false, false, false, false, false, false, false, false, false, false, false] rfl rfl (any_of HT_.out (by kernel_rfl)) (fun _ _ _ h => h) (Or.inl ⟨by rfl, ?_⟩) ?_ ?_
  rotate_left
  · intro w'
    go_simp
    with_reducible rfl
  rotate_left
  · simp only [Act.put, List.setIfInBounds_toArray, List.set_cons_zero, List.set_cons_succ, i64_w, i32_w]
    rfl
  refine pure_ (i := 7) (N := some 58) (v := ?_) (a' := ?_) #[false, true, true, true, true, true, true, true, false, false, false, false, false, false, false, false, false, false] rfl rfl (any_of HT_.out (by kernel_rfl)) (fun _ _ _ h => h) (Or.inl ⟨by rfl, ?_⟩) ?_ ?_
  rotate_left
  · intro w'
    go_simp
    with_reducible rfl
  rotate_left
  · simp only [Act.put, List.setIfInBounds_toArray, List.set_cons_zero, List.set_cons_succ, i64_w, i32_w]
    rfl
  refine take_ (i := 8) (N := some 59) (v := ?_) (a' := ?_) #[false, true, true, true, true, true, true, true, true, false, false, false, false, false, false, false, false, false] rfl rfl (take_ofW HT_.out HW_.out (by kernel_rfl)) (fun _ _ _ h => h) (Or.inl ⟨by rfl, ?_⟩) hHeld ?_ ?_
  rotate_left
  · rintro w' h1_
    obtain ⟨⟨_, _, _⟩, _, _⟩ := h1_.cells
    go_simp
    with_reducible rfl
  rotate_left
  · simp only [Act.put, List.setIfInBounds_toArray, List.set_cons_zero, List.set_cons_succ, i64_w, i32_w]
    rfl
  refine pure_ (i := 9) (N := some 60) (v := ?_) (a' := ?_) #[false, true, true, true, true, true, true, true, true, true, false, false, false, false, false, false, false, false] rfl rfl (any_of HT_.out (by kernel_rfl)) (fun _ _ _ h => h) (Or.inl ⟨by rfl, ?_⟩) ?_ ?_
  rotate_left
  · intro w'
    go_simp
    with_reducible rfl
  rotate_left
  · simp only [Act.put, List.setIfInBounds_toArray, List.set_cons_zero, List.set_cons_succ, i64_w, i32_w]
    rfl
  refine pure_ (i := 10) (N := some 61) (v := ?_) (a' := ?_) #[false, true, true, true, true, true, true, true, true, true, true, false, false, false, false, false, false, false] rfl rfl (any_of HT_.out (by kernel_rfl)) (fun _ _ _ h => h) (Or.inl ⟨by rfl, ?_⟩) ?_ ?_
  rotate_left
  · intro w'
    go_simp
    with_reducible rfl
  rotate_left
  · simp only [Act.put, List.setIfInBounds_toArray, List.set_cons_zero, List.set_cons_succ, i64_w, i32_w]
    rfl
  refine pure_ (i := 11) (N := some 62) (v := ?_) (a' := ?_) #[false, true, true, true, true, true, true, true, true, true, true, true, false, false, false, false, false, false] rfl rfl (any_of HT_.out (by kernel_rfl)) (fun _ _ _ h => h) (Or.inl ⟨by rfl, ?_⟩) ?_ ?_
  rotate_left
  · intro w'
    go_simp
    with_reducible rfl
  rotate_left
  · simp only [Act.put, List.setIfInBounds_toArray, List.set_cons_zero, List.set_cons_succ, i64_w, i32_w]
    rfl
  refine pure_ (i := 12) (N := some 63) (v := ?_) (a' := ?_) #[false, true, true, true, true, true, true, true, true, true, true, true, true, false, false, false, false, false] rfl rfl (any_of HT_.out (by kernel_rfl)) (fun _ _ _ h => h) (Or.inl ⟨by rfl, ?_⟩) ?_ ?_
  rotate_left
  · intro w'
    go_simp
    with_reducible rfl
  rotate_left
  · simp only [Act.put, List.setIfInBounds_toArray, List.set_cons_zero, List.set_cons_succ, i64_w, i32_w]
    rfl
  refine pure_ (i := 13) (N := some 64) (v := ?_) (a' := ?_) #[false, true, true, true, true, true, true, true, true, true, true, true, true, true, false, false, false, false] rfl rfl (any_of HT_.out (by kernel_rfl)) (fun _ _ _ h => h) (Or.inl ⟨by rfl, ?_⟩) ?_ ?_
  rotate_left
  · intro w'
    go_simp
    with_reducible rfl
  rotate_left
  · simp only [Act.put, List.setIfInBounds_toArray, List.set_cons_zero, List.set_cons_succ, i64_w, i32_w]
    rfl
  refine take_ (i := 14) (N := some 65) (v := ?_) (a' := ?_) #[false, true, true, true, true, true, true, true, true, true, true, true, true, true, true, false, false, false] rfl rfl (take_ofW HT_.out HW_.out (by kernel_rfl)) (fun _ _ _ h => h) (Or.inl ⟨by rfl, ?_⟩) hHeld ?_ ?_
  rotate_left
  · rintro w' h1_
    obtain ⟨⟨_, _, _⟩, _, _⟩ := h1_.cells
    go_simp
    with_reducible rfl
  rotate_left
  · simp only [Act.put, List.setIfInBounds_toArray, List.set_cons_zero, List.set_cons_succ, i64_w, i32_w]
    rfl
  refine pure_ (i := 15) (N := some 66) (v := ?_) (a' := ?_) #[false, true, true, true, true, true, true, true, true, true, true, true, true, true, true, true, false, false] rfl rfl (any_of HT_.out (by kernel_rfl)) (fun _ _ _ h => h) (Or.inl ⟨by rfl, ?_⟩) ?_ ?_
  rotate_left
  · intro w'
    go_simp
    with_reducible rfl
  rotate_left
  · simp only [Act.put, List.setIfInBounds_toArray, List.set_cons_zero, List.set_cons_succ, i64_w, i32_w]
    rfl
  refine one_ (i := 0) (N := some 51) #[true, true, true, true, true, true, true, true, true, true, true, true, true, true, true, true, false, false] rfl rfl (one_of HT_.out (by kernel_rfl)) (by decide) (fun K hK => ?_)
  refine value_ (v := .slice (some ⟨w5.drew.heap.size, 0, none⟩) 0 0) (w1 := w6) (by rfl) rfl ?hrun ?_
  case hrun =>
    rw [← hw6]
    first | rfl | (go_simp; done) | (go_simp; rfl)
  clear hHeld
  refine hK.out _ _ (unhide RA) (fun hHeld => ?_)
  clear hK K
  refine norm_ (a' := ?_) ?_ ?_
  rotate_left
  · show Act.put _ (some 51) _ = _
    simp only [Act.put, List.setIfInBounds_toArray, List.set_cons_zero, List.set_cons_succ, i64_w, i32_w]
    rfl
  refine one_ (i := 16) (N := some 67) #[true, true, true, true, true, true, true, true, true, true, true, true, true, true, true, true, true, false] rfl rfl (one_of HT_.out (by kernel_rfl)) (by decide) (fun K hK => ?_)
  refine Kd.R_append_rows_step (Kd.int .u8) (Rr := (Kd.int .u8).K w6) (w0 := w5.drew) w5.drew.heap.size (by rfl) (.tmp 51) (.tmp 66) 22 5 (.int .u8 0) 1 rfl Try.underlying22 info5 rfl (by decide) (by decide) (.slice (some ⟨w5.drew.heap.size, 0, none⟩) 0 0) [] t A9 tn (c - k1) (fun k => k ≠ g) (fun _ => False) rfl rfl (unhide RE) (unhide C2) (fun x cs h => h) (fun k h => h.elim) (fun k h e => by have := (unhide RA).cells.2.2; omega) (unhide BE) (unhide BE).size (by have := unhide HT4; have := unhide HTN; simp; omega) ?_
  intro v7 w7 hR7 hB7 hg7 hat7
  rw [List.nil_append] at hR7
  obtain ⟨A7, c7, rfl⟩ := Kd.R_slice hR7
  have R7 := hide (Kd.R_lower hR7 (show w.heap.size ≤ w5.drew.heap.size from (unhide K2).1))
  have RD7 : Hid (Rdr w7 g (.slice (some ad) n c) (k2 : Int)) := (unhide R2).below hB7
  have B7 := hide ((unhide B2).trans (hB7.mono (show base ≤ w5.drew.heap.size from Nat.le_of_lt (Nat.lt_of_le_of_lt hb (unhide N2)))))
  have K7 := hide ((unhide K2).trans (KeepBut.of_below hB7 g none) (.inl rfl))
  clear hR7 hB7 hg7 hat7
  clear hHeld
  refine hK.out _ _ (unhide RD7) (fun hHeld => ?_)
  clear hK K
  refine norm_ (a' := ?_) ?_ ?_
  rotate_left
  · show Act.put _ (some 67) _ = _
    simp only [Act.put, List.setIfInBounds_toArray, List.set_cons_zero, List.set_cons_succ, i64_w, i32_w]
    rfl
  refine pure_ (i := 17) (N := some 2) (v := ?_) (a' := ?_) #[true, true, true, true, true, true, true, true, true, true, true, true, true, true, true, true, true, true] rfl rfl (any_of HT_.out (by kernel_rfl)) (fun _ _ _ h => h) (Or.inl ⟨by rfl, ?_⟩) ?_ ?_
  rotate_left
  · intro w'
    go_simp
    with_reducible rfl
  rotate_left
  · simp only [Act.put, List.setIfInBounds_toArray, List.set_cons_zero, List.set_cons_succ, i64_w, i32_w]
    rfl
  refine done_ (done_of HT_.out (by kernel_rfl)) ?_
  clear HT_ HW_ hHeld
  go_wp2
  go_ret
  refine ⟨A7, c7, by rw [unhide HTN]; rfl, by rw [unhide HTN]; exact unhide R7, ?_, unhide B7, unhide K7⟩
  have h9 := unhide RD7
  rw [unhide HK2, unhide HK1, ← unhide HTN] at h9
  exact h9
end Go.Proofs.Ytgoephcembgmcaa.Fr
