import Derived.Test.YtgoephcembgmcaaDoorQ01
import Derived.Test.YtgoephcembgmcaaDoorWGuard
import Derived.Laws.Bits64b
import Derived.Laws.Shifts
set_option linter.unusedSimpArgs false
set_option linter.unusedVariables false
namespace Go.Proofs.YtgoephcembgmcaaDoor.Fr
open Go.RowKit Go.Proofs.YtgoephcembgmcaaDoorW.PrintWords Go.Proofs.YtgoephcembgmcaaDoorW.PrintLast Wk FrM Rg
open WkM (w64)
def T24_1 : Bool × List (List Nat × List Nat) := (true, [([], []), ([0], [0]), ([1], [1]), ([2], [2]), ([3], [3]), ([4], [4]), ([5], [5]), ([6, 5], [5, 6]), ([7, 5], [5, 7]), ([8, 5], [5, 8]), ([5], [5]), ([10, 5], [5, 10]), ([11, 5], [5, 11]), ([12, 5], [5, 12]), ([13, 5], [5, 13]), ([9, 14, 5], [5, 9, 14]), ([5, 15], [5, 15])])
def BT24_1 : List Nat := [0, 1, 3, 7, 15, 31, 63, 127, 255, 511, 63, 1087, 3135, 7231, 15423, 32767, 65535]
theorem tabT24_1 : rtab .any (opsOf Tryd.f37 1) = T24_1 := by kernel_rfl
theorem bitsT24_1 : waitsOk T24_1.2 BT24_1 = true := by kernel_rfl
def T24_6 : Bool × List (List Nat × List Nat) := (true, [([], []), ([0], [0]), ([1], [1]), ([2], [2]), ([], []), ([4], [4]), ([5], [5]), ([6], [6]), ([7], [7]), ([3, 8], [3, 8]), ([9], [9]), ([10, 0, 1, 2, 3, 4, 5, 6, 7, 8, 9, 10], [10])])
def BT24_6 : List Nat := [0, 1, 3, 7, 0, 16, 48, 112, 240, 511, 1023, 2047]
theorem tabT24_6 : rtab .any (opsOf Tryd.f37 6) = T24_6 := by kernel_rfl
theorem bitsT24_6 : waitsOk T24_6.2 BT24_6 = true := by kernel_rfl

set_option maxHeartbeats 1000000 in
set_option maxRecDepth 100000 in
theorem byte_ok (g base : Nat) (ad : Addr) (n c k : Nat) (x : Int) (w : World) (h : Rdr w g (.slice (some ad) n c) (k : Int)) (hk : k < n) (hn : n ≤ 1000000) (hx : w.cell? (ad.add k) = some (.int .u8 x)) (hne : ad.block ≠ g) (hb : base ≤ g) :
    Calls Tryd.prog 37 #[.pointer (some ⟨g, 0, none⟩)] w fun e w' => e = .returned (.int .u8 x) ∧ Rdr w' g (.slice (some ad) n c) ((k + 1 : Nat) : Int) ∧ Below base w w' ∧ KeepBut w w' g none := by
  have hu := Tryd.underlying155
  have d1 : ¬ (n : Int) ≤ (k : Int) := by omega
  have d2 : (k : Int) < (n : Int) := by omega
  have E1 := hide (w64 (k : Int) (by omega) (by omega))
  have NB : Hid ((ad.add k).block ≠ g) := by show (ad.add k).block ≠ g; unfold Addr.add; split <;> exact hne
  have R0 : Hid (Rdr w.drew g (.slice (some ad) n c) (k : Int)) := h
  have HX := hide hx
  clear h hx
  go_enter Tryd.func37, Tryd.ntmps37
  go_wp2
  refine start_ (n := 17) (S := fun w' => Rdr w' g (.slice (some ad) n c) (k : Int)) (ds := []) (bt 17 0) (by kernel_rfl) rfl (by kernel_rfl) (unhide R0) (fun hHeld => ?_)
  refine with_tabW tabT24_1 bitsT24_1 (fun HT_ HW_ => ?_)
  refine run_ [(0, 3), (1, 4), (2, 5)] ?_
  iterate 3 ((first | refine sp_ (v := ?_) (a' := ?_) HT_.out rfl rfl rfl (by kernel_rfl) (fun _ _ _ h => h) ?_ ?_ ?_ | refine sg_ (v := ?_) (a' := ?_) HT_.out rfl rfl (by kernel_rfl) (fun _ _ _ h => h) (by rfl) ?_ ?_ ?_); rotate_left; (· intro w'; go_simp; with_reducible rfl); rotate_left; (· simp only [Act.put, List.setIfInBounds_toArray, List.set_cons_zero, List.set_cons_succ, i64_w, i32_w]; rfl))
  refine rend_ ?_
  refine take_ (i := 3) (N := some 6) (v := ?_) (a' := ?_) (bt 17 15) rfl rfl (take_ofW HT_.out HW_.out (by kernel_rfl)) (fun _ _ _ h => h) (Or.inl ⟨by rfl, ?_⟩) hHeld ?_ ?_
  rotate_left
  · rintro w' h1_
    obtain ⟨⟨_, _, _⟩, _, _⟩ := h1_.cells
    go_simp
    with_reducible rfl
  rotate_left
  · simp only [Act.put, List.setIfInBounds_toArray, List.set_cons_zero, List.set_cons_succ, i64_w, i32_w]
    rfl
  refine run_ [(4, 7), (5, 8), (6, 9), (7, 10), (8, 11)] ?_
  iterate 5 ((first | refine sp_ (v := ?_) (a' := ?_) HT_.out rfl rfl rfl (by kernel_rfl) (fun _ _ _ h => h) ?_ ?_ ?_ | refine sg_ (v := ?_) (a' := ?_) HT_.out rfl rfl (by kernel_rfl) (fun _ _ _ h => h) (by rfl) ?_ ?_ ?_); rotate_left; (· intro w'; go_simp; with_reducible rfl); rotate_left; (· simp only [Act.put, List.setIfInBounds_toArray, List.set_cons_zero, List.set_cons_succ, i64_w, i32_w]; rfl))
  refine rend_ ?_
  refine take_ (i := 9) (N := some 12) (v := ?_) (a' := ?_) (bt 17 1023) rfl rfl (take_ofW HT_.out HW_.out (by kernel_rfl)) (fun _ _ _ h => h) (Or.inl ⟨by rfl, ?_⟩) hHeld ?_ ?_
  rotate_left
  · rintro w' h1_
    obtain ⟨⟨_, _, _⟩, _, _⟩ := h1_.cells
    go_simp
    with_reducible rfl
  rotate_left
  · simp only [Act.put, List.setIfInBounds_toArray, List.set_cons_zero, List.set_cons_succ, i64_w, i32_w]
    rfl
  refine run_ [(10, 13), (11, 14), (12, 15)] ?_
  iterate 3 ((first | refine sp_ (v := ?_) (a' := ?_) HT_.out rfl rfl rfl (by kernel_rfl) (fun _ _ _ h => h) ?_ ?_ ?_ | refine sg_ (v := ?_) (a' := ?_) HT_.out rfl rfl (by kernel_rfl) (fun _ _ _ h => h) (by rfl) ?_ ?_ ?_); rotate_left; (· intro w'; go_simp; with_reducible rfl); rotate_left; (· simp only [Act.put, List.setIfInBounds_toArray, List.set_cons_zero, List.set_cons_succ, i64_w, i32_w]; rfl))
  refine rend_ ?_
  refine take_ (i := 13) (N := some 16) (v := ?_) (a' := ?_) (bt 17 16383) rfl rfl (take_ofW HT_.out HW_.out (by kernel_rfl)) (fun _ _ _ h => h) (Or.inl ⟨by rfl, ?_⟩) hHeld ?_ ?_
  rotate_left
  · rintro w' h1_
    obtain ⟨⟨_, _, _⟩, _, _⟩ := h1_.cells
    go_simp
    with_reducible rfl
  rotate_left
  · simp only [Act.put, List.setIfInBounds_toArray, List.set_cons_zero, List.set_cons_succ, i64_w, i32_w]
    rfl
  refine run_ [(14, 17), (15, 18), (16, 19)] ?_
  iterate 3 ((first | refine sp_ (v := ?_) (a' := ?_) HT_.out rfl rfl rfl (by kernel_rfl) (fun _ _ _ h => h) ?_ ?_ ?_ | refine sg_ (v := ?_) (a' := ?_) HT_.out rfl rfl (by kernel_rfl) (fun _ _ _ h => h) (by rfl) ?_ ?_ ?_); rotate_left; (· intro w'; go_simp; with_reducible rfl); rotate_left; (· simp only [Act.put, List.setIfInBounds_toArray, List.set_cons_zero, List.set_cons_succ, i64_w, i32_w]; rfl))
  refine rend_ ?_
  refine done_ (done_of HT_.out (by kernel_rfl)) ?_
  clear HT_ HW_ hHeld
  obtain ⟨⟨m0, m1, m2⟩, m3, m4⟩ := (unhide R0).cells
  go_wp2
  have R1 : Hid (Rdr (w.setCell ⟨g, 1, none⟩ (.int .i64 ((k : Int) + 1))).drew.drew g (.slice (some ad) n c) ((k : Int) + 1)) := blk_put (unhide R0) 1 _ rfl
  have X1 : Hid ((w.setCell ⟨g, 1, none⟩ (.int .i64 ((k : Int) + 1))).drew.drew.cell? (ad.add k) = some (.int .u8 x)) := (World.cell?_of_block (Below.heap_setCell w ⟨g, 1, none⟩ _ _ (unhide NB))).trans (unhide HX)
  have B1 : Hid (Below base w (w.setCell ⟨g, 1, none⟩ (.int .i64 ((k : Int) + 1))).drew.drew) := below_drew (below_drew ((Below.refl base w).setCell hb _))
  have K1 : Hid (KeepBut w (w.setCell ⟨g, 1, none⟩ (.int .i64 ((k : Int) + 1))).drew.drew g none) := (KeepBut.refl w g none).set_ 1 _
  clear m0 m1 m2 m3 m4
  generalize (w.setCell ⟨g, 1, none⟩ (.int .i64 ((k : Int) + 1))).drew = w5 at R1 X1 B1 K1 ⊢
  have e1 := unhide E1
  have e2 : IntKind.i64.wrap (k : Int) = (k : Int) := (i64_w _).trans e1
  refine start_ (n := 12) (S := fun w' => Rdr w' g (.slice (some ad) n c) ((k : Int) + 1) ∧ w'.cell? (ad.add k) = some (.int .u8 x)) (ds := []) (bt 12 0) (by kernel_rfl) rfl (by kernel_rfl) ⟨unhide R1, unhide X1⟩ (fun hHeld => ?_)
  refine with_tabW tabT24_6 bitsT24_6 (fun HT_ HW_ => ?_)
  refine run_ [(0, 38), (1, 39), (2, 40)] ?_
  iterate 3 ((first | refine sp_ (v := ?_) (a' := ?_) HT_.out rfl rfl rfl (by kernel_rfl) (fun _ _ _ h => h) ?_ ?_ ?_ | refine sg_ (v := ?_) (a' := ?_) HT_.out rfl rfl (by kernel_rfl) (fun _ _ _ h => h) (by rfl) ?_ ?_ ?_); rotate_left; (· intro w'; go_simp; with_reducible rfl); rotate_left; (· simp only [Act.put, List.setIfInBounds_toArray, List.set_cons_zero, List.set_cons_succ, i64_w, i32_w]; rfl))
  refine rend_ ?_
  refine take_ (i := 3) (N := some 41) (v := ?_) (a' := ?_) (bt 12 15) rfl rfl (take_ofW HT_.out HW_.out (by kernel_rfl)) (fun _ _ _ h => h) (Or.inl ⟨by rfl, ?_⟩) hHeld ?_ ?_
  rotate_left
  · rintro w' ⟨h1_, _⟩
    obtain ⟨⟨_, _, _⟩, _, _⟩ := h1_.cells
    go_simp
    with_reducible rfl
  rotate_left
  · simp only [Act.put, List.setIfInBounds_toArray, List.set_cons_zero, List.set_cons_succ, i64_w, i32_w]
    rfl
  refine run_ [(4, 42), (5, 43), (6, 44)] ?_
  iterate 3 ((first | refine sp_ (v := ?_) (a' := ?_) HT_.out rfl rfl rfl (by kernel_rfl) (fun _ _ _ h => h) ?_ ?_ ?_ | refine sg_ (v := ?_) (a' := ?_) HT_.out rfl rfl (by kernel_rfl) (fun _ _ _ h => h) (by rfl) ?_ ?_ ?_); rotate_left; (· intro w'; go_simp; with_reducible rfl); rotate_left; (· simp only [Act.put, List.setIfInBounds_toArray, List.set_cons_zero, List.set_cons_succ, i64_w, i32_w]; rfl))
  refine rend_ ?_
  refine take_ (i := 7) (N := some 45) (v := ?_) (a' := ?_) (bt 12 255) rfl rfl (take_ofW HT_.out HW_.out (by kernel_rfl)) (fun _ _ _ h => h) (Or.inl ⟨by rfl, ?_⟩) hHeld ?_ ?_
  rotate_left
  · rintro w' ⟨h1_, _⟩
    obtain ⟨⟨_, _, _⟩, _, _⟩ := h1_.cells
    go_simp
    with_reducible rfl
  rotate_left
  · simp only [Act.put, List.setIfInBounds_toArray, List.set_cons_zero, List.set_cons_succ, i64_w, i32_w]
    rfl
  refine run_ [(8, 46), (9, 47)] ?_
  iterate 2 ((first | refine sp_ (v := ?_) (a' := ?_) HT_.out rfl rfl rfl (by kernel_rfl) (fun _ _ _ h => h) ?_ ?_ ?_ | refine sg_ (v := ?_) (a' := ?_) HT_.out rfl rfl (by kernel_rfl) (fun _ _ _ h => h) (by rfl) ?_ ?_ ?_); rotate_left; (· intro w'; go_simp; with_reducible rfl); rotate_left; (· simp only [Act.put, List.setIfInBounds_toArray, List.set_cons_zero, List.set_cons_succ, i64_w, i32_w]; rfl))
  refine rend_ ?_
  refine take_ (i := 10) (N := some 48) (v := ?_) (a' := ?_) (bt 12 2047) rfl rfl (take_ofW HT_.out HW_.out (by kernel_rfl)) (fun _ _ _ h => h) (Or.inl ⟨by rfl, ?_⟩) hHeld ?_ ?_
  rotate_left
  · rintro w' ⟨h1_, _⟩
    obtain ⟨⟨_, _, _⟩, _, _⟩ := h1_.cells
    go_simp
    with_reducible rfl
  rotate_left
  · simp only [Act.put, List.setIfInBounds_toArray, List.set_cons_zero, List.set_cons_succ, i64_w, i32_w]
    rfl
  refine run_ [(11, 2)] ?_
  iterate 1 ((first | refine sp_ (v := ?_) (a' := ?_) HT_.out rfl rfl rfl (by kernel_rfl) (fun _ _ _ h => h) ?_ ?_ ?_ | refine sg_ (v := ?_) (a' := ?_) HT_.out rfl rfl (by kernel_rfl) (fun _ _ _ h => h) (by rfl) ?_ ?_ ?_); rotate_left; (· intro w'; go_simp; with_reducible rfl); rotate_left; (· simp only [Act.put, List.setIfInBounds_toArray, List.set_cons_zero, List.set_cons_succ, i64_w, i32_w]; rfl))
  refine rend_ ?_
  refine done_ (done_of HT_.out (by kernel_rfl)) ?_
  clear HT_ HW_ hHeld
  go_wp2
  go_ret
  exact ⟨rfl, unhide R1, unhide B1, unhide K1⟩
end Go.Proofs.YtgoephcembgmcaaDoor.Fr
namespace Go.Proofs.YtgoephcembgmcaaDoor.Fr
open Go.RowKit Go.Proofs.YtgoephcembgmcaaDoorW.PrintWords Go.Proofs.YtgoephcembgmcaaDoorW.PrintLast Wk FrM Rg
def T16_1 : Bool × List (List Nat × List Nat) := (true, [([], []), ([0], [0]), ([1], [1]), ([2], [2]), ([3], [3]), ([4], [4]), ([5], [5]), ([6, 5], [5, 6]), ([7, 5], [5, 7]), ([8, 5], [5, 8]), ([5], [5]), ([10, 5], [5, 10]), ([11, 5], [5, 11]), ([12, 5], [5, 12]), ([13, 5], [5, 13]), ([9, 14, 5], [5, 9, 14]), ([5, 15], [5, 15])])
def BT16_1 : List Nat := [0, 1, 3, 7, 15, 31, 63, 127, 255, 511, 63, 1087, 3135, 7231, 15423, 32767, 65535]
theorem tabT16_1 : rtab .any (opsOf Tryd.f40 1) = T16_1 := by kernel_rfl
theorem bitsT16_1 : waitsOk T16_1.2 BT16_1 = true := by kernel_rfl

set_option maxHeartbeats 1000000 in
set_option maxRecDepth 100000 in
theorem end_ok (g n c : Nat) (A : Option Addr) (w : World) (h : Rdr w g (.slice A n c) (n : Int)) :
    Calls Tryd.prog 40 #[.pointer (some ⟨g, 0, none⟩)] w fun e w' => e = .returned .nilIface ∧ Below w.heap.size w w' := by
  have hu := Tryd.underlying155
  have d1 : ¬ (n : Int) < (n : Int) := by omega
  have R0 : Hid (Rdr w.drew g (.slice A n c) (n : Int)) := h
  have B0 := hide (below_drew (Below.refl w.heap.size w))
  clear h
  go_enter Tryd.func40, Tryd.ntmps40
  go_wp2
  refine start_ (n := 17) (S := fun w' => Rdr w' g (.slice A n c) (n : Int)) (ds := []) (bt 17 0) (by kernel_rfl) rfl (by kernel_rfl) (unhide R0) (fun hHeld => ?_)
  refine with_tabW tabT16_1 bitsT16_1 (fun HT_ HW_ => ?_)
  refine run_ [(0, 3), (1, 4), (2, 5)] ?_
  iterate 3 ((first | refine sp_ (v := ?_) (a' := ?_) HT_.out rfl rfl rfl (by kernel_rfl) (fun _ _ _ h => h) ?_ ?_ ?_ | refine sg_ (v := ?_) (a' := ?_) HT_.out rfl rfl (by kernel_rfl) (fun _ _ _ h => h) (by rfl) ?_ ?_ ?_); rotate_left; (· intro w'; go_simp; with_reducible rfl); rotate_left; (· simp only [Act.put, List.setIfInBounds_toArray, List.set_cons_zero, List.set_cons_succ, i64_w, i32_w]; rfl))
  refine rend_ ?_
  refine take_ (i := 3) (N := some 6) (v := ?_) (a' := ?_) (bt 17 15) rfl rfl (take_ofW HT_.out HW_.out (by kernel_rfl)) (fun _ _ _ h => h) (Or.inl ⟨by rfl, ?_⟩) hHeld ?_ ?_
  rotate_left
  · rintro w' h1_
    obtain ⟨⟨_, _, _⟩, _, _⟩ := h1_.cells
    go_simp
    with_reducible rfl
  rotate_left
  · simp only [Act.put, List.setIfInBounds_toArray, List.set_cons_zero, List.set_cons_succ, i64_w, i32_w]
    rfl
  refine run_ [(4, 7), (5, 8), (6, 9), (7, 10), (8, 11)] ?_
  iterate 5 ((first | refine sp_ (v := ?_) (a' := ?_) HT_.out rfl rfl rfl (by kernel_rfl) (fun _ _ _ h => h) ?_ ?_ ?_ | refine sg_ (v := ?_) (a' := ?_) HT_.out rfl rfl (by kernel_rfl) (fun _ _ _ h => h) (by rfl) ?_ ?_ ?_); rotate_left; (· intro w'; go_simp; with_reducible rfl); rotate_left; (· simp only [Act.put, List.setIfInBounds_toArray, List.set_cons_zero, List.set_cons_succ, i64_w, i32_w]; rfl))
  refine rend_ ?_
  refine take_ (i := 9) (N := some 12) (v := ?_) (a' := ?_) (bt 17 1023) rfl rfl (take_ofW HT_.out HW_.out (by kernel_rfl)) (fun _ _ _ h => h) (Or.inl ⟨by rfl, ?_⟩) hHeld ?_ ?_
  rotate_left
  · rintro w' h1_
    obtain ⟨⟨_, _, _⟩, _, _⟩ := h1_.cells
    go_simp
    with_reducible rfl
  rotate_left
  · simp only [Act.put, List.setIfInBounds_toArray, List.set_cons_zero, List.set_cons_succ, i64_w, i32_w]
    rfl
  refine run_ [(10, 13), (11, 14), (12, 15)] ?_
  iterate 3 ((first | refine sp_ (v := ?_) (a' := ?_) HT_.out rfl rfl rfl (by kernel_rfl) (fun _ _ _ h => h) ?_ ?_ ?_ | refine sg_ (v := ?_) (a' := ?_) HT_.out rfl rfl (by kernel_rfl) (fun _ _ _ h => h) (by rfl) ?_ ?_ ?_); rotate_left; (· intro w'; go_simp; with_reducible rfl); rotate_left; (· simp only [Act.put, List.setIfInBounds_toArray, List.set_cons_zero, List.set_cons_succ, i64_w, i32_w]; rfl))
  refine rend_ ?_
  refine take_ (i := 13) (N := some 16) (v := ?_) (a' := ?_) (bt 17 16383) rfl rfl (take_ofW HT_.out HW_.out (by kernel_rfl)) (fun _ _ _ h => h) (Or.inl ⟨by rfl, ?_⟩) hHeld ?_ ?_
  rotate_left
  · rintro w' h1_
    obtain ⟨⟨_, _, _⟩, _, _⟩ := h1_.cells
    go_simp
    with_reducible rfl
  rotate_left
  · simp only [Act.put, List.setIfInBounds_toArray, List.set_cons_zero, List.set_cons_succ, i64_w, i32_w]
    rfl
  refine run_ [(14, 17), (15, 18), (16, 19)] ?_
  iterate 3 ((first | refine sp_ (v := ?_) (a' := ?_) HT_.out rfl rfl rfl (by kernel_rfl) (fun _ _ _ h => h) ?_ ?_ ?_ | refine sg_ (v := ?_) (a' := ?_) HT_.out rfl rfl (by kernel_rfl) (fun _ _ _ h => h) (by rfl) ?_ ?_ ?_); rotate_left; (· intro w'; go_simp; with_reducible rfl); rotate_left; (· simp only [Act.put, List.setIfInBounds_toArray, List.set_cons_zero, List.set_cons_succ, i64_w, i32_w]; rfl))
  refine rend_ ?_
  refine done_ (done_of HT_.out (by kernel_rfl)) ?_
  clear HT_ HW_ hHeld
  obtain ⟨⟨m0, m1, m2⟩, m3, m4⟩ := (unhide R0).cells
  go_wp2
  go_ret
  exact ⟨rfl, unhide B0⟩
end Go.Proofs.YtgoephcembgmcaaDoor.Fr
namespace Go.Proofs.YtgoephcembgmcaaDoor.Fr
open Go.RowKit Go.Proofs.YtgoephcembgmcaaDoorW.PrintWords Go.Proofs.YtgoephcembgmcaaDoorW.PrintLast Wk FrM Rg
open WkM (w64)

/-! Bits of an int, as the reader of numbers joins them. -/
theorem i64_or_nat (a b : Nat) (ha : a < 4611686018427387904) (hb : b < 4611686018427387904) : bits .or .i64 (a : Int) (b : Int) = ((a ||| b : Nat) : Int) := by
  have hx : a ||| b < 2 ^ 62 := Nat.or_lt_two_pow (by omega) (by omega)
  have h1 : (BitVec.ofInt 64 (a : Int)).toNat = a := by
    rw [BitVec.ofInt_natCast, BitVec.toNat_ofNat]; exact Nat.mod_eq_of_lt (by omega)
  have h2 : (BitVec.ofInt 64 (b : Int)).toNat = b := by
    rw [BitVec.ofInt_natCast, BitVec.toNat_ofNat]; exact Nat.mod_eq_of_lt (by omega)
  show IntKind.i64.wrap ((BitVec.ofInt 64 (a : Int) ||| BitVec.ofInt 64 (b : Int)).toNat : Int) = _
  rw [BitVec.toNat_or, h1, h2, i64_w]
  exact w64 _ (by omega) (by omega)
theorem shl_i64 (x j : Nat) (hj : j ≤ 5) (hx : x ≤ 255) : Op.shift .shl .i64 (x : Int) .i64 ((7 * j : Nat) : Int) = pure (.int .i64 ((x * 128 ^ j : Nat) : Int)) := by
  rw [shift_shl_any _ _ _ _ (by omega), i64_w, Int.toNat_natCast]
  have hb : min (7 * j) IntKind.i64.bits = 7 * j := by
    show min (7 * j) 64 = 7 * j
    omega
  rw [hb]
  have e : (x : Int) * 2 ^ (7 * j) = ((x * 128 ^ j : Nat) : Int) := by
    have : 128 ^ j = 2 ^ (7 * j) := by rw [Nat.pow_mul]
    rw [this]
    push_cast
    rfl
  rw [e]
  have hp : 128 ^ j ≤ 128 ^ 5 := Nat.pow_le_pow_right (by decide) hj
  have hm : x * 128 ^ j ≤ 255 * 128 ^ 5 := Nat.mul_le_mul hx hp
  rw [w64 _ (by omega) (by omega)]
/-- The step of the reader on ints. -/
theorem join_i64 (m j d : Nat) (hj : j ≤ 5) (hd : d ≤ 127) : bits .or .i64 ((m % 128 ^ j : Nat) : Int) ((d * 128 ^ j : Nat) : Int) = ((m % 128 ^ j + d * 128 ^ j : Nat) : Int) := by
  have hp : 128 ^ j ≤ 128 ^ 5 := Nat.pow_le_pow_right (by decide) hj
  have h0 : 0 < 128 ^ j := Nat.pow_pos (by decide)
  have hlt : m % 128 ^ j < 128 ^ j := Nat.mod_lt _ h0
  have hm : d * 128 ^ j ≤ 127 * 128 ^ 5 := Nat.mul_le_mul hd hp
  rw [i64_or_nat _ _ (by omega) (by omega)]
  have e : d * 128 ^ j = d <<< (7 * j) := by rw [Nat.shiftLeft_eq, Nat.pow_mul]
  rw [e, or_step hlt, ← e]
end Go.Proofs.YtgoephcembgmcaaDoor.Fr
namespace Go.Proofs.YtgoephcembgmcaaDoor.Fr
open Go.RowKit Go.Proofs.YtgoephcembgmcaaDoorW.PrintWords Go.Proofs.YtgoephcembgmcaaDoorW.PrintLast Wk FrM Rg
open WkM (w64)

theorem rd_drop {L t : List Int} {i : Nat} {x : Int} (h : L.drop i = x :: t) : rd L (i : Int) = x ∧ i < L.length ∧ L.drop (i + 1) = t := by
  have hl : i < L.length := by
    have := congrArg List.length h
    simp at this
    omega
  rw [List.drop_eq_getElem_cons hl] at h
  injection h with h1 h2
  refine ⟨?_, hl, h2⟩
  unfold rd
  rw [Int.toNat_natCast, List.getD_eq_getElem?_getD, List.getElem?_eq_getElem hl]
  exact h1
theorem and_u8 : ∀ d : Nat, d < 128 → bits .and .u8 ((d + 128 : Nat) : Int) 127 = (d : Int) := by decide +kernel
set_option maxHeartbeats 2000000 in
set_option maxRecDepth 100000 in
theorem num_rd (g base : Nat) (ad : Addr) (n c k m : Nat) (L rest : List Int) (w : World) (h : Rdr w g (.slice (some ad) n c) (k : Int)) (hC : Kd.C (Kd.int .u8) w (some ad) n L) (hL : L.drop k = vnum m ++ rest) (hm : m ≤ 1099511627776) (hn : n ≤ 1000000) (hne : ad.block ≠ g) (hb : base ≤ g) :
    Calls Tryd.prog 33 #[.pointer (some ⟨g, 0, none⟩)] w fun e w' => e = .returned (.int .i64 (m : Int)) ∧ Rdr w' g (.slice (some ad) n c) ((k + (vnum m).length : Nat) : Int) ∧ Below base w w' ∧ KeepBut w w' g none := by
  have hu := Tryd.underlying155
  have HC := hide hC
  have HR := hide h
  have HLL := hide hL
  have HM : Hid (m < 128 ^ (5 + 1)) := by show _ < _; omega
  obtain ⟨⟨m0, m1, m2⟩, m3, m4⟩ := h.cells
  clear h hC hL
  go_enter Tryd.func33, Tryd.ntmps33
  go_wp2
  clear m0 m1 m2 m3 m4
  go_loopg [4, 5] 5 (fun kq v4 v5 wr => ∃ j : Nat, v4 = .int .i64 ((m % 128 ^ j : Nat) : Int) ∧ v5 = .int .i64 ((7 * j : Nat) : Int) ∧ Hid (j + kq = 5) ∧ Hid (Rdr wr g (.slice (some ad) n c) ((k + j : Nat) : Int)) ∧ Hid (L.drop (k + j) = vnum (m / 128 ^ j) ++ rest) ∧ Hid ((vnum m).length = j + (vnum (m / 128 ^ j)).length) ∧ Hid (0 < j → 0 < m / 128 ^ j) ∧ Hid (Below base w wr) ∧ Hid (KeepBut w wr g none))
  case atStart => exact ⟨0, by simp [Nat.mod_one], rfl, Nat.zero_add _, unhide HR, by show _ = _; rw [Nat.pow_zero, Nat.div_one]; exact unhide HLL, by show _ = _; rw [Nat.pow_zero, Nat.div_one, Nat.zero_add], fun h => absurd h (Nat.lt_irrefl 0), Below.refl _ _, KeepBut.refl _ _ _⟩
  case round =>
    obtain ⟨j, rfl, rfl, HJ, HR1, HD, HVL, HP, HB, HK⟩ := hrel
    clear HR HLL
    have hj : j ≤ 5 := by have := unhide HJ; omega
    have hnx := part_next (n := m) (k := j)
    have hps := part_step (n := m) (k := j)
    have hpl := part_last (n := m) (k := j)
    obtain ⟨acc, hacc⟩ : ∃ a, m % 128 ^ j = a := ⟨_, rfl⟩
    obtain ⟨q, hq⟩ : ∃ a, m / 128 ^ j = a := ⟨_, rfl⟩
    rw [hq] at hnx hps hpl
    have HP2 : Hid (0 < j → 0 < q) := by rw [← hq]; exact unhide HP
    have HD2 : Hid (L.drop (k + j) = vnum q ++ rest) := by rw [← hq]; exact unhide HD
    have HV2 : Hid ((vnum m).length = j + (vnum q).length) := by rw [← hq]; exact unhide HVL
    have hjoin := fun d hd => join_i64 m j d hj hd
    rw [hacc] at hjoin hps hpl ⊢
    obtain ⟨sh, hsh⟩ : ∃ s : Int, ((7 * j : Nat) : Int) = s := ⟨_, rfl⟩
    have hshl := fun x hx => shl_i64 x j hj hx
    rw [hsh] at hshl ⊢
    have d42 : ¬ sh = 42 := by omega
    have HSH := hide hsh
    have HNX := hide hnx
    have HPS := hide hps
    have HPL := hide hpl
    have HJO := hide hjoin
    have HSL := hide hshl
    have E7 : Hid (wrap64 (sh + 7) = ((7 * (j + 1) : Nat) : Int)) := by show _ = _; rw [w64 _ (by omega) (by omega)]; omega
    have hqm : q ≤ m := by rw [← hq]; exact Nat.div_le_self _ _
    have DM : ¬ (1099511627776 : Int) < (m : Int) := by omega
    by_cases hq7 : q ≤ 127
    · obtain ⟨hx, hlt, hdr⟩ := rd_drop (by have := unhide HD2; rwa [vnum_small hq7] at this)
      have hnl : L.length = n := (unhide HC).1
      obtain ⟨ad', ha, hcell⟩ := Kd.at_int (unhide HC) ((k + j : Nat) : Int) (by omega) (by omega)
      cases ha
      rw [Int.toNat_natCast, hx] at hcell
      have hbk : (ad.add (k + j)).block = ad.block := by unfold Addr.add; split <;> rfl
      have X1 : Hid (wr.cell? (ad.add (k + j)) = some (.int .u8 ((q : Int)))) := (World.cell?_of_block ((unhide HK).2 _ (World.block_lt_of_cell? w _ hcell) (by rw [hbk]; exact hne) (by simp))).trans hcell
      have KN : Hid (k + j < n) := by show _ < _; omega
      have dx : (q : Int) < 128 := by omega
      have hor := (unhide HJO) q hq7
      rw [unhide HPL] at hor
      have hsl := (unhide HSL) q (by omega)
      obtain ⟨z, hz⟩ : ∃ z, q * 128 ^ j = z := ⟨_, rfl⟩
      rw [hz] at hor hsl
      have VL : Hid ((vnum m).length = j + 1) := by have h1 := unhide HV2; rw [vnum_small hq7] at h1; exact h1
      have HW := hide (w64 (q : Int) (by omega) (by omega))
      have HOR := hide hor
      have HS2 := hide hsl
      have HQ0 : Hid (q = 0 → ¬ 0 < sh) := fun e => by
        have h1 := unhide HP2
        have h2 := unhide HSH
        omega
      clear hx hlt hdr hcell hbk hnl hacc hq hsh hnx hps hpl hjoin hshl hz hq7 hor hsl hqm
      obtain ⟨⟨m0, m1, m2⟩, m3, m4⟩ := (unhide HR1).cells
      go_wp2_with fail
      refine (byte_ok g base ad n c (k + j) (q : Int) _ (unhide HR1) (unhide KN) hn (unhide X1) hne hb).mono ?_
      rintro e w5 ⟨rfl, hR5, hB5, hK5⟩
      have R5 := hide hR5
      have B5 := hide ((unhide HB).trans hB5)
      have K5 := hide ((unhide HK).trans hK5 (.inl rfl))
      clear hR5 hB5 hK5 m0 m1 m2 m3 m4 HR1 HB HK
      obtain ⟨⟨m0, m1, m2⟩, m3, m4⟩ := (unhide R5).cells
      have hor := unhide HOR
      have hsl := unhide HS2
      have HE : Hid (k + (vnum m).length = k + j + 1) := by show _ = _; rw [unhide VL]; omega
      by_cases h0 : q = 0
      · have dsh := unhide HQ0 h0
        subst h0
        have hsl0 : Op.shift .shl .i64 (0 : Int) .i64 sh = pure (.int .i64 (z : Int)) := hsl
        have hw0 : wrap64 (0 : Int) = 0 := unhide HW
        clear hsl
        go_wp2
        go_ret
        exact ⟨rfl, by rw [unhide HE]; exact unhide R5, unhide B5, unhide K5⟩
      · have dq : ¬ (q : Int) = 0 := by omega
        have hwd := unhide HW
        go_wp2
        go_ret
        exact ⟨rfl, by rw [unhide HE]; exact unhide R5, unhide B5, unhide K5⟩
    · have hd127 : q % 128 < 128 := Nat.mod_lt _ (by decide)
      obtain ⟨hx, hlt, hdr⟩ := rd_drop (by have := unhide HD2; rwa [vnum_big hq7, List.cons_append] at this)
      have hnl : L.length = n := (unhide HC).1
      obtain ⟨ad', ha, hcell⟩ := Kd.at_int (unhide HC) ((k + j : Nat) : Int) (by omega) (by omega)
      cases ha
      rw [Int.toNat_natCast, hx] at hcell
      have hbk : (ad.add (k + j)).block = ad.block := by unfold Addr.add; split <;> rfl
      have X1 : Hid (wr.cell? (ad.add (k + j)) = some (.int .u8 (((q % 128 + 128 : Nat) : Int)))) := (World.cell?_of_block ((unhide HK).2 _ (World.block_lt_of_cell? w _ hcell) (by rw [hbk]; exact hne) (by simp))).trans hcell
      have KN : Hid (k + j < n) := by show _ < _; omega
      obtain ⟨d, hd⟩ : ∃ d, q % 128 = d := ⟨_, rfl⟩
      have hps2 := unhide HPS
      rw [hd] at hps2 hd127 X1
      have hand := and_u8 d hd127
      have hor := (unhide HJO) d (by omega)
      rw [hps2] at hor
      have hsl := (unhide HSL) d (by omega)
      have dx0 : ¬ ((d + 128 : Nat) : Int) = 0 := by omega
      have dx1 : ¬ ((d + 128 : Nat) : Int) < 128 := by omega
      have VL : Hid ((vnum m).length = j + 1 + (vnum (m / 128 ^ (j + 1))).length) := by
        have h1 := unhide HV2
        rw [vnum_big hq7, List.length_cons, unhide HNX] at h1
        show _ = _
        omega
      have DR : Hid (L.drop (k + (j + 1)) = vnum (m / 128 ^ (j + 1)) ++ rest) := by rw [← unhide HNX]; exact hdr
      have PP : Hid (0 < j + 1 → 0 < m / 128 ^ (j + 1)) := fun _ => by rw [← unhide HNX]; omega
      have J5 : Hid (j < 5) := by
        show j < 5
        rcases Nat.lt_or_ge j 5 with h1 | h1
        · exact h1
        · have h2 : j = 5 := by omega
          have h3 := unhide HM
          rw [h2] at hq
          rw [← hq] at hq7
          exact absurd (Nat.le_of_lt_succ (Nat.div_lt_of_lt_mul (by rw [Nat.pow_succ] at h3; exact h3))) hq7
      obtain ⟨x, hxx⟩ : ∃ x : Int, ((d + 128 : Nat) : Int) = x := ⟨_, rfl⟩
      obtain ⟨z, hz⟩ : ∃ z, d * 128 ^ j = z := ⟨_, rfl⟩
      obtain ⟨r, hr⟩ : ∃ r, m % 128 ^ (j + 1) = r := ⟨_, rfl⟩
      rw [hxx] at X1 hand dx0 dx1
      rw [hz] at hor hsl
      rw [hr] at hor
      have HW := hide (w64 (d : Int) (by omega) (by omega))
      have HRR := hide hr
      have HOR := hide hor
      have HS2 := hide hsl
      have HAN := hide hand
      clear hx hlt hdr hcell hbk hnl hacc hq hsh hnx hps hpl hjoin hshl hz hq7 hor hsl hqm hps2 hd hd127 hxx hand hr
      obtain ⟨⟨m0, m1, m2⟩, m3, m4⟩ := (unhide HR1).cells
      go_wp2_with fail
      refine (byte_ok g base ad n c (k + j) x _ (unhide HR1) (unhide KN) hn (unhide X1) hne hb).mono ?_
      rintro e w5 ⟨rfl, hR5, hB5, hK5⟩
      have R5 := hide hR5
      have B5 := hide ((unhide HB).trans hB5)
      have K5 := hide ((unhide HK).trans hK5 (.inl rfl))
      clear hR5 hB5 hK5 m0 m1 m2 m3 m4 HR1 HB HK
      obtain ⟨⟨m0, m1, m2⟩, m3, m4⟩ := (unhide R5).cells
      have hor := unhide HOR
      have hsl := unhide HS2
      have hand := unhide HAN
      have hwd := unhide HW
      go_wp2
      clear hwd
      go_roundg (gk - 1)
      case measure => have := unhide HJ; have := unhide J5; omega
      case rel =>
        have h7 := unhide HSH
        exact ⟨j + 1, by rw [unhide HRR], by first | exact congrArg _ (unhide E7) | exact congrArg _ (by omega), by have := unhide HJ; have := unhide J5; show j + 1 + (gk - 1) = 5; omega, unhide R5, unhide DR, unhide VL, unhide PP, unhide B5, unhide K5⟩
end Go.Proofs.YtgoephcembgmcaaDoor.Fr
namespace Go.Proofs.YtgoephcembgmcaaDoor.Fr
open Go.RowKit Go.Proofs.YtgoephcembgmcaaDoorW.PrintWords Go.Proofs.YtgoephcembgmcaaDoorW.PrintLast Wk FrM Rg
open WkM (w64)
theorem Rdr.below {w w1 : World} {g : Nat} {v : Value} {k : Int} (h : Rdr w g v k) (hb : Below w.heap.size w w1) : Rdr w1 g v k := blk_below h hb
theorem Rdr.alloc {w : World} {g : Nat} {v : Value} {k : Int} (h : Rdr w g v k) (o : Obj) : Rdr (w.alloc o) g v k := blk_alloc h o
theorem Rdr.grown {w w1 : World} {g : Nat} {v : Value} {k : Int} {row : Option Nat} (h : Rdr w g v k) (hg : w.grownBy w1 row) (hne : some g ≠ row) : Rdr w1 g v k := blk_grown h hg hne
/-- A row of the call's own, apart from block g. -/
abbrev OwnG (g : Nat) (w : World) (base : Nat) (v : Value) (xs : List Int) : Prop := (Kd.int .u8).R 5 w base (fun k => k ≠ g) v xs
theorem own_emptyG (W : World) (base g : Nat) (h : base ≤ W.heap.size) (hg : g < W.heap.size) : OwnG g (W.alloc (.cells #[] 5)) base (.slice (some ⟨W.heap.size, 0, none⟩) 0 0) [] := by
  have h2 := World.ownsRow_lit (base := base) (e := 5) (size := 1) W #[] 0 h (by simp [maxLen]) (by simp)
  exact Kd.R_of_own (enc := Value.int .u8) (xs := ([] : List Int)) (by simpa [encs] using h2) (fun k hk => by simp [Value.ownBlock] at hk; omega)
/-- A row that is read is as it was where only block g turned. -/
theorem C_keep {w w1 : World} {ad : Addr} {n g : Nat} {L : List Int} (h : Kd.C (Kd.int .u8) w (some ad) n L) (hk : KeepBut w w1 g none) (hne : ad.block ≠ g) : Kd.C (Kd.int .u8) w1 (some ad) n L := Kd.C_keep (0 : Int) h hk (fun ad' e _ => by cases e; exact hne)
def T14_8 : Bool × List (List Nat × List Nat) := (true, [([], []), ([], []), ([1], [1]), ([2], [2]), ([3], [3]), ([4], [4]), ([], []), ([6], [6]), ([7], [7]), ([8], [8]), ([5, 9], [5, 9]), ([0, 10], [0, 10]), ([11], [11])])
def BT14_8 : List Nat := [0, 0, 2, 6, 14, 30, 0, 64, 192, 448, 1022, 2047, 4095]
theorem tabT14_8 : rtab .any (opsOf Tryd.f34 8) = T14_8 := by kernel_rfl
theorem bitsT14_8 : waitsOk T14_8.2 BT14_8 = true := by kernel_rfl
def T14_12 : Bool × List (List Nat × List Nat) := (true, [([], []), ([], []), ([1], [1]), ([2], [2]), ([3], [3]), ([], []), ([5], [5]), ([6], [6]), ([7], [7]), ([], []), ([8, 9], [8, 9]), ([], []), ([11], [11]), ([12], [12]), ([13], [13]), ([4, 10, 14], [4, 10, 14]), ([0, 15], [0, 15]), ([16, 16, 0, 1, 2, 3, 4, 5, 6, 7, 8, 9, 10, 11, 12, 13, 14, 15, 16], [16])])
def BT14_12 : List Nat := [0, 0, 2, 6, 14, 0, 32, 96, 224, 0, 992, 0, 2048, 6144, 14336, 32766, 65535, 131071]
theorem tabT14_12 : rtab .any (opsOf Tryd.f34 12) = T14_12 := by kernel_rfl
theorem bitsT14_12 : waitsOk T14_12.2 BT14_12 = true := by kernel_rfl

set_option maxHeartbeats 2000000 in
set_option maxRecDepth 100000 in
theorem text_rd (g base : Nat) (ad : Addr) (n c k : Nat) (L t rest : List Int) (w : World) (h : Rdr w g (.slice (some ad) n c) (k : Int)) (hC : Kd.C (Kd.int .u8) w (some ad) n L) (hL : L.drop k = vnum t.length ++ (t ++ rest)) (ht : t.length ≤ 4096) (hn : n ≤ 1000000) (hnc : n ≤ c) (hne : ad.block ≠ g) (hb : base ≤ g) (hk : k ≤ n) :
    Calls Tryd.prog 34 #[.pointer (some ⟨g, 0, none⟩)] w fun e w' => ∃ A1 c1, e = .returned (.slice A1 t.length c1) ∧ OwnG g w' w.heap.size (.slice A1 t.length c1) t ∧ Rdr w' g (.slice (some ad) n c) ((k + (vnum t.length).length + t.length : Nat) : Int) ∧ Below base w w' ∧ KeepBut w w' g none := by
  have hu := Tryd.underlying155
  have HC := hide hC
  have HR := hide h
  have HLL := hide hL
  have hLn : L.length = n := hC.1
  obtain ⟨k1, hk1⟩ : ∃ q, q = k + (vnum t.length).length := ⟨_, rfl⟩
  obtain ⟨tn, htn⟩ : ∃ q, q = t.length := ⟨_, rfl⟩
  obtain ⟨k2, hk2⟩ : ∃ q, q = k1 + tn := ⟨_, rfl⟩
  have hlen : L.length - k = (vnum t.length).length + (t.length + rest.length) := by rw [← List.length_drop, hL, List.length_append, List.length_append]
  have E1 : Hid (wrap64 ((k1 : Int) + (tn : Int)) = (k2 : Int)) := by show _ = _; rw [w64 _ (by omega) (by omega)]; omega
  have E2 : Hid (wrap64 ((k2 : Int) - (tn : Int)) = (k1 : Int)) := by show _ = _; rw [w64 _ (by omega) (by omega)]; omega
  obtain ⟨nk, hnk⟩ : ∃ q, q = n - k1 := ⟨_, rfl⟩
  have E3 : Hid (wrap64 ((n : Int) - (k1 : Int)) = (nk : Int)) := by show _ = _; rw [w64 _ (by omega) (by omega)]; omega
  have D3 : Hid (¬ (nk : Int) < (tn : Int)) := by show ¬ _; omega
  have D4 : Hid (¬ (4096 : Int) < (tn : Int)) := by show ¬ _; omega
  obtain ⟨A9, hcut, hcr, hcl⟩ := mid_any (some ad) c L k1 k2 (by omega) (by omega) (by omega)
  have hmid : (L.take k2).drop k1 = t := by
    have e1 : L.drop k1 = t ++ rest := by rw [hk1, ← List.drop_drop, hL, List.drop_left]
    rw [List.drop_take, e1, hk2, Nat.add_sub_cancel_left, htn, List.take_left']
    rfl
  rw [hmid, hLn] at hcut hcr
  rw [hmid] at hcl
  have HCUT : Hid (∀ W : World, (Instr.slice 22 (.slice (some ad) n c) (some (.int .i64 (k1 : Int))) (some (.int .i64 (k2 : Int))) none).run Tryd.prog W = .ok (.slice A9 tn (c - k1)) W) := by rw [htn]; exact hcut
  have HCR : Hid (∀ w : World, Kd.C (Kd.int .u8) w (some ad) n L → Kd.C (Kd.int .u8) w A9 tn t) := by rw [htn]; exact hcr
  have HTN := hide htn
  have HT4 := hide ht
  have HK1 := hide hk1
  have HK2 := hide hk2
  rw [← htn]
  obtain ⟨⟨m0, m1, m2⟩, m3, m4⟩ := h.cells
  clear h hC hL hlen hk1 hk2 hnk hcut hcr hcl hmid hLn ht
  go_enter Tryd.func34, Tryd.ntmps34
  go_wp2_with fail
  refine (num_rd g base ad n c k t.length L (t ++ rest) _ (unhide HR) (unhide HC) (unhide HLL) (by have := unhide HT4; omega) hn hne hb).mono ?_
  rintro e w1 ⟨rfl, hR1, hB1, hK1⟩
  rw [← unhide HK1] at hR1
  rw [← unhide HTN]
  have R1 := hide hR1
  have B1 := hide hB1
  have K1 := hide hK1
  clear hR1 hB1 hK1 m0 m1 m2 m3 m4 htn
  obtain ⟨⟨m0, m1, m2⟩, m3, m4⟩ := (unhide R1).cells
  have d4 := unhide D4
  go_wp2
  clear m0 m1 m2 m3 m4 d4
  have e3 := unhide E3
  have d3 := unhide D3
  refine start_ (n := 13) (S := fun w' => Rdr w' g (.slice (some ad) n c) (k1 : Int)) (ds := []) (bt 13 0) (by kernel_rfl) rfl (by kernel_rfl) (unhide R1) (fun hHeld => ?_)
  refine with_tabW tabT14_8 bitsT14_8 (fun HT_ HW_ => ?_)
  refine run_ [(0, 24), (1, 25), (2, 26), (3, 27)] ?_
  iterate 4 ((first | refine sp_ (v := ?_) (a' := ?_) HT_.out rfl rfl rfl (by kernel_rfl) (fun _ _ _ h => h) ?_ ?_ ?_ | refine sg_ (v := ?_) (a' := ?_) HT_.out rfl rfl (by kernel_rfl) (fun _ _ _ h => h) (by rfl) ?_ ?_ ?_); rotate_left; (· intro w'; go_simp; with_reducible rfl); rotate_left; (· simp only [Act.put, List.setIfInBounds_toArray, List.set_cons_zero, List.set_cons_succ, i64_w, i32_w]; rfl))
  refine rend_ ?_
  refine take_ (i := 4) (N := some 28) (v := ?_) (a' := ?_) (bt 13 31) rfl rfl (take_ofW HT_.out HW_.out (by kernel_rfl)) (fun _ _ _ h => h) (Or.inl ⟨by rfl, ?_⟩) hHeld ?_ ?_
  rotate_left
  · rintro w' h1_
    obtain ⟨⟨_, _, _⟩, _, _⟩ := h1_.cells
    go_simp
    with_reducible rfl
  rotate_left
  · simp only [Act.put, List.setIfInBounds_toArray, List.set_cons_zero, List.set_cons_succ, i64_w, i32_w]
    rfl
  refine run_ [(5, 29), (6, 30), (7, 31), (8, 32)] ?_
  iterate 4 ((first | refine sp_ (v := ?_) (a' := ?_) HT_.out rfl rfl rfl (by kernel_rfl) (fun _ _ _ h => h) ?_ ?_ ?_ | refine sg_ (v := ?_) (a' := ?_) HT_.out rfl rfl (by kernel_rfl) (fun _ _ _ h => h) (by rfl) ?_ ?_ ?_); rotate_left; (· intro w'; go_simp; with_reducible rfl); rotate_left; (· simp only [Act.put, List.setIfInBounds_toArray, List.set_cons_zero, List.set_cons_succ, i64_w, i32_w]; rfl))
  refine rend_ ?_
  refine take_ (i := 9) (N := some 33) (v := ?_) (a' := ?_) (bt 13 1023) rfl rfl (take_ofW HT_.out HW_.out (by kernel_rfl)) (fun _ _ _ h => h) (Or.inl ⟨by rfl, ?_⟩) hHeld ?_ ?_
  rotate_left
  · rintro w' h1_
    obtain ⟨⟨_, _, _⟩, _, _⟩ := h1_.cells
    go_simp
    with_reducible rfl
  rotate_left
  · simp only [Act.put, List.setIfInBounds_toArray, List.set_cons_zero, List.set_cons_succ, i64_w, i32_w]
    rfl
  refine run_ [(10, 34), (11, 35), (12, 23)] ?_
  iterate 3 ((first | refine sp_ (v := ?_) (a' := ?_) HT_.out rfl rfl rfl (by kernel_rfl) (fun _ _ _ h => h) ?_ ?_ ?_ | refine sg_ (v := ?_) (a' := ?_) HT_.out rfl rfl (by kernel_rfl) (fun _ _ _ h => h) (by rfl) ?_ ?_ ?_); rotate_left; (· intro w'; go_simp; with_reducible rfl); rotate_left; (· simp only [Act.put, List.setIfInBounds_toArray, List.set_cons_zero, List.set_cons_succ, i64_w, i32_w]; rfl))
  refine rend_ ?_
  refine done_ (done_of HT_.out (by kernel_rfl)) ?_
  clear HT_ HW_ hHeld
  obtain ⟨⟨m0, m1, m2⟩, m3, m4⟩ := (show Rdr w1.drew g (.slice (some ad) n c) (k1 : Int) from unhide R1).cells
  clear e3
  have e1 := unhide E1
  go_wp2
  clear m0 m1 m2 m3 m4 d3 e1
  have R2 : Hid (Rdr (w1.setCell ⟨g, 1, none⟩ (.int .i64 (k2 : Int))).drew.drew g (.slice (some ad) n c) (k2 : Int)) := blk_put (unhide R1) 1 _ rfl
  have B2 : Hid (Below base w (w1.setCell ⟨g, 1, none⟩ (.int .i64 (k2 : Int))).drew.drew) := below_drew (below_drew ((unhide B1).setCell hb _))
  have K2 : Hid (KeepBut w (w1.setCell ⟨g, 1, none⟩ (.int .i64 (k2 : Int))).drew.drew g none) := (unhide K1).set_ 1 _
  clear R1 B1 K1
  generalize (w1.setCell ⟨g, 1, none⟩ (.int .i64 (k2 : Int))).drew = w5 at R2 B2 K2 ⊢
  have N2 : Hid (g < w5.heap.size) := (unhide R2).cells.2.2
  have C2 : Hid (Kd.C (Kd.int .u8) (w5.drew.alloc (.cells #[] 5)) A9 tn t) := Kd.C_alloc ((unhide HCR) _ (C_keep (unhide HC) (unhide K2) hne)) _
  have RE := hide (own_emptyG w5.drew w5.drew.heap.size g (Nat.le_refl _) (unhide N2))
  have BE := hide (below_alloc (Below.refl w5.drew.heap.size w5.drew) (.cells #[] 5))
  have RA := hide ((unhide R2).alloc (.cells #[] 5))
  obtain ⟨w6, hw6⟩ : ∃ x, w5.drew.alloc (.cells #[] 5) = x := ⟨_, rfl⟩
  rw [hw6] at RE BE RA C2
  have e2 := unhide E2
  have hcut := unhide HCUT
  refine start_ (n := 18) (S := fun w' => Rdr w' g (.slice (some ad) n c) (k2 : Int)) (ds := []) (bt 18 0) (by kernel_rfl) rfl (by kernel_rfl) (unhide R2) (fun hHeld => ?_)
  refine with_tabW tabT14_12 bitsT14_12 (fun HT_ HW_ => ?_)
  refine run_ [(1, 52), (2, 53), (3, 54)] ?_
  iterate 3 ((first | refine sp_ (v := ?_) (a' := ?_) HT_.out rfl rfl rfl (by kernel_rfl) (fun _ _ _ h => h) ?_ ?_ ?_ | refine sg_ (v := ?_) (a' := ?_) HT_.out rfl rfl (by kernel_rfl) (fun _ _ _ h => h) (by rfl) ?_ ?_ ?_); rotate_left; (· intro w'; go_simp; with_reducible rfl); rotate_left; (· simp only [Act.put, List.setIfInBounds_toArray, List.set_cons_zero, List.set_cons_succ, i64_w, i32_w]; rfl))
  refine rend_ ?_
  refine take_ (i := 4) (N := some 55) (v := ?_) (a' := ?_) (bt 18 30) rfl rfl (take_ofW HT_.out HW_.out (by kernel_rfl)) (fun _ _ _ h => h) (Or.inl ⟨by rfl, ?_⟩) hHeld ?_ ?_
  rotate_left
  · rintro w' h1_
    obtain ⟨⟨_, _, _⟩, _, _⟩ := h1_.cells
    go_simp
    with_reducible rfl
  rotate_left
  · simp only [Act.put, List.setIfInBounds_toArray, List.set_cons_zero, List.set_cons_succ, i64_w, i32_w]
    rfl
  refine run_ [(5, 56), (6, 57), (7, 58)] ?_
  iterate 3 ((first | refine sp_ (v := ?_) (a' := ?_) HT_.out rfl rfl rfl (by kernel_rfl) (fun _ _ _ h => h) ?_ ?_ ?_ | refine sg_ (v := ?_) (a' := ?_) HT_.out rfl rfl (by kernel_rfl) (fun _ _ _ h => h) (by rfl) ?_ ?_ ?_); rotate_left; (· intro w'; go_simp; with_reducible rfl); rotate_left; (· simp only [Act.put, List.setIfInBounds_toArray, List.set_cons_zero, List.set_cons_succ, i64_w, i32_w]; rfl))
  refine rend_ ?_
  refine take_ (i := 8) (N := some 59) (v := ?_) (a' := ?_) (bt 18 510) rfl rfl (take_ofW HT_.out HW_.out (by kernel_rfl)) (fun _ _ _ h => h) (Or.inl ⟨by rfl, ?_⟩) hHeld ?_ ?_
  rotate_left
  · rintro w' h1_
    obtain ⟨⟨_, _, _⟩, _, _⟩ := h1_.cells
    go_simp
    with_reducible rfl
  rotate_left
  · simp only [Act.put, List.setIfInBounds_toArray, List.set_cons_zero, List.set_cons_succ, i64_w, i32_w]
    rfl
  refine run_ [(9, 60), (10, 61), (11, 62), (12, 63), (13, 64)] ?_
  iterate 5 ((first | refine sp_ (v := ?_) (a' := ?_) HT_.out rfl rfl rfl (by kernel_rfl) (fun _ _ _ h => h) ?_ ?_ ?_ | refine sg_ (v := ?_) (a' := ?_) HT_.out rfl rfl (by kernel_rfl) (fun _ _ _ h => h) (by rfl) ?_ ?_ ?_); rotate_left; (· intro w'; go_simp; with_reducible rfl); rotate_left; (· simp only [Act.put, List.setIfInBounds_toArray, List.set_cons_zero, List.set_cons_succ, i64_w, i32_w]; rfl))
  refine rend_ ?_
  refine take_ (i := 14) (N := some 65) (v := ?_) (a' := ?_) (bt 18 32766) rfl rfl (take_ofW HT_.out HW_.out (by kernel_rfl)) (fun _ _ _ h => h) (Or.inl ⟨by rfl, ?_⟩) hHeld ?_ ?_
  rotate_left
  · rintro w' h1_
    obtain ⟨⟨_, _, _⟩, _, _⟩ := h1_.cells
    go_simp
    with_reducible rfl
  rotate_left
  · simp only [Act.put, List.setIfInBounds_toArray, List.set_cons_zero, List.set_cons_succ, i64_w, i32_w]
    rfl
  refine run_ [(15, 66)] ?_
  iterate 1 ((first | refine sp_ (v := ?_) (a' := ?_) HT_.out rfl rfl rfl (by kernel_rfl) (fun _ _ _ h => h) ?_ ?_ ?_ | refine sg_ (v := ?_) (a' := ?_) HT_.out rfl rfl (by kernel_rfl) (fun _ _ _ h => h) (by rfl) ?_ ?_ ?_); rotate_left; (· intro w'; go_simp; with_reducible rfl); rotate_left; (· simp only [Act.put, List.setIfInBounds_toArray, List.set_cons_zero, List.set_cons_succ, i64_w, i32_w]; rfl))
  refine rend_ ?_
  refine one_ (i := 0) (N := some 51) (bt 18 65535) rfl rfl (one_of HT_.out (by kernel_rfl)) (by decide) (fun K hK => ?_)
  refine value_ (v := .slice (some ⟨w5.drew.heap.size, 0, none⟩) 0 0) (w1 := w6) (by rfl) rfl ?hrun ?_
  case hrun =>
    rw [← hw6]
    first | rfl | (go_simp; done) | (go_simp; rfl)
  clear hHeld
  refine hK.out _ _ (unhide RA) (fun hHeld => ?_)
  clear hK K
  refine norm_ (a' := ?_) ?_ ?_
  rotate_left
  · show Act.put _ (some 51) _ = _
    simp only [Act.put, List.setIfInBounds_toArray, List.set_cons_zero, List.set_cons_succ, i64_w, i32_w]
    rfl
  refine one_ (i := 16) (N := some 67) (bt 18 131071) rfl rfl (one_of HT_.out (by kernel_rfl)) (by decide) (fun K hK => ?_)
  refine Kd.R_append_rows_step (Kd.int .u8) (Rr := (Kd.int .u8).K w6) (w0 := w5.drew) w5.drew.heap.size (by rfl) (.tmp 51) (.tmp 66) 22 5 (.int .u8 0) 1 rfl Tryd.underlying22 info5 rfl (by decide) (by decide) (.slice (some ⟨w5.drew.heap.size, 0, none⟩) 0 0) [] t A9 tn (c - k1) (fun k => k ≠ g) (fun _ => False) rfl rfl (unhide RE) (unhide C2) (fun x cs h => h) (fun k h => h.elim) (fun k h e => by have := (unhide RA).cells.2.2; omega) (unhide BE) (unhide BE).size (by have := unhide HT4; have := unhide HTN; simp; omega) ?_
  intro v7 w7 hR7 hB7 hg7 hat7
  rw [List.nil_append] at hR7
  obtain ⟨A7, c7, rfl⟩ := Kd.R_slice hR7
  have R7 := hide (Kd.R_lower hR7 (show w.heap.size ≤ w5.drew.heap.size from (unhide K2).1))
  have RD7 : Hid (Rdr w7 g (.slice (some ad) n c) (k2 : Int)) := (unhide R2).below hB7
  have B7 := hide ((unhide B2).trans (hB7.mono (show base ≤ w5.drew.heap.size from Nat.le_of_lt (Nat.lt_of_le_of_lt hb (unhide N2)))))
  have K7 := hide ((unhide K2).trans (KeepBut.of_below hB7 g none) (.inl rfl))
  clear hR7 hB7 hg7 hat7
  clear hHeld
  refine hK.out _ _ (unhide RD7) (fun hHeld => ?_)
  clear hK K
  refine norm_ (a' := ?_) ?_ ?_
  rotate_left
  · show Act.put _ (some 67) _ = _
    simp only [Act.put, List.setIfInBounds_toArray, List.set_cons_zero, List.set_cons_succ, i64_w, i32_w]
    rfl
  refine run_ [(17, 2)] ?_
  iterate 1 ((first | refine sp_ (v := ?_) (a' := ?_) HT_.out rfl rfl rfl (by kernel_rfl) (fun _ _ _ h => h) ?_ ?_ ?_ | refine sg_ (v := ?_) (a' := ?_) HT_.out rfl rfl (by kernel_rfl) (fun _ _ _ h => h) (by rfl) ?_ ?_ ?_); rotate_left; (· intro w'; go_simp; with_reducible rfl); rotate_left; (· simp only [Act.put, List.setIfInBounds_toArray, List.set_cons_zero, List.set_cons_succ, i64_w, i32_w]; rfl))
  refine rend_ ?_
  refine done_ (done_of HT_.out (by kernel_rfl)) ?_
  clear HT_ HW_ hHeld
  go_wp2
  go_ret
  refine ⟨A7, c7, by rw [unhide HTN]; rfl, by rw [unhide HTN]; exact unhide R7, ?_, unhide B7, unhide K7⟩
  have h9 := unhide RD7
  rw [unhide HK2, unhide HK1, ← unhide HTN] at h9
  exact h9
end Go.Proofs.YtgoephcembgmcaaDoor.Fr
namespace Go.Proofs.YtgoephcembgmcaaDoor.Fr
open Go.RowKit Go.Proofs.YtgoephcembgmcaaDoorW.PrintWords Go.Proofs.YtgoephcembgmcaaDoorW.PrintLast Wk FrM Rg
open WkM (w64)
/-- A Fault lies in block f. -/
def Flt (w : World) (f : Nat) (a n : Int) : Prop := w.heap[f]? = some (.cells #[.int .i64 a, .int .i64 n] 98 (0, 0))
/-- The error that is that Fault. -/
abbrev fe (f : Nat) : Value := .iface 95 (.pointer (some ⟨f, 0, none⟩))
/-- A reader lies in block g with which something went wrong. -/
def RdrE (w : World) (g : Nat) (v : Value) (k : Int) (f : Nat) : Prop := w.heap[g]? = some (.cells #[v, .int .i64 k, fe f] 155 (0, 0))
theorem RdrE.cells {w : World} {g f : Nat} {v : Value} {k : Int} (h : RdrE w g v k f) :
    (w.cell? ⟨g, 0, none⟩ = some v ∧ w.cell? ⟨g, 1, none⟩ = some (.int .i64 k) ∧ w.cell? ⟨g, 2, none⟩ = some (fe f)) ∧ w.frozen? ⟨g, 1, none⟩ = false ∧ g < w.heap.size :=
  ⟨⟨(blk_cell h 0).trans rfl, (blk_cell h 1).trans rfl, (blk_cell h 2).trans rfl⟩, blk_frozen h 1, blk_lt h⟩
theorem Rdr.frozen2 {w : World} {g : Nat} {v : Value} {k : Int} (h : Rdr w g v k) : w.frozen? ⟨g, 2, none⟩ = false := blk_frozen h 2
set_option maxRecDepth 100000 in
theorem fail_ok (g base : Nat) (v : Value) (k a n : Int) (w : World) (h : Rdr w g v k) (hb : base ≤ g) :
    Calls Tryd.prog 71 #[.pointer (some ⟨g, 0, none⟩), .int .i64 a, .int .i64 n] w fun e w' => e = .returned (.tuple #[]) ∧ RdrE w' g v k w.heap.size ∧ Flt w' w.heap.size a n ∧ Below base w w' ∧ KeepBut w w' g none := by
  have hu := Tryd.underlying155
  have hgl := h.cells.2.2
  have R0 := hide h
  obtain ⟨⟨m0, m1, m2⟩, m3, m4⟩ := h.cells
  have n5 := h.frozen2
  clear h
  go_enter Tryd.func71, Tryd.ntmps71
  go_wp2
  go_end0
  have r1 : RdrE (w.setCell ⟨g, 2, none⟩ (fe w.heap.size)) g v k w.heap.size := blk_put (unhide R0) 2 _ rfl
  have f1 : Flt ((w.setCell ⟨g, 2, none⟩ (fe w.heap.size)).alloc (.cells #[.int .i64 a, .int .i64 n] 98)) w.heap.size a n := by
    have h := blk_new (w.setCell ⟨g, 2, none⟩ (fe w.heap.size)) (.cells #[.int .i64 a, .int .i64 n] 98)
    rw [World.size_setCell] at h
    exact h
  have b1 : Below base w (w.setCell ⟨g, 2, none⟩ (fe w.heap.size)) := (Below.refl base w).setCell hb _
  exact ⟨rfl, blk_alloc r1 _, f1, b1.alloc (by rw [World.size_setCell]; omega) _, ((KeepBut.refl w g none).set_ 2 _).trans (KeepBut.of_below (below_alloc (Below.refl _ _) _) g none) (.inl rfl)⟩
def T37_1 : Bool × List (List Nat × List Nat) := (true, [([], []), ([0], [0]), ([1], [1]), ([2], [2]), ([3], [3]), ([4], [4]), ([5], [5]), ([6, 5], [5, 6]), ([7, 5], [5, 7]), ([8, 5], [5, 8]), ([5], [5]), ([10, 5], [5, 10]), ([11, 5], [5, 11]), ([12, 5], [5, 12]), ([13, 5], [5, 13]), ([9, 14, 5], [5, 9, 14]), ([5, 15], [5, 15])])
def BT37_1 : List Nat := [0, 1, 3, 7, 15, 31, 63, 127, 255, 511, 63, 1087, 3135, 7231, 15423, 32767, 65535]
theorem tabT37_1 : rtab .any (opsOf Tryd.f37 1) = T37_1 := by kernel_rfl
theorem bitsT37_1 : waitsOk T37_1.2 BT37_1 = true := by kernel_rfl

set_option maxHeartbeats 2000000 in
set_option maxRecDepth 100000 in
theorem byte_end (g base n c : Nat) (A : Option Addr) (w : World) (h : Rdr w g (.slice A n c) (n : Int)) (hb : base ≤ g) :
    Calls Tryd.prog 37 #[.pointer (some ⟨g, 0, none⟩)] w fun e w' => e = .returned (.int .u8 0) ∧ RdrE w' g (.slice A n c) (n : Int) w.heap.size ∧ Flt w' w.heap.size (n : Int) 30 ∧ Below base w w' ∧ KeepBut w w' g none := by
  have hu := Tryd.underlying155
  have d1 : (n : Int) ≤ (n : Int) := by omega
  have R0 : Hid (Rdr w.drew g (.slice A n c) (n : Int)) := h
  clear h
  go_enter Tryd.func37, Tryd.ntmps37
  go_wp2
  refine start_ (n := 17) (S := fun w' => Rdr w' g (.slice A n c) (n : Int)) (ds := []) (bt 17 0) (by kernel_rfl) rfl (by kernel_rfl) (unhide R0) (fun hHeld => ?_)
  refine with_tabW tabT37_1 bitsT37_1 (fun HT_ HW_ => ?_)
  refine run_ [(0, 3), (1, 4), (2, 5)] ?_
  iterate 3 ((first | refine sp_ (v := ?_) (a' := ?_) HT_.out rfl rfl rfl (by kernel_rfl) (fun _ _ _ h => h) ?_ ?_ ?_ | refine sg_ (v := ?_) (a' := ?_) HT_.out rfl rfl (by kernel_rfl) (fun _ _ _ h => h) (by rfl) ?_ ?_ ?_); rotate_left; (· intro w'; go_simp; with_reducible rfl); rotate_left; (· simp only [Act.put, List.setIfInBounds_toArray, List.set_cons_zero, List.set_cons_succ, i64_w, i32_w]; rfl))
  refine rend_ ?_
  refine take_ (i := 3) (N := some 6) (v := ?_) (a' := ?_) (bt 17 15) rfl rfl (take_ofW HT_.out HW_.out (by kernel_rfl)) (fun _ _ _ h => h) (Or.inl ⟨by rfl, ?_⟩) hHeld ?_ ?_
  rotate_left
  · rintro w' h1_
    obtain ⟨⟨_, _, _⟩, _, _⟩ := h1_.cells
    go_simp
    with_reducible rfl
  rotate_left
  · simp only [Act.put, List.setIfInBounds_toArray, List.set_cons_zero, List.set_cons_succ, i64_w, i32_w]
    rfl
  refine run_ [(4, 7), (5, 8), (6, 9), (7, 10), (8, 11)] ?_
  iterate 5 ((first | refine sp_ (v := ?_) (a' := ?_) HT_.out rfl rfl rfl (by kernel_rfl) (fun _ _ _ h => h) ?_ ?_ ?_ | refine sg_ (v := ?_) (a' := ?_) HT_.out rfl rfl (by kernel_rfl) (fun _ _ _ h => h) (by rfl) ?_ ?_ ?_); rotate_left; (· intro w'; go_simp; with_reducible rfl); rotate_left; (· simp only [Act.put, List.setIfInBounds_toArray, List.set_cons_zero, List.set_cons_succ, i64_w, i32_w]; rfl))
  refine rend_ ?_
  refine take_ (i := 9) (N := some 12) (v := ?_) (a' := ?_) (bt 17 1023) rfl rfl (take_ofW HT_.out HW_.out (by kernel_rfl)) (fun _ _ _ h => h) (Or.inl ⟨by rfl, ?_⟩) hHeld ?_ ?_
  rotate_left
  · rintro w' h1_
    obtain ⟨⟨_, _, _⟩, _, _⟩ := h1_.cells
    go_simp
    with_reducible rfl
  rotate_left
  · simp only [Act.put, List.setIfInBounds_toArray, List.set_cons_zero, List.set_cons_succ, i64_w, i32_w]
    rfl
  refine run_ [(10, 13), (11, 14), (12, 15)] ?_
  iterate 3 ((first | refine sp_ (v := ?_) (a' := ?_) HT_.out rfl rfl rfl (by kernel_rfl) (fun _ _ _ h => h) ?_ ?_ ?_ | refine sg_ (v := ?_) (a' := ?_) HT_.out rfl rfl (by kernel_rfl) (fun _ _ _ h => h) (by rfl) ?_ ?_ ?_); rotate_left; (· intro w'; go_simp; with_reducible rfl); rotate_left; (· simp only [Act.put, List.setIfInBounds_toArray, List.set_cons_zero, List.set_cons_succ, i64_w, i32_w]; rfl))
  refine rend_ ?_
  refine take_ (i := 13) (N := some 16) (v := ?_) (a' := ?_) (bt 17 16383) rfl rfl (take_ofW HT_.out HW_.out (by kernel_rfl)) (fun _ _ _ h => h) (Or.inl ⟨by rfl, ?_⟩) hHeld ?_ ?_
  rotate_left
  · rintro w' h1_
    obtain ⟨⟨_, _, _⟩, _, _⟩ := h1_.cells
    go_simp
    with_reducible rfl
  rotate_left
  · simp only [Act.put, List.setIfInBounds_toArray, List.set_cons_zero, List.set_cons_succ, i64_w, i32_w]
    rfl
  refine run_ [(14, 17), (15, 18), (16, 19)] ?_
  iterate 3 ((first | refine sp_ (v := ?_) (a' := ?_) HT_.out rfl rfl rfl (by kernel_rfl) (fun _ _ _ h => h) ?_ ?_ ?_ | refine sg_ (v := ?_) (a' := ?_) HT_.out rfl rfl (by kernel_rfl) (fun _ _ _ h => h) (by rfl) ?_ ?_ ?_); rotate_left; (· intro w'; go_simp; with_reducible rfl); rotate_left; (· simp only [Act.put, List.setIfInBounds_toArray, List.set_cons_zero, List.set_cons_succ, i64_w, i32_w]; rfl))
  refine rend_ ?_
  refine done_ (done_of HT_.out (by kernel_rfl)) ?_
  clear HT_ HW_ hHeld
  obtain ⟨⟨m0, m1, m2⟩, m3, m4⟩ := (unhide R0).cells
  go_wp2_with fail
  clear m0 m1 m2 m3 m4
  refine (fail_ok g base (.slice A n c) (n : Int) (n : Int) 30 _ (unhide R0) hb).mono ?_
  rintro e w1 ⟨rfl, hE, hF, hB, hK⟩
  obtain ⟨⟨m0, m1, m2⟩, m3, m4⟩ := hE.cells
  have HE := hide hE
  have HF := hide hF
  have HB := hide hB
  have HK := hide hK
  clear hE hF hB hK
  go_wp2
  go_ret
  exact ⟨rfl, unhide HE, unhide HF, (below_drew (Below.refl base w)).trans (unhide HB), unhide HK⟩
/-- A reader with which something went wrong reads no number. -/
theorem num_err (g f : Nat) (v : Value) (k : Int) (w : World) (h : RdrE w g v k f) :
    Calls Tryd.prog 33 #[.pointer (some ⟨g, 0, none⟩)] w fun e w' => e = .returned (.int .i64 0) ∧ w = w' := by
  have hu := Tryd.underlying155
  obtain ⟨⟨m0, m1, m2⟩, m3, m4⟩ := h.cells
  clear h
  go_enter Tryd.func33, Tryd.ntmps33
  go_wp2
  refine wp_loop_rounds 1 ?_
  rw [rounds_succ]
  go_wp2
  go_ret
  exact ⟨rfl, rfl⟩
theorem err_err (g f : Nat) (v : Value) (k : Int) (w : World) (h : RdrE w g v k f) : Calls Tryd.prog 35 #[.pointer (some ⟨g, 0, none⟩)] w fun e w' => e = .returned (fe f) ∧ w = w' := by
  have hu := Tryd.underlying155
  obtain ⟨⟨_, _, _⟩, _, _⟩ := h.cells
  clear h
  go_enter Tryd.func35, Tryd.ntmps35
  go_wp2
  go_ret
  exact ⟨rfl, rfl⟩
end Go.Proofs.YtgoephcembgmcaaDoor.Fr
namespace Go.Proofs.YtgoephcembgmcaaDoor.Fr
open Go.RowKit Go.Proofs.YtgoephcembgmcaaDoorW.PrintWords Go.Proofs.YtgoephcembgmcaaDoorW.PrintLast Wk FrM Rg
open WkM (w64)
/-- Bytes that are a number's beginning, not all of it: each has its first bit. -/
def Part (q : List Int) : Prop := q.length ≤ 5 ∧ ∀ x ∈ q, 128 ≤ x ∧ x ≤ 255
theorem part_vnum : ∀ (j n : Nat) (q r : List Int), n < 128 ^ (j + 1) → vnum n = q ++ r → r ≠ [] → q.length ≤ j ∧ ∀ x ∈ q, 128 ≤ x ∧ x ≤ 255
  | j, n, [], r, _, _, _ => ⟨Nat.zero_le _, fun x hx => by cases hx⟩
  | j, n, y :: q, r, h, he, hr => by
    by_cases hn : n ≤ 127
    · rw [vnum_small hn, List.cons_append] at he
      injection he with _ h2
      have h3 := congrArg List.length h2
      simp only [List.length_nil, List.length_append] at h3
      exact absurd (List.eq_nil_of_length_eq_zero (by omega)) hr
    · rw [vnum_big hn, List.cons_append] at he
      injection he with h1 h2
      match j, h with
      | 0, h => simp at h; omega
      | j + 1, h =>
        obtain ⟨h4, h5⟩ := part_vnum j (n / 128) q r (by rw [Nat.pow_succ] at h; exact Nat.div_lt_of_lt_mul (by rw [Nat.mul_comm]; exact h)) h2 hr
        refine ⟨by rw [List.length_cons]; omega, fun x hx => ?_⟩
        rcases List.mem_cons.1 hx with hx | hx
        · rw [hx, ← h1]; omega
        · exact h5 x hx
set_option maxHeartbeats 2000000 in
set_option maxRecDepth 100000 in
theorem num_end (g base : Nat) (A : Option Addr) (n c k : Nat) (L q : List Int) (w : World) (h : Rdr w g (.slice A n c) (k : Int)) (hC : Kd.C (Kd.int .u8) w A n L) (hL : L.drop k = q) (hq : Part q) (hk : k ≤ n) (hn : n ≤ 1000000) (hne : ∀ ad, A = some ad → 0 < n → ad.block ≠ g) (hb : base ≤ g) :
    Calls Tryd.prog 33 #[.pointer (some ⟨g, 0, none⟩)] w fun e w' => e = .returned (.int .i64 0) ∧ (∃ f, RdrE w' g (.slice A n c) (n : Int) f ∧ Flt w' f (n : Int) 30 ∧ w.heap.size ≤ f) ∧ Below base w w' ∧ KeepBut w w' g none := by
  have hu := Tryd.underlying155
  have HC := hide hC
  have HR := hide h
  have HLL := hide hL
  have HQ := hide hq
  have HNE := hide hne
  have hql : q.length = n - k := by rw [← hL, List.length_drop, hC.1]
  have HQL : Hid (k + q.length = n) := by show _ = _; omega
  obtain ⟨⟨m0, m1, m2⟩, m3, m4⟩ := h.cells
  clear h hC hL hq hql hne
  go_enter Tryd.func33, Tryd.ntmps33
  go_wp2
  clear m0 m1 m2 m3 m4
  go_loopg [4, 5] (q.length + 1) (fun kq v4 v5 wr => ∃ (j : Nat) (y : Int), v4 = .int .i64 y ∧ v5 = .int .i64 ((7 * j : Nat) : Int) ∧ Hid (Below base w wr) ∧ Hid (KeepBut w wr g none) ∧
    ((Hid (j + kq = q.length + 1 ∧ j ≤ q.length) ∧ Hid (Rdr wr g (.slice A n c) ((k + j : Nat) : Int))) ∨ ∃ f, Hid (RdrE wr g (.slice A n c) (n : Int) f ∧ Flt wr f (n : Int) 30 ∧ w.heap.size ≤ f)))
  case atStart => exact ⟨0, 0, rfl, rfl, Below.refl _ _, KeepBut.refl _ _ _, .inl ⟨⟨Nat.zero_add _, Nat.zero_le _⟩, unhide HR⟩⟩
  case round =>
    obtain ⟨j, y, rfl, rfl, HB, HK, ⟨HJ, HR1⟩ | ⟨f, HE⟩⟩ := hrel
    · clear HR
      have hj := unhide HJ
      have hq5 := (unhide HQ).1
      have hshl := fun x hx => shl_i64 x j (by omega) hx
      obtain ⟨sh, hsh⟩ : ∃ s : Int, ((7 * j : Nat) : Int) = s := ⟨_, rfl⟩
      rw [hsh] at hshl ⊢
      have d42 : ¬ sh = 42 := by omega
      have E7 : Hid (wrap64 (sh + 7) = ((7 * (j + 1) : Nat) : Int)) := by show _ = _; rw [w64 _ (by omega) (by omega)]; omega
      have HSH := hide hsh
      by_cases hlt : j < q.length
      · have hxq : q[j]'hlt ∈ q := List.getElem_mem hlt
        have hx1 := (unhide HQ).2 _ hxq
        obtain ⟨d, hd⟩ : ∃ d : Nat, q[j]'hlt = ((d + 128 : Nat) : Int) := ⟨(q[j]'hlt - 128).toNat, by omega⟩
        rw [hd] at hx1
        have hd2 : d < 128 := by omega
        have hkn := unhide HQL
        obtain ⟨ad, hA, hcell⟩ := Kd.at_int (unhide HC) ((k + j : Nat) : Int) (by omega) (by omega)
        subst hA
        rw [Int.toNat_natCast] at hcell
        have hrd : rd L ((k + j : Nat) : Int) = ((d + 128 : Nat) : Int) := by
          rw [← hd]
          unfold rd
          rw [Int.toNat_natCast, List.getD_eq_getElem?_getD, ← List.getElem?_drop, unhide HLL, List.getElem?_eq_getElem hlt]
          rfl
        rw [hrd] at hcell
        have hnead := unhide HNE ad rfl (by omega)
        have hbk : (ad.add (k + j)).block = ad.block := by unfold Addr.add; split <;> rfl
        have X1 : Hid (wr.cell? (ad.add (k + j)) = some (.int .u8 (((d + 128 : Nat) : Int)))) := (World.cell?_of_block ((unhide HK).2 _ (World.block_lt_of_cell? w _ hcell) (by rw [hbk]; exact hnead) (by simp))).trans hcell
        have KN : Hid (k + j < n) := by show _ < _; omega
        have hand := and_u8 d hd2
        have hsl := hshl d (by omega)
        obtain ⟨z, hz⟩ : ∃ z, d * 128 ^ j = z := ⟨_, rfl⟩
        rw [hz] at hsl
        obtain ⟨x, hxx⟩ : ∃ x : Int, ((d + 128 : Nat) : Int) = x := ⟨_, rfl⟩
        rw [hxx] at X1 hand
        have dx0 : ¬ x = 0 := by omega
        have dx1 : ¬ x < 128 := by omega
        have HW := hide (w64 (d : Int) (by omega) (by omega))
        have HS2 := hide hsl
        have HAN := hide hand
        have HLT := hide hlt
        have HNA := hide hnead
        clear hxq hx1 hd hkn hcell hrd hbk hand hsl hz hxx hshl hsh hj hq5 hlt hnead
        obtain ⟨⟨m0, m1, m2⟩, m3, m4⟩ := (unhide HR1).cells
        go_wp2_with fail
        refine (byte_ok g base ad n c (k + j) x _ (unhide HR1) (unhide KN) hn (unhide X1) (unhide HNA) hb).mono ?_
        rintro e w5 ⟨rfl, hR5, hB5, hK5⟩
        have R5 := hide hR5
        have B5 := hide ((unhide HB).trans hB5)
        have K5 := hide ((unhide HK).trans hK5 (.inl rfl))
        clear hR5 hB5 hK5 m0 m1 m2 m3 m4 HR1 HB HK
        obtain ⟨⟨m0, m1, m2⟩, m3, m4⟩ := (unhide R5).cells
        have hsl := unhide HS2
        have hand := unhide HAN
        have hwd := unhide HW
        go_wp2
        clear hwd
        go_roundg (gk - 1)
        case measure => have := unhide HJ; have := unhide HLT; omega
        case rel =>
          have h7 := unhide HSH
          have h8 := unhide HJ
          have h9 := unhide HLT
          exact ⟨j + 1, _, rfl, by first | exact congrArg _ (unhide E7) | exact congrArg _ (by omega), unhide B5, unhide K5, .inl ⟨by show j + 1 + (gk - 1) = _ ∧ _; omega, unhide R5⟩⟩
      · have hje : k + j = n := by have := unhide HQL; omega
        rw [hje] at HR1
        clear hj hq5 hlt hshl hsh
        obtain ⟨⟨m0, m1, m2⟩, m3, m4⟩ := (unhide HR1).cells
        go_wp2_with fail
        refine (byte_end g base n c A _ (unhide HR1) hb).mono ?_
        rintro e w5 ⟨rfl, hE5, hF5, hB5, hK5⟩
        have E5 : Hid (RdrE w5 g (.slice A n c) (n : Int) wr.heap.size ∧ Flt w5 wr.heap.size (n : Int) 30 ∧ w.heap.size ≤ wr.heap.size) := ⟨hE5, hF5, (unhide HK).1⟩
        have B5 := hide ((unhide HB).trans hB5)
        have K5 := hide ((unhide HK).trans hK5 (.inl rfl))
        clear hE5 hF5 hB5 hK5 m0 m1 m2 m3 m4 HR1 HB HK
        obtain ⟨⟨m0, m1, m2⟩, m3, m4⟩ := (unhide E5).1.cells
        go_wp2
        go_roundg 0
        case measure => have := unhide HJ; omega
        case rel =>
          have h7 := unhide HSH
          exact ⟨j + 1, _, rfl, by first | exact congrArg _ (unhide E7) | exact congrArg _ (by omega), unhide B5, unhide K5, .inr ⟨_, unhide E5⟩⟩
    · obtain ⟨⟨m0, m1, m2⟩, m3, m4⟩ := (unhide HE).1.cells
      go_wp2
      go_ret
      exact ⟨rfl, ⟨f, unhide HE⟩, unhide HB, unhide HK⟩
end Go.Proofs.YtgoephcembgmcaaDoor.Fr
namespace Go.Proofs.YtgoephcembgmcaaDoor.Fr
open Go.RowKit Go.Proofs.YtgoephcembgmcaaDoorW.PrintWords Go.Proofs.YtgoephcembgmcaaDoorW.PrintLast Wk FrM Rg
open WkM (w64)
theorem Frm.keep {w w1 : World} {g g' : Nat} {k s : Int} {v : Value} (h : Frm w g k s v) (hk : KeepBut w w1 g' none) (hne : g ≠ g') : Frm w1 g k s v := hk.blk h hne (by simp)
theorem Frm.below {w w1 : World} {g : Nat} {k s : Int} {v : Value} (h : Frm w g k s v) (hb : Below w.heap.size w w1) : Frm w1 g k s v := blk_below h hb
theorem and_8k : ∀ k : Nat, k < 32 → bits .and .i64 ((8 * k : Nat) : Int) 7 = 0 := by decide +kernel
def T68_12 : Bool × List (List Nat × List Nat) := (true, [([], []), ([], []), ([1], [1]), ([], []), ([0, 2, 0], [0]), ([2, 4, 0, 1, 2, 4], [2]), ([3, 5, 0, 1, 2, 3, 4, 5], [3]), ([6, 0, 1, 2, 3, 4, 5, 6], [])])
def BT68_12 : List Nat := [0, 0, 2, 0, 7, 23, 63, 127]
theorem tabT68_12 : rtab .any (opsOf Tryd.f68 12) = T68_12 := by kernel_rfl
theorem bitsT68_12 : waitsOk T68_12.2 BT68_12 = true := by kernel_rfl

set_option maxHeartbeats 2000000 in
set_option maxRecDepth 100000 in
theorem head_ok (ad : Addr) (n c m k : Nat) (L rest : List Int) (w : World) (hC : Kd.C (Kd.int .u8) w (some ad) n L) (hL : L = ((8 * k : Nat) : Int) :: (vnum m ++ rest)) (hk : 1 ≤ k ∧ k ≤ 31) (hm : m ≤ 16384) (hn : n ≤ 1000000) :
    Calls Tryd.prog 68 #[.slice (some ad) n c] w fun e w' => e = .returned (.tuple #[.agg #[.int .i64 (k : Int), .int .i64 0, .slice none 0 0], .int .i64 ((1 + (vnum m).length : Nat) : Int), .int .i64 (m : Int), .nilIface]) ∧ Below w.heap.size w w' := by
  have hu := Tryd.underlying51
  have HC := hide hC
  have HLn := hide hC.1
  have hn1 : 0 < n := by rw [← hC.1, hL]; simp
  have hadl : Hid (ad.block < w.heap.size) := by
    obtain ⟨ad', ha, hc⟩ := Kd.at_int hC 0 (by omega) (by omega)
    cases ha
    have := World.block_lt_of_cell? w _ hc
    show ad.block < _
    simpa [Addr.add] using this
  obtain ⟨k8, hk8⟩ : ∃ q : Nat, q = 8 * k := ⟨_, rfl⟩
  rw [← hk8] at hL
  have hand : bits .and .i64 (k8 : Int) 7 = 0 := by rw [hk8]; exact and_8k k (by omega)
  have hdv : (k8 : Int) / 8 = (k : Int) := by omega
  have hwk : wrap64 (k8 : Int) = (k8 : Int) := w64 _ (by omega) (by omega)
  have hk0 : ¬ (k : Int) = 0 := by omega
  obtain ⟨k1, hk1⟩ : ∃ k, k = 1 + (vnum m).length := ⟨_, rfl⟩
  rw [← hk1]
  have HK1 := hide hk1
  clear hk1
  have HL := hide hL
  clear hC hL hk hk8
  go_enter Tryd.func68, Tryd.ntmps68
  go_wp2_with fail
  have f0 : Frm (w.alloc (.cells #[.int .i64 0, .int .i64 0, .slice none 0 0] 51)) w.heap.size 0 0 (.slice none 0 0) := blk_new _ _
  have b0 : Below w.heap.size w (w.alloc (.cells #[.int .i64 0, .int .i64 0, .slice none 0 0] 51)) := below_alloc (Below.refl _ _) _
  have c0 := Kd.C_below (unhide HC) b0
  generalize w.alloc (.cells #[.int .i64 0, .int .i64 0, .slice none 0 0] 51) = w1 at f0 b0 c0 ⊢
  refine (read_any (some ad) n c _).mono ?_
  rintro e w2 ⟨rfl, hr2, hb2⟩
  have N2 : Hid (w.heap.size < w1.heap.size) := blk_lt f0
  have F2 := hide (f0.below hb2)
  have B2 := hide (below_step b0 hb2)
  have C2 := hide (Kd.C_below c0 hb2)
  obtain ⟨g, hg⟩ : ∃ g, g = w1.heap.size := ⟨_, rfl⟩
  rw [← hg] at hr2 N2 ⊢
  have R2 := hide hr2
  have NE : Hid (ad.block ≠ g) := by have := unhide hadl; have := unhide N2; show ad.block ≠ _; omega
  clear f0 b0 c0 hr2 hb2 hg
  go_wp2_with fail
  have hx : w2.cell? (ad.add 0) = some (.int .u8 (k8 : Int)) := by
    obtain ⟨ad', ha, hc⟩ := Kd.at_int (unhide C2) 0 (by omega) (by omega)
    cases ha
    rw [unhide HL] at hc
    exact hc
  refine (byte_ok g w.heap.size ad n c 0 (k8 : Int) _ (unhide R2) hn1 hn hx (unhide NE) (Nat.le_of_lt (unhide N2))).mono ?_
  rintro e w3 ⟨rfl, hr3, hb3, hk3⟩
  have F3 := hide ((unhide F2).keep hk3 (by have := unhide N2; omega))
  have B3 := hide ((unhide B2).trans hb3)
  have C3 := hide (Kd.C_keep (0 : Int) (unhide C2) hk3 (fun ad' e _ => by cases e; exact unhide NE))
  have R3 := hide hr3
  clear hx hr3 hb3 hk3 R2 F2 B2 C2
  go_wp2_with fail
  have F4 : Hid (Frm (w3.alloc (.cells #[.int .i64 (k : Int), .int .i64 0, .slice none 0 0] 51)) w.heap.size 0 0 (.slice none 0 0)) := blk_alloc (unhide F3) _
  have X4 : Hid (Frm (w3.alloc (.cells #[.int .i64 (k : Int), .int .i64 0, .slice none 0 0] 51)) w3.heap.size (k : Int) 0 (.slice none 0 0)) := blk_new _ _
  have R4 : Hid (Rdr (w3.alloc (.cells #[.int .i64 (k : Int), .int .i64 0, .slice none 0 0] 51)) g (.slice (some ad) n c) ((1 : Nat) : Int)) := blk_alloc (unhide R3) _
  have C4 : Hid (Kd.C (Kd.int .u8) (w3.alloc (.cells #[.int .i64 (k : Int), .int .i64 0, .slice none 0 0] 51)) (some ad) n L) := Kd.C_alloc (unhide C3) _
  have B4 : Hid (Below w.heap.size w (w3.alloc (.cells #[.int .i64 (k : Int), .int .i64 0, .slice none 0 0] 51))) := below_alloc (unhide B3) _
  have N4 : Hid (g < w3.heap.size) := (unhide R3).cells.2.2
  obtain ⟨gx, hgx⟩ : ∃ g, g = w3.heap.size := ⟨_, rfl⟩
  rw [← hgx] at X4 N4 ⊢
  generalize w3.alloc (.cells #[.int .i64 (k : Int), .int .i64 0, .slice none 0 0] 51) = w4 at F4 X4 R4 C4 B4 ⊢
  clear F3 B3 C3 R3 hgx
  refine (err_ok g (.slice (some ad) n c) ((1 : Nat) : Int) _ (unhide R4)).mono ?_
  rintro e w' ⟨rfl, rfl⟩
  obtain ⟨⟨x0, x1, x2⟩, ⟨x3, x4, x5⟩, x6⟩ := (unhide X4).cells
  go_wp2_with fail
  clear x0 x1 x2 x3 x4 x5 x6
  refine (num_rd g w.heap.size ad n c 1 m L rest _ (unhide R4) (unhide C4) (by rw [unhide HL]; rfl) (by omega) hn (unhide NE) (Nat.le_of_lt (unhide N2))).mono ?_
  rintro e w5 ⟨rfl, hr5, hb5, hk5⟩
  have F5 := hide ((unhide F4).keep hk5 (by have := unhide N2; omega))
  have X5 := hide ((unhide X4).keep hk5 (by have := unhide N4; omega))
  have B5 := hide ((unhide B4).trans hb5)
  rw [← unhide HK1] at hr5
  have R5 := hide hr5
  have HM := hide hm
  have d16 : ¬ (16384 : Int) < (m : Int) := by omega
  clear hr5 hb5 hk5 F4 X4 B4 R4 C4 hm
  go_wp2_with fail
  refine (err_ok g (.slice (some ad) n c) (k1 : Int) _ (unhide R5)).mono ?_
  rintro e w' ⟨rfl, rfl⟩
  go_wp2
  refine start_ (n := 8) (S := fun w' => Frm w' gx (k : Int) 0 (.slice none 0 0)) (ds := [4]) (bt 8 0) (by kernel_rfl) rfl (by kernel_rfl) (unhide X5) (fun hHeld => ?_)
  refine with_tabW tabT68_12 bitsT68_12 (fun HT_ HW_ => ?_)
  refine take_ (i := 0) (N := some 50) (v := ?_) (a' := ?_) (bt 8 1) rfl rfl (take_ofW HT_.out HW_.out (by kernel_rfl)) (fun _ _ _ h => h) (Or.inl ⟨by rfl, ?_⟩) hHeld ?_ ?_
  rotate_left
  · rintro w' h1_
    obtain ⟨⟨_, _, _⟩, _, _⟩ := h1_.cells
    go_simp
    with_reducible rfl
  rotate_left
  · simp only [Act.put, List.setIfInBounds_toArray, List.set_cons_zero, List.set_cons_succ, i64_w, i32_w]
    rfl
  refine run_ [(1, 51), (3, 53)] ?_
  iterate 2 ((first | refine sp_ (v := ?_) (a' := ?_) HT_.out rfl rfl rfl (by kernel_rfl) (fun _ _ _ h => h) ?_ ?_ ?_ | refine sg_ (v := ?_) (a' := ?_) HT_.out rfl rfl (by kernel_rfl) (fun _ _ _ h => h) (by rfl) ?_ ?_ ?_); rotate_left; (· intro w'; go_simp; with_reducible rfl); rotate_left; (· simp only [Act.put, List.setIfInBounds_toArray, List.set_cons_zero, List.set_cons_succ, i64_w, i32_w]; rfl))
  refine rend_ ?_
  refine one_ (i := 2) (N := some 52) (bt 8 15) rfl rfl (one_of HT_.out (by kernel_rfl)) (by decide) (fun K hK => ?_)
  refine goes_ Tryd.func32 (by kernel_rfl) rfl #[.pointer (some ⟨g, 0, none⟩)] (by rfl) rfl rfl (by (try simp only [List.map_toArray, List.map_cons, List.map_nil]); first | done | rfl) ?_
  refine (at_ok g (.slice (some ad) n c) (k1 : Int) w5.drew (show Rdr w5.drew g _ _ from unhide R5)).mono ?_
  rintro e w' ⟨rfl, rfl⟩
  refine ⟨_, rfl, ?_⟩
  clear hHeld
  refine hK.out _ _ (unhide X5) (fun hHeld => ?_)
  clear hK K
  refine norm_ (a' := ?_) ?_ ?_
  rotate_left
  · show Act.put _ (some 52) _ = _
    simp only [Act.put, List.setIfInBounds_toArray, List.set_cons_zero, List.set_cons_succ, i64_w, i32_w]
    rfl
  refine last_ (i := 4) (N := none) (bt 8 31) rfl rfl (one_of HT_.out (by kernel_rfl)) (by decide) (fun K hK => ?_)
  obtain ⟨⟨f0, f1, f2⟩, ⟨f3, f4, f5⟩, f6⟩ := (unhide F5).cells
  refine skip_ (w1 := ?w12) (by rfl) rfl ?hrun ?_
  case hrun =>
    go_simp
    rfl
  refine hK.out _ _ ?_
  clear hK K
  refine run_ [(5, 3), (6, 4), (7, 5)] ?_
  iterate 3 ((first | refine sp_ (v := ?_) (a' := ?_) HT_.out rfl rfl rfl (by kernel_rfl) (fun _ _ _ h => h) ?_ ?_ ?_ | refine sg_ (v := ?_) (a' := ?_) HT_.out rfl rfl (by kernel_rfl) (fun _ _ _ h => h) (by rfl) ?_ ?_ ?_); rotate_left; (· intro w'; go_simp; with_reducible rfl); rotate_left; (· simp only [Act.put, List.setIfInBounds_toArray, List.set_cons_zero, List.set_cons_succ, i64_w, i32_w]; rfl))
  refine rend_ ?_
  refine done_ (done_of HT_.out (by kernel_rfl)) ?_
  clear HT_ HW_; (try clear hHeld)
  go_wp2
  have F9 : Frm (((w5.setCell ⟨w.heap.size, 0, none⟩ (.int .i64 (k : Int))).setCell ⟨w.heap.size, 1, none⟩ (.int .i64 0)).setCell ⟨w.heap.size, 2, none⟩ (.slice none 0 0)).drew w.heap.size (k : Int) 0 (.slice none 0 0) := blk_put (blk_put (blk_put (unhide F5) 0 _ rfl) 1 _ rfl) 2 _ rfl
  have B9 : Below w.heap.size w (((w5.setCell ⟨w.heap.size, 0, none⟩ (.int .i64 (k : Int))).setCell ⟨w.heap.size, 1, none⟩ (.int .i64 0)).setCell ⟨w.heap.size, 2, none⟩ (.slice none 0 0)).drew := below_drew (below_set (below_set (below_set (unhide B5) (Nat.le_refl _)) (Nat.le_refl _)) (Nat.le_refl _))
  clear f0 f1 f2 f3 f4 f5 f6
  generalize (((w5.setCell ⟨w.heap.size, 0, none⟩ (.int .i64 (k : Int))).setCell ⟨w.heap.size, 1, none⟩ (.int .i64 0)).setCell ⟨w.heap.size, 2, none⟩ (.slice none 0 0)).drew = w9 at F9 B9 ⊢
  obtain ⟨⟨f0, f1, f2⟩, _, _⟩ := F9.cells
  refine bodyPost_ret (v := .tuple #[.agg #[.int .i64 (k : Int), .int .i64 0, .slice none 0 0], .int .i64 (k1 : Int), .int .i64 (m : Int), .nilIface]) (by simp [results, Tryd.results68, go_sem, f0, f1, f2, hu]) rfl ⟨rfl, B9⟩
end Go.Proofs.YtgoephcembgmcaaDoor.Fr
namespace Go.Proofs.YtgoephcembgmcaaDoor.Fr
open Go.RowKit Go.Proofs.YtgoephcembgmcaaDoorW.PrintWords Go.Proofs.YtgoephcembgmcaaDoorW.PrintLast Wk FrM Rg
open WkM (w64)
theorem Flt.below {w w1 : World} {f : Nat} {a n : Int} (h : Flt w f a n) (hb : Below w.heap.size w w1) : Flt w1 f a n := blk_below h hb
theorem Flt.keep {w w1 : World} {f g : Nat} {a n : Int} (h : Flt w f a n) (hk : KeepBut w w1 g none) (hne : f ≠ g) : Flt w1 f a n := hk.blk h hne (by simp)
theorem Flt.far {w : World} {f : Nat} {a n : Int} (h : Flt w f a n) {p : Addr} (hp : f ≠ p.block) (u : Value) : Flt (w.setCell p u) f a n := blk_far h hp u
/-- What Head answers with an error. -/
abbrev headErr (f : Nat) : Value := .tuple #[.agg #[.int .i64 0, .int .i64 0, .slice none 0 0], .int .i64 0, .int .i64 0, fe f]
set_option maxHeartbeats 2000000 in
set_option maxRecDepth 100000 in
theorem head_nil (A : Option Addr) (c : Nat) (w : World) :
    Calls Tryd.prog 68 #[.slice A 0 c] w fun e w' => (∃ f, e = .returned (headErr f) ∧ Flt w' f 0 30 ∧ w.heap.size ≤ f) ∧ Below w.heap.size w w' := by
  have hu := Tryd.underlying51
  have hand : bits .and .i64 0 7 = 0 := by decide +kernel
  go_enter Tryd.func68, Tryd.ntmps68
  go_wp2_with fail
  have f0 : Frm (w.alloc (.cells #[.int .i64 0, .int .i64 0, .slice none 0 0] 51)) w.heap.size 0 0 (.slice none 0 0) := blk_new _ _
  have b0 : Below w.heap.size w (w.alloc (.cells #[.int .i64 0, .int .i64 0, .slice none 0 0] 51)) := below_alloc (Below.refl _ _) _
  generalize w.alloc (.cells #[.int .i64 0, .int .i64 0, .slice none 0 0] 51) = w1 at f0 b0 ⊢
  refine (read_any A 0 c _).mono ?_
  rintro e w2 ⟨rfl, hr2, hb2⟩
  have N2 : Hid (w.heap.size < w1.heap.size) := blk_lt f0
  have F2 := hide (f0.below hb2)
  have B2 := hide (below_step b0 hb2)
  obtain ⟨g, hg⟩ : ∃ g, g = w1.heap.size := ⟨_, rfl⟩
  rw [← hg] at hr2 N2 ⊢
  have R2 := hide hr2
  have G2 : Hid (g < w2.heap.size) := hr2.cells.2.2
  clear f0 b0 hr2 hb2 hg
  go_wp2_with fail
  refine (byte_end g w.heap.size 0 c A _ (unhide R2) (Nat.le_of_lt (unhide N2))).mono ?_
  rintro e w3 ⟨rfl, hE3, hF3, hb3, hk3⟩
  have F3 := hide ((unhide F2).keep hk3 (by have := unhide N2; omega))
  have B3 := hide ((unhide B2).trans hb3)
  have E3 := hide hE3
  have T3 : Hid (Flt w3 w2.heap.size 0 30) := hF3
  have S3 : Hid (w2.heap.size < w3.heap.size) := blk_lt hF3
  clear hE3 hF3 hb3 hk3 R2 F2 B2
  go_wp2_with fail
  have F4 : Hid (Frm (w3.alloc (.cells #[.int .i64 0, .int .i64 0, .slice none 0 0] 51)) w.heap.size 0 0 (.slice none 0 0)) := blk_alloc (unhide F3) _
  have X4 : Hid (Frm (w3.alloc (.cells #[.int .i64 0, .int .i64 0, .slice none 0 0] 51)) w3.heap.size 0 0 (.slice none 0 0)) := blk_new _ _
  have E4 : Hid (RdrE (w3.alloc (.cells #[.int .i64 0, .int .i64 0, .slice none 0 0] 51)) g (.slice A 0 c) ((0 : Nat) : Int) w2.heap.size) := blk_alloc (unhide E3) _
  have T4 : Hid (Flt (w3.alloc (.cells #[.int .i64 0, .int .i64 0, .slice none 0 0] 51)) w2.heap.size 0 30) := blk_alloc (unhide T3) _
  have B4 : Hid (Below w.heap.size w (w3.alloc (.cells #[.int .i64 0, .int .i64 0, .slice none 0 0] 51))) := below_alloc (unhide B3) _
  generalize w3.alloc (.cells #[.int .i64 0, .int .i64 0, .slice none 0 0] 51) = w4 at F4 X4 E4 T4 B4 ⊢
  clear F3 B3 E3 T3
  refine (err_err g w2.heap.size (.slice A 0 c) ((0 : Nat) : Int) _ (unhide E4)).mono ?_
  rintro e w' ⟨rfl, rfl⟩
  obtain ⟨⟨x0, x1, x2⟩, ⟨x3, x4, x5⟩, x6⟩ := (unhide X4).cells
  go_wp2_with fail
  clear x0 x1 x2 x3 x4 x5 x6
  refine (num_err g w2.heap.size (.slice A 0 c) ((0 : Nat) : Int) _ (unhide E4)).mono ?_
  rintro e w' ⟨rfl, rfl⟩
  go_wp2_with fail
  refine (err_err g w2.heap.size (.slice A 0 c) ((0 : Nat) : Int) _ (unhide E4)).mono ?_
  rintro e w' ⟨rfl, rfl⟩
  obtain ⟨⟨f0, f1, f2⟩, ⟨f3, f4, f5⟩, f6⟩ := (unhide F4).cells
  go_wp2
  have NF : Hid (w.heap.size < w2.heap.size) := Nat.lt_of_lt_of_le (unhide N2) (show g ≤ w2.heap.size from Nat.le_of_lt (unhide G2))
  have F9 : Frm (((w4.setCell ⟨w.heap.size, 0, none⟩ (.int .i64 0)).setCell ⟨w.heap.size, 1, none⟩ (.int .i64 0)).setCell ⟨w.heap.size, 2, none⟩ (.slice none 0 0)) w.heap.size 0 0 (.slice none 0 0) := blk_put (blk_put (blk_put (unhide F4) 0 _ rfl) 1 _ rfl) 2 _ rfl
  have B9 : Below w.heap.size w (((w4.setCell ⟨w.heap.size, 0, none⟩ (.int .i64 0)).setCell ⟨w.heap.size, 1, none⟩ (.int .i64 0)).setCell ⟨w.heap.size, 2, none⟩ (.slice none 0 0)) := below_set (below_set (below_set (unhide B4) (Nat.le_refl _)) (Nat.le_refl _)) (Nat.le_refl _)
  have T9 : Flt (((w4.setCell ⟨w.heap.size, 0, none⟩ (.int .i64 0)).setCell ⟨w.heap.size, 1, none⟩ (.int .i64 0)).setCell ⟨w.heap.size, 2, none⟩ (.slice none 0 0)) w2.heap.size 0 30 := (((unhide T4).far (by have := unhide NF; simp; omega) _).far (by have := unhide NF; simp; omega) _).far (by have := unhide NF; simp; omega) _
  clear f0 f1 f2 f3 f4 f5 f6
  generalize ((w4.setCell ⟨w.heap.size, 0, none⟩ (.int .i64 0)).setCell ⟨w.heap.size, 1, none⟩ (.int .i64 0)).setCell ⟨w.heap.size, 2, none⟩ (.slice none 0 0) = w9 at F9 B9 T9 ⊢
  obtain ⟨⟨f0, f1, f2⟩, _, _⟩ := F9.cells
  refine bodyPost_ret (v := headErr w2.heap.size) (by simp [results, Tryd.results68, go_sem, f0, f1, f2, hu]) rfl ⟨⟨w2.heap.size, rfl, T9, Nat.le_of_lt (unhide NF)⟩, B9⟩
set_option maxHeartbeats 2000000 in
set_option maxRecDepth 100000 in
theorem head_part (ad : Addr) (n c k : Nat) (L q : List Int) (w : World) (hC : Kd.C (Kd.int .u8) w (some ad) n L) (hL : L = ((8 * k : Nat) : Int) :: q) (hk : 1 ≤ k ∧ k ≤ 31) (hq : Part q) :
    Calls Tryd.prog 68 #[.slice (some ad) n c] w fun e w' => (∃ f, e = .returned (headErr f) ∧ Flt w' f (n : Int) 30 ∧ w.heap.size ≤ f) ∧ Below w.heap.size w w' := by
  have hu := Tryd.underlying51
  have HC := hide hC
  have hn6 : n = 1 + q.length := by rw [← hC.1, hL, List.length_cons]; omega
  have HN6 := hide hn6
  have hn1 : 0 < n := by omega
  have hn : n ≤ 1000000 := by have := hq.1; omega
  have hadl : Hid (ad.block < w.heap.size) := by
    obtain ⟨ad', ha, hc⟩ := Kd.at_int hC 0 (by omega) (by omega)
    cases ha
    have := World.block_lt_of_cell? w _ hc
    show ad.block < _
    simpa [Addr.add] using this
  obtain ⟨k8, hk8⟩ : ∃ q : Nat, q = 8 * k := ⟨_, rfl⟩
  rw [← hk8] at hL
  have hand : bits .and .i64 (k8 : Int) 7 = 0 := by rw [hk8]; exact and_8k k (by omega)
  have hdv : (k8 : Int) / 8 = (k : Int) := by omega
  have hwk : wrap64 (k8 : Int) = (k8 : Int) := w64 _ (by omega) (by omega)
  have hk0 : ¬ (k : Int) = 0 := by omega
  have HL := hide hL
  have HQ := hide hq
  clear hC hL hk hk8 hq hn6
  go_enter Tryd.func68, Tryd.ntmps68
  go_wp2_with fail
  have f0 : Frm (w.alloc (.cells #[.int .i64 0, .int .i64 0, .slice none 0 0] 51)) w.heap.size 0 0 (.slice none 0 0) := blk_new _ _
  have b0 : Below w.heap.size w (w.alloc (.cells #[.int .i64 0, .int .i64 0, .slice none 0 0] 51)) := below_alloc (Below.refl _ _) _
  have c0 := Kd.C_below (unhide HC) b0
  generalize w.alloc (.cells #[.int .i64 0, .int .i64 0, .slice none 0 0] 51) = w1 at f0 b0 c0 ⊢
  refine (read_any (some ad) n c _).mono ?_
  rintro e w2 ⟨rfl, hr2, hb2⟩
  have N2 : Hid (w.heap.size < w1.heap.size) := blk_lt f0
  have F2 := hide (f0.below hb2)
  have B2 := hide (below_step b0 hb2)
  have C2 := hide (Kd.C_below c0 hb2)
  obtain ⟨g, hg⟩ : ∃ g, g = w1.heap.size := ⟨_, rfl⟩
  rw [← hg] at hr2 N2 ⊢
  have R2 := hide hr2
  have NE : Hid (ad.block ≠ g) := by have := unhide hadl; have := unhide N2; show ad.block ≠ _; omega
  clear f0 b0 c0 hr2 hb2 hg
  go_wp2_with fail
  have hx : w2.cell? (ad.add 0) = some (.int .u8 (k8 : Int)) := by
    obtain ⟨ad', ha, hc⟩ := Kd.at_int (unhide C2) 0 (by omega) (by omega)
    cases ha
    rw [unhide HL] at hc
    exact hc
  refine (byte_ok g w.heap.size ad n c 0 (k8 : Int) _ (unhide R2) hn1 hn hx (unhide NE) (Nat.le_of_lt (unhide N2))).mono ?_
  rintro e w3 ⟨rfl, hr3, hb3, hk3⟩
  have F3 := hide ((unhide F2).keep hk3 (by have := unhide N2; omega))
  have B3 := hide ((unhide B2).trans hb3)
  have C3 := hide (Kd.C_keep (0 : Int) (unhide C2) hk3 (fun ad' e _ => by cases e; exact unhide NE))
  have R3 := hide hr3
  clear hx hr3 hb3 hk3 R2 F2 B2 C2
  go_wp2_with fail
  have F4 : Hid (Frm (w3.alloc (.cells #[.int .i64 (k : Int), .int .i64 0, .slice none 0 0] 51)) w.heap.size 0 0 (.slice none 0 0)) := blk_alloc (unhide F3) _
  have X4 : Hid (Frm (w3.alloc (.cells #[.int .i64 (k : Int), .int .i64 0, .slice none 0 0] 51)) w3.heap.size (k : Int) 0 (.slice none 0 0)) := blk_new _ _
  have R4 : Hid (Rdr (w3.alloc (.cells #[.int .i64 (k : Int), .int .i64 0, .slice none 0 0] 51)) g (.slice (some ad) n c) ((1 : Nat) : Int)) := blk_alloc (unhide R3) _
  have C4 : Hid (Kd.C (Kd.int .u8) (w3.alloc (.cells #[.int .i64 (k : Int), .int .i64 0, .slice none 0 0] 51)) (some ad) n L) := Kd.C_alloc (unhide C3) _
  have B4 : Hid (Below w.heap.size w (w3.alloc (.cells #[.int .i64 (k : Int), .int .i64 0, .slice none 0 0] 51))) := below_alloc (unhide B3) _
  generalize w3.alloc (.cells #[.int .i64 (k : Int), .int .i64 0, .slice none 0 0] 51) = w4 at F4 X4 R4 C4 B4 ⊢
  clear F3 B3 C3 R3
  refine (err_ok g (.slice (some ad) n c) ((1 : Nat) : Int) _ (unhide R4)).mono ?_
  rintro e w' ⟨rfl, rfl⟩
  obtain ⟨⟨x0, x1, x2⟩, ⟨x3, x4, x5⟩, x6⟩ := (unhide X4).cells
  go_wp2_with fail
  clear x0 x1 x2 x3 x4 x5 x6 X4
  have S4 : Hid (w.heap.size < w4.heap.size) := blk_lt (unhide F4)
  refine (num_end g w.heap.size (some ad) n c 1 L q _ (unhide R4) (unhide C4) (by rw [unhide HL]; rfl) (unhide HQ) (by omega) hn (fun ad' e _ => by cases e; exact unhide NE) (Nat.le_of_lt (unhide N2))).mono ?_
  rintro e w5 ⟨rfl, ⟨f, hE5, hT5, hS5⟩, hb5, hk5⟩
  have F5 := hide ((unhide F4).keep hk5 (by have := unhide N2; omega))
  have B5 := hide ((unhide B4).trans hb5)
  have E5 := hide hE5
  have T5 := hide hT5
  have NF : Hid (w.heap.size < f) := Nat.lt_of_lt_of_le (unhide S4) hS5
  clear hE5 hT5 hb5 hk5 F4 B4 R4 C4 hS5
  go_wp2_with fail
  refine (err_err g f (.slice (some ad) n c) (n : Int) _ (unhide E5)).mono ?_
  rintro e w' ⟨rfl, rfl⟩
  obtain ⟨⟨f0, f1, f2⟩, ⟨f3, f4, f5⟩, f6⟩ := (unhide F5).cells
  go_wp2
  have F9 : Frm (((w5.setCell ⟨w.heap.size, 0, none⟩ (.int .i64 0)).setCell ⟨w.heap.size, 1, none⟩ (.int .i64 0)).setCell ⟨w.heap.size, 2, none⟩ (.slice none 0 0)) w.heap.size 0 0 (.slice none 0 0) := blk_put (blk_put (blk_put (unhide F5) 0 _ rfl) 1 _ rfl) 2 _ rfl
  have B9 : Below w.heap.size w (((w5.setCell ⟨w.heap.size, 0, none⟩ (.int .i64 0)).setCell ⟨w.heap.size, 1, none⟩ (.int .i64 0)).setCell ⟨w.heap.size, 2, none⟩ (.slice none 0 0)) := below_set (below_set (below_set (unhide B5) (Nat.le_refl _)) (Nat.le_refl _)) (Nat.le_refl _)
  have T9 : Flt (((w5.setCell ⟨w.heap.size, 0, none⟩ (.int .i64 0)).setCell ⟨w.heap.size, 1, none⟩ (.int .i64 0)).setCell ⟨w.heap.size, 2, none⟩ (.slice none 0 0)) f (n : Int) 30 := (((unhide T5).far (by have := unhide NF; simp; omega) _).far (by have := unhide NF; simp; omega) _).far (by have := unhide NF; simp; omega) _
  clear f0 f1 f2 f3 f4 f5 f6
  generalize ((w5.setCell ⟨w.heap.size, 0, none⟩ (.int .i64 0)).setCell ⟨w.heap.size, 1, none⟩ (.int .i64 0)).setCell ⟨w.heap.size, 2, none⟩ (.slice none 0 0) = w9 at F9 B9 T9 ⊢
  obtain ⟨⟨f0, f1, f2⟩, _, _⟩ := F9.cells
  refine bodyPost_ret (v := headErr f) (by simp [results, Tryd.results68, go_sem, f0, f1, f2, hu]) rfl ⟨⟨f, rfl, T9, Nat.le_of_lt (unhide NF)⟩, B9⟩
end Go.Proofs.YtgoephcembgmcaaDoor.Fr
namespace Go.Proofs.YtgoephcembgmcaaDoor.Fr
open Go.RowKit Go.Proofs.YtgoephcembgmcaaDoorW.PrintWords Go.Proofs.YtgoephcembgmcaaDoorW.PrintLast Wk FrM Rg
open WkM (w64)
theorem Frm.own {w : World} {g base : Nat} {k s : Int} {v u : Value} {xs : List Int} (h : Frm w g k s v) (ho : Own w base u xs) (j : Nat) (x : Value) : Own (w.setCell ⟨g, j, none⟩ x) base u xs :=
  Kd.R_set ho h (fun q hq => by simp [Kd.int, Kd.scalar] at hq; omega) j x
set_option maxHeartbeats 2000000 in
set_option maxRecDepth 100000 in
theorem fread_ok (ad : Addr) (n c k : Nat) (L ys rest : List Int) (w : World) (hC : Kd.C (Kd.int .u8) w (some ad) n L) (hL : L = ((8 * k : Nat) : Int) :: (vnum ys.length ++ (ys ++ rest))) (hk : 1 ≤ k ∧ k ≤ 31) (hn1 : n ≤ 1000000) (hy : ys.length ≤ 16384) (hnc : n ≤ c) :
    Calls Tryd.prog 26 #[.slice (some ad) n c] w fun e w' => ∃ A1 c1, e = .returned (.tuple #[.agg #[.int .i64 (k : Int), .int .i64 0, .slice A1 ys.length c1], .int .i64 ((1 + (vnum ys.length).length + ys.length : Nat) : Int), .nilIface]) ∧ Own w' w.heap.size (.slice A1 ys.length c1) ys ∧ Below w.heap.size w w' := by
  have hu := Tryd.underlying51
  have hLn := hC.1
  have hvl := vnum_len 5 ys.length (by omega)
  have hnl : n = 1 + (vnum ys.length).length + (ys.length + rest.length) := by rw [← hLn, hL, List.length_cons, List.length_append, List.length_append]; omega
  obtain ⟨n2, hn2⟩ : ∃ q, q = 1 + (vnum ys.length).length + ys.length := ⟨_, rfl⟩
  obtain ⟨lf, hlf⟩ : ∃ q, q = n - (1 + (vnum ys.length).length) := ⟨_, rfl⟩
  rw [← hn2]
  obtain ⟨yn, hyn⟩ : ∃ q, q = ys.length := ⟨_, rfl⟩
  obtain ⟨k1, hk1⟩ : ∃ q, q = 1 + (vnum ys.length).length := ⟨_, rfl⟩
  have E1 : Hid (wrap64 ((n : Int) - (k1 : Int)) = (lf : Int)) := by show _ = _; rw [w64 _ (by omega) (by omega)]; omega
  have E2 : Hid (wrap64 ((k1 : Int) + (yn : Int)) = (n2 : Int)) := by show _ = _; rw [w64 _ (by omega) (by omega)]; omega
  have D1 : Hid (¬ (lf : Int) < (yn : Int)) := by show ¬ _; omega
  obtain ⟨A9, hcut, hcr, hcl⟩ := mid_any (some ad) c L k1 n2 (by omega) (by omega) (by omega)
  have hmid : (L.take n2).drop k1 = ys := by
    have e1 : L.drop k1 = ys ++ rest := by rw [hL, hk1, Nat.add_comm, List.drop_succ_cons, List.drop_left]
    rw [List.drop_take, e1, show n2 - k1 = ys.length by omega, List.take_left']
    rfl
  rw [hmid, hLn] at hcut hcr
  rw [hmid] at hcl
  have HCUT : Hid (∀ W : World, (Instr.slice 22 (.slice (some ad) n c) (some (.int .i64 (k1 : Int))) (some (.int .i64 (n2 : Int))) none).run Tryd.prog W = .ok (.slice A9 yn (c - k1)) W) := by rw [hyn]; exact hcut
  have HCR : Hid (∀ w : World, Kd.C (Kd.int .u8) w (some ad) n L → Kd.C (Kd.int .u8) w A9 yn ys) := by rw [hyn]; exact hcr
  have HC := hide hC
  have HL := hide hL
  have HYN := hide hyn
  have HK1 := hide hk1
  have HY := hide hy
  rw [← hyn]
  clear hC hL hLn hvl hnl hn2 hlf hcut hcr hcl hmid hk1 hyn hy
  go_enter Tryd.func26, Tryd.ntmps26
  go_wp2_with fail
  have f0 : Frm (w.alloc (.cells #[.int .i64 0, .int .i64 0, .slice none 0 0] 51)) w.heap.size 0 0 (.slice none 0 0) := blk_new _ _
  have b0 : Below w.heap.size w (w.alloc (.cells #[.int .i64 0, .int .i64 0, .slice none 0 0] 51)) := below_alloc (Below.refl _ _) _
  have c0 := Kd.C_below (unhide HC) b0
  generalize w.alloc (.cells #[.int .i64 0, .int .i64 0, .slice none 0 0] 51) = w1 at f0 b0 c0 ⊢
  refine (head_ok ad n c ys.length k L (ys ++ rest) _ c0 (unhide HL) hk (unhide HY) hn1).mono ?_
  rintro e w2 ⟨rfl, hb2⟩
  rw [← unhide HK1, ← unhide HYN]
  have F2 := hide (f0.below hb2)
  have B2 := hide (below_step b0 hb2)
  have C2 := hide (Kd.C_below c0 hb2)
  clear f0 b0 c0 hb2
  have e1 := unhide E1
  have d1 := unhide D1
  have e2 := unhide E2
  have hcut := unhide HCUT
  go_wp2_with (at_builtin; refine unhide ?_)
  have O4 : Hid (Own ((w2.alloc (.cells #[.int .i64 (k : Int), .int .i64 0, .slice none 0 0] 51)).alloc (.cells #[] 5)) w.heap.size (.slice (some ⟨w2.heap.size + 1, 0, none⟩) 0 0) []) := by
    have h := own_empty (w2.alloc (.cells #[.int .i64 (k : Int), .int .i64 0, .slice none 0 0] 51)) w.heap.size (by rw [World.size_alloc]; exact Nat.le_trans (unhide B2).size (Nat.le_succ _))
    rw [World.size_alloc] at h
    exact h
  have X4 : Hid (Frm ((w2.alloc (.cells #[.int .i64 (k : Int), .int .i64 0, .slice none 0 0] 51)).alloc (.cells #[] 5)) w2.heap.size (k : Int) 0 (.slice none 0 0)) := blk_alloc (blk_new _ _) _
  have F4 : Hid (Frm ((w2.alloc (.cells #[.int .i64 (k : Int), .int .i64 0, .slice none 0 0] 51)).alloc (.cells #[] 5)) w.heap.size 0 0 (.slice none 0 0)) := blk_alloc (blk_alloc (unhide F2) _) _
  have B4 : Hid (Below w.heap.size w ((w2.alloc (.cells #[.int .i64 (k : Int), .int .i64 0, .slice none 0 0] 51)).alloc (.cells #[] 5))) := below_alloc (below_alloc (unhide B2) _) _
  have C4 : Hid (Kd.C (Kd.int .u8) ((w2.alloc (.cells #[.int .i64 (k : Int), .int .i64 0, .slice none 0 0] 51)).alloc (.cells #[] 5)) A9 yn ys) := Kd.C_alloc (Kd.C_alloc ((unhide HCR) _ (unhide C2)) _) _
  have N4 : Hid (w.heap.size < w2.heap.size) := blk_lt (unhide F2)
  obtain ⟨gx, hgx⟩ : ∃ g, g = w2.heap.size := ⟨_, rfl⟩
  rw [← hgx] at O4 X4 N4 ⊢
  generalize (w2.alloc (.cells #[.int .i64 (k : Int), .int .i64 0, .slice none 0 0] 51)).alloc (.cells #[] 5) = w4 at O4 X4 F4 B4 C4 ⊢
  clear hgx F2 B2 C2
  refine hide ?_
  refine Kd.R_append_row (w0 := w) (Value.int .u8) (0 : Int) w.heap.size rfl (.tmp 34) (.tmp 40) 22 5 (.int .u8 0) 1 rfl Tryd.underlying22 info5 rfl (by decide) (.slice (some ⟨gx + 1, 0, none⟩) 0 0) [] ys A9 yn (c - k1) (fun _ => True) rfl rfl (fun _ _ => trivial) (unhide O4) (unhide C4) (unhide B4) (unhide B4).size (by have := unhide HY; have := unhide HYN; simp only [List.length_nil]; omega) ?_
  intro v5 w5 hR5 hB5 hg5 hat5
  rw [List.nil_append] at hR5
  have X5 : Hid (Frm w5 gx (k : Int) 0 (.slice none 0 0)) := blk_grown (unhide X4) hg5 (by simp [Value.ownBlock])
  have F5 : Hid (Frm w5 w.heap.size 0 0 (.slice none 0 0)) := blk_grown (unhide F4) hg5 (by have := unhide N4; simp [Value.ownBlock]; omega)
  obtain ⟨A5, c5, rfl⟩ := Kd.R_slice hR5
  have R5 := hide hR5
  have B5 := hide hB5
  clear hR5 hB5 hg5 hat5 O4 X4 F4 B4 C4 e1 d1 hcut
  obtain ⟨⟨x0, x1, x2⟩, ⟨x3, x4, x5⟩, x6⟩ := (unhide X5).cells
  obtain ⟨⟨f0, f1, f2⟩, ⟨f3, f4, f5⟩, f6⟩ := (unhide F5).cells
  have NE : ¬ w.heap.size = gx := by have := unhide N4; omega
  go_wp2
  have g1 : Frm (w5.setCell ⟨gx, 2, none⟩ (.slice A5 ys.length c5)) w.heap.size 0 0 (.slice none 0 0) := blk_far (unhide F5) NE _
  have o1 : Own (w5.setCell ⟨gx, 2, none⟩ (.slice A5 ys.length c5)) w.heap.size (.slice A5 ys.length c5) ys := (unhide X5).own (unhide R5) 2 _
  have o2 := g1.own o1 0 (.int .i64 (k : Int))
  have g2 : Frm ((w5.setCell ⟨gx, 2, none⟩ (.slice A5 ys.length c5)).setCell ⟨w.heap.size, 0, none⟩ (.int .i64 (k : Int))) w.heap.size (k : Int) 0 (.slice none 0 0) := blk_put g1 0 _ rfl
  have o3 := g2.own o2 1 (.int .i64 0)
  have g3 : Frm (((w5.setCell ⟨gx, 2, none⟩ (.slice A5 ys.length c5)).setCell ⟨w.heap.size, 0, none⟩ (.int .i64 (k : Int))).setCell ⟨w.heap.size, 1, none⟩ (.int .i64 0)) w.heap.size (k : Int) 0 (.slice none 0 0) := blk_put g2 1 _ rfl
  have o4 := g3.own o3 2 (.slice A5 ys.length c5)
  have g4 : Frm ((((w5.setCell ⟨gx, 2, none⟩ (.slice A5 ys.length c5)).setCell ⟨w.heap.size, 0, none⟩ (.int .i64 (k : Int))).setCell ⟨w.heap.size, 1, none⟩ (.int .i64 0)).setCell ⟨w.heap.size, 2, none⟩ (.slice A5 ys.length c5)) w.heap.size (k : Int) 0 (.slice A5 ys.length c5) := blk_put g3 2 _ rfl
  have b4 : Below w.heap.size w ((((w5.setCell ⟨gx, 2, none⟩ (.slice A5 ys.length c5)).setCell ⟨w.heap.size, 0, none⟩ (.int .i64 (k : Int))).setCell ⟨w.heap.size, 1, none⟩ (.int .i64 0)).setCell ⟨w.heap.size, 2, none⟩ (.slice A5 ys.length c5)) := below_set (below_set (below_set (below_set (unhide B5) (Nat.le_of_lt (unhide N4))) (Nat.le_refl _)) (Nat.le_refl _)) (Nat.le_refl _)
  clear x0 x1 x2 x3 x4 x5 x6 f0 f1 f2 f3 f4 f5 f6 g1 o1 o2 g2 o3 g3
  generalize (((w5.setCell ⟨gx, 2, none⟩ (.slice A5 ys.length c5)).setCell ⟨w.heap.size, 0, none⟩ (.int .i64 (k : Int))).setCell ⟨w.heap.size, 1, none⟩ (.int .i64 0)).setCell ⟨w.heap.size, 2, none⟩ (.slice A5 ys.length c5) = w9 at o4 g4 b4 ⊢
  obtain ⟨⟨f0, f1, f2⟩, _, _⟩ := g4.cells
  rw [unhide HYN]
  refine bodyPost_ret (v := .tuple #[.agg #[.int .i64 (k : Int), .int .i64 0, .slice A5 ys.length c5], .int .i64 (n2 : Int), .nilIface]) (by simp [results, Tryd.results26, go_sem, f0, f1, f2, hu]; rw [← unhide HYN]; exact unhide E2) rfl ⟨A5, c5, rfl, o4, b4⟩
end Go.Proofs.YtgoephcembgmcaaDoor.Fr
