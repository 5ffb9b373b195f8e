import Derived.Test.YtgoephcembgmcaaFa1
import Derived.Test.YtgoephcembgmcaaFr6
set_option linter.unusedSimpArgs false
set_option linter.unusedVariables false
namespace Go.Proofs.Ytgoephcembgmcaa.Fr
open Go.RowKit Go.Proofs.YtgoephcembgmcaaW.PrintWords Go.Proofs.YtgoephcembgmcaaW.PrintLast Go.Proofs.YtgoephcembgmcaaW.PrintMore Go.Proofs.Ytgoephcembgmcaa.Wk Go.Proofs.Ytgoephcembgmcaa.FrM
open Go.Proofs.Ytgoephcembgmcaa.WkM (w64)
theorem Frm.keep {w w1 : World} {g g' : Nat} {k s : Int} {v : Value} (h : Frm w g k s v) (hk : KeepBut w w1 g' none) (hne : g ≠ g') : Frm w1 g k s v := hk.blk h hne (by simp)
theorem Frm.below {w w1 : World} {g : Nat} {k s : Int} {v : Value} (h : Frm w g k s v) (hb : Below w.heap.size w w1) : Frm w1 g k s v := blk_below h hb
theorem and_43 : bits .and .i64 43 7 = 3 := by decide +kernel
def T23_12 : Bool × List (List Nat × List Nat) := (true, [([], []), ([], []), ([1], [1]), ([], []), ([0, 2, 0], [0]), ([2, 4, 0, 1, 2, 4], [2]), ([3, 5, 0, 1, 2, 3, 4, 5], [3]), ([6, 0, 1, 2, 3, 4, 5, 6], [])])
def BT23_12 : List Nat := [0, 0, 2, 0, 7, 23, 63, 127]
theorem tabT23_12 : rtab .any (opsOf Try.f23 12) = T23_12 := by kernel_rfl
theorem bitsT23_12 : waitsOk T23_12.2 BT23_12 = true := by kernel_rfl

set_option maxHeartbeats 2000000 in
set_option maxRecDepth 100000 in
theorem head_ok (ad : Addr) (n c m : Nat) (L rest : List Int) (w : World) (hC : Kd.C (Kd.int .u8) w (some ad) n L) (hL : L = 43 :: (vnum m ++ rest)) (hm : m ≤ 16384) (hn : n ≤ 1000000) :
    Calls Try.prog 23 #[.slice (some ad) n c] w fun e w' => e = .returned (.tuple #[.agg #[.int .i64 5, .int .i64 3, .slice none 0 0], .int .i64 ((1 + (vnum m).length : Nat) : Int), .int .i64 (m : Int), .nilIface]) ∧ Below w.heap.size w w' := by
  have hu := Try.underlying37
  have HC := hide hC
  have HL := hide hL
  have HLn := hide hC.1
  have hn1 : 0 < n := by rw [← hC.1, hL]; simp
  have hadl : Hid (ad.block < w.heap.size) := by
    obtain ⟨ad', ha, hc⟩ := Kd.at_int hC 0 (by omega) (by omega)
    cases ha
    have := World.block_lt_of_cell? w _ hc
    show ad.block < _
    simpa [Addr.add] using this
  have hand := and_43
  obtain ⟨k1, hk1⟩ : ∃ k, k = 1 + (vnum m).length := ⟨_, rfl⟩
  rw [← hk1]
  have HK1 := hide hk1
  clear hk1
  clear hC hL
  go_enter Try.func23, Try.ntmps23
  go_wp2_with fail
  have f0 : Frm (w.alloc (.cells #[.int .i64 0, .int .i64 0, .slice none 0 0] 37)) w.heap.size 0 0 (.slice none 0 0) := blk_new _ _
  have b0 : Below w.heap.size w (w.alloc (.cells #[.int .i64 0, .int .i64 0, .slice none 0 0] 37)) := below_alloc (Below.refl _ _) _
  have c0 := Kd.C_below (unhide HC) b0
  generalize w.alloc (.cells #[.int .i64 0, .int .i64 0, .slice none 0 0] 37) = w1 at f0 b0 c0 ⊢
  refine (read_any (some ad) n c _).mono ?_
  rintro e w2 ⟨rfl, hr2, hb2⟩
  have N2 : Hid (w.heap.size < w1.heap.size) := blk_lt f0
  have F2 := hide (f0.below hb2)
  have B2 := hide (below_step b0 hb2)
  have C2 := hide (Kd.C_below c0 hb2)
  obtain ⟨g, hg⟩ : ∃ g, g = w1.heap.size := ⟨_, rfl⟩
  rw [← hg] at hr2 N2 ⊢
  have R2 := hide hr2
  have NE : Hid (ad.block ≠ g) := by have := unhide hadl; have := unhide N2; show ad.block ≠ _; omega
  clear f0 b0 c0 hr2 hb2 hg
  go_wp2_with fail
  have hx : w2.cell? (ad.add 0) = some (.int .u8 43) := by
    obtain ⟨ad', ha, hc⟩ := Kd.at_int (unhide C2) 0 (by omega) (by omega)
    cases ha
    rw [unhide HL] at hc
    exact hc
  refine (byte_ok g w.heap.size ad n c 0 43 _ (unhide R2) hn1 hn hx (unhide NE) (Nat.le_of_lt (unhide N2))).mono ?_
  rintro e w3 ⟨rfl, hr3, hb3, hk3⟩
  have F3 := hide ((unhide F2).keep hk3 (by have := unhide N2; omega))
  have B3 := hide ((unhide B2).trans hb3)
  have C3 := hide (Kd.C_keep (0 : Int) (unhide C2) hk3 (fun ad' e _ => by cases e; exact unhide NE))
  have R3 := hide hr3
  clear hx hr3 hb3 hk3 R2 F2 B2 C2
  go_wp2_with fail
  have F4 : Hid (Frm (w3.alloc (.cells #[.int .i64 5, .int .i64 3, .slice none 0 0] 37)) w.heap.size 0 0 (.slice none 0 0)) := blk_alloc (unhide F3) _
  have X4 : Hid (Frm (w3.alloc (.cells #[.int .i64 5, .int .i64 3, .slice none 0 0] 37)) w3.heap.size 5 3 (.slice none 0 0)) := blk_new _ _
  have R4 : Hid (Rdr (w3.alloc (.cells #[.int .i64 5, .int .i64 3, .slice none 0 0] 37)) g (.slice (some ad) n c) ((1 : Nat) : Int)) := blk_alloc (unhide R3) _
  have C4 : Hid (Kd.C (Kd.int .u8) (w3.alloc (.cells #[.int .i64 5, .int .i64 3, .slice none 0 0] 37)) (some ad) n L) := Kd.C_alloc (unhide C3) _
  have B4 : Hid (Below w.heap.size w (w3.alloc (.cells #[.int .i64 5, .int .i64 3, .slice none 0 0] 37))) := below_alloc (unhide B3) _
  have N4 : Hid (g < w3.heap.size) := (unhide R3).cells.2.2
  obtain ⟨gx, hgx⟩ : ∃ g, g = w3.heap.size := ⟨_, rfl⟩
  rw [← hgx] at X4 N4 ⊢
  generalize w3.alloc (.cells #[.int .i64 5, .int .i64 3, .slice none 0 0] 37) = w4 at F4 X4 R4 C4 B4 ⊢
  clear F3 B3 C3 R3 hgx
  refine (err_ok g (.slice (some ad) n c) ((1 : Nat) : Int) _ (unhide R4)).mono ?_
  rintro e w' ⟨rfl, rfl⟩
  obtain ⟨⟨x0, x1, x2⟩, ⟨x3, x4, x5⟩, x6⟩ := (unhide X4).cells
  go_wp2_with fail
  clear x0 x1 x2 x3 x4 x5 x6
  refine (num_rd g w.heap.size ad n c 1 m L rest _ (unhide R4) (unhide C4) (by rw [unhide HL]; rfl) (by omega) hn (unhide NE) (Nat.le_of_lt (unhide N2))).mono ?_
  rintro e w5 ⟨rfl, hr5, hb5, hk5⟩
  have F5 := hide ((unhide F4).keep hk5 (by have := unhide N2; omega))
  have X5 := hide ((unhide X4).keep hk5 (by have := unhide N4; omega))
  have B5 := hide ((unhide B4).trans hb5)
  rw [← unhide HK1] at hr5
  have R5 := hide hr5
  have HM := hide hm
  have d16 : ¬ (16384 : Int) < (m : Int) := by omega
  clear hr5 hb5 hk5 F4 X4 B4 R4 C4 hm
  go_wp2_with fail
  refine (err_ok g (.slice (some ad) n c) (k1 : Int) _ (unhide R5)).mono ?_
  rintro e w' ⟨rfl, rfl⟩
  go_wp2
  refine start_ (n := 8) (S := fun w' => Frm w' gx 5 3 (.slice none 0 0)) (ds := [4]) #[false, false, false, false, false, false, false, false] (by kernel_rfl) rfl rfl (unhide X5) (fun hHeld => ?_)
  refine with_tabW tabT23_12 bitsT23_12 (fun HT_ HW_ => ?_)
  refine take_ (i := 0) (N := some 50) (v := ?_) (a' := ?_) #[true, false, false, false, false, false, false, false] rfl rfl (take_ofW HT_.out HW_.out (by kernel_rfl)) (fun _ _ _ h => h) (Or.inl ⟨by rfl, ?_⟩) hHeld ?_ ?_
  rotate_left
  · rintro w' h1_
    obtain ⟨⟨_, _, _⟩, _, _⟩ := h1_.cells
    go_simp
    with_reducible rfl
  rotate_left
  · simp only [Act.put, List.setIfInBounds_toArray, List.set_cons_zero, List.set_cons_succ, i64_w, i32_w]
    rfl
  refine pure_ (i := 1) (N := some 51) (v := ?_) (a' := ?_) #[true, true, false, false, false, false, false, false] rfl rfl (any_of HT_.out (by kernel_rfl)) (fun _ _ _ h => h) (Or.inl ⟨by rfl, ?_⟩) ?_ ?_
  rotate_left
  · intro w'
    go_simp
    with_reducible rfl
  rotate_left
  · simp only [Act.put, List.setIfInBounds_toArray, List.set_cons_zero, List.set_cons_succ, i64_w, i32_w]
    rfl
  refine pure_ (i := 3) (N := some 53) (v := ?_) (a' := ?_) #[true, true, false, true, false, false, false, false] rfl rfl (any_of HT_.out (by kernel_rfl)) (fun _ _ _ h => h) (Or.inl ⟨by rfl, ?_⟩) ?_ ?_
  rotate_left
  · intro w'
    go_simp
    with_reducible rfl
  rotate_left
  · simp only [Act.put, List.setIfInBounds_toArray, List.set_cons_zero, List.set_cons_succ, i64_w, i32_w]
    rfl
  refine one_ (i := 2) (N := some 52) #[true, true, true, true, false, false, false, false] rfl rfl (one_of HT_.out (by kernel_rfl)) (by decide) (fun K hK => ?_)
  refine goes_ Try.func29 (by kernel_rfl) rfl #[.pointer (some ⟨g, 0, none⟩)] (by rfl) rfl rfl (by (try simp only [List.map_toArray, List.map_cons, List.map_nil]); first | done | rfl) ?_
  refine (at_ok g (.slice (some ad) n c) (k1 : Int) w5.drew (show Rdr w5.drew g _ _ from unhide R5)).mono ?_
  rintro e w' ⟨rfl, rfl⟩
  refine ⟨_, rfl, ?_⟩
  clear hHeld
  refine hK.out _ _ (unhide X5) (fun hHeld => ?_)
  clear hK K
  refine norm_ (a' := ?_) ?_ ?_
  rotate_left
  · show Act.put _ (some 52) _ = _
    simp only [Act.put, List.setIfInBounds_toArray, List.set_cons_zero, List.set_cons_succ, i64_w, i32_w]
    rfl
  refine last_ (i := 4) (N := none) #[true, true, true, true, true, false, false, false] rfl rfl (one_of HT_.out (by kernel_rfl)) (by decide) (fun K hK => ?_)
  obtain ⟨⟨f0, f1, f2⟩, ⟨f3, f4, f5⟩, f6⟩ := (unhide F5).cells
  refine skip_ (w1 := ?w12) (by rfl) rfl ?hrun ?_
  case hrun =>
    go_simp
    rfl
  refine hK.out _ _ ?_
  clear hK K
  refine pure_ (i := 5) (N := some 3) (v := ?_) (a' := ?_) #[true, true, true, true, true, true, false, false] rfl rfl (any_of HT_.out (by kernel_rfl)) (fun _ _ _ h => h) (Or.inl ⟨by rfl, ?_⟩) ?_ ?_
  rotate_left
  · intro w'
    go_simp
    with_reducible rfl
  rotate_left
  · simp only [Act.put, List.setIfInBounds_toArray, List.set_cons_zero, List.set_cons_succ, i64_w, i32_w]
    rfl
  refine pure_ (i := 6) (N := some 4) (v := ?_) (a' := ?_) #[true, true, true, true, true, true, true, false] rfl rfl (any_of HT_.out (by kernel_rfl)) (fun _ _ _ h => h) (Or.inl ⟨by rfl, ?_⟩) ?_ ?_
  rotate_left
  · intro w'
    go_simp
    with_reducible rfl
  rotate_left
  · simp only [Act.put, List.setIfInBounds_toArray, List.set_cons_zero, List.set_cons_succ, i64_w, i32_w]
    rfl
  refine pure_ (i := 7) (N := some 5) (v := ?_) (a' := ?_) #[true, true, true, true, true, true, true, true] rfl rfl (any_of HT_.out (by kernel_rfl)) (fun _ _ _ h => h) (Or.inl ⟨by rfl, ?_⟩) ?_ ?_
  rotate_left
  · intro w'
    go_simp
    with_reducible rfl
  rotate_left
  · simp only [Act.put, List.setIfInBounds_toArray, List.set_cons_zero, List.set_cons_succ, i64_w, i32_w]
    rfl
  refine done_ (done_of HT_.out (by kernel_rfl)) ?_
  clear HT_ HW_; (try clear hHeld)
  go_wp2
  have F9 : Frm (((w5.setCell ⟨w.heap.size, 0, none⟩ (.int .i64 5)).setCell ⟨w.heap.size, 1, none⟩ (.int .i64 3)).setCell ⟨w.heap.size, 2, none⟩ (.slice none 0 0)).drew w.heap.size 5 3 (.slice none 0 0) := blk_put (blk_put (blk_put (unhide F5) 0 _ rfl) 1 _ rfl) 2 _ rfl
  have B9 : Below w.heap.size w (((w5.setCell ⟨w.heap.size, 0, none⟩ (.int .i64 5)).setCell ⟨w.heap.size, 1, none⟩ (.int .i64 3)).setCell ⟨w.heap.size, 2, none⟩ (.slice none 0 0)).drew := below_drew (below_set (below_set (below_set (unhide B5) (Nat.le_refl _)) (Nat.le_refl _)) (Nat.le_refl _))
  clear f0 f1 f2 f3 f4 f5 f6
  generalize (((w5.setCell ⟨w.heap.size, 0, none⟩ (.int .i64 5)).setCell ⟨w.heap.size, 1, none⟩ (.int .i64 3)).setCell ⟨w.heap.size, 2, none⟩ (.slice none 0 0)).drew = w9 at F9 B9 ⊢
  obtain ⟨⟨f0, f1, f2⟩, _, _⟩ := F9.cells
  refine bodyPost_ret (v := .tuple #[.agg #[.int .i64 5, .int .i64 3, .slice none 0 0], .int .i64 (k1 : Int), .int .i64 (m : Int), .nilIface]) (by simp [results, Try.results23, go_sem, f0, f1, f2, hu]) rfl ⟨rfl, B9⟩
end Go.Proofs.Ytgoephcembgmcaa.Fr
