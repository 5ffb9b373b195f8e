import Derived.Test.YtgoephcembgmcaaSh5
import Derived.Test.YtgoephcembgmcaaWGuard
set_option linter.unusedSimpArgs false
set_option linter.unusedVariables false
namespace Go.Proofs.Ytgoephcembgmcaa.Sh
open Go.RowKit Go.Proofs.YtgoephcembgmcaaW.PrintWords Go.Proofs.YtgoephcembgmcaaW.PrintLast Go.Proofs.YtgoephcembgmcaaW.PrintMore Go.Proofs.Ytgoephcembgmcaa.Wk Go.Proofs.Ytgoephcembgmcaa.FrM Go.Proofs.Ytgoephcembgmcaa.Fr
open Go.Proofs.Ytgoephcembgmcaa.WkM (w64 Bytes)
attribute [local go_sem] max2_int min2_int max_two min_two
theorem size5 : (Try.prog.info? 5).map (·.size) = some 1 := by kernel_rfl
/-- 32 bytes out of one array into another one. -/
theorem copy32 (W : World) (g g' : Nat) (t t' : Nat) (xs ys : List Int) (h : Bs W g t xs) (h' : Bs W g' t' ys) (hx : xs.length = 32) (hy : ys.length = 32) :
    (Builtin.copy_ #[22, 22] 3 #[.slice (some ⟨g, 0, none⟩) 32 32, .slice (some ⟨g', 0, none⟩) 32 32]).run Try.prog W = .ok (.int .i64 32) (W.setRow g (bys ys)) := by
  have h1 := run_copy_row Try.prog W 22 22 3 5 g 0 32 32 ⟨g', 0, none⟩ 32 32 (bys xs) t (ys.map (Value.int .u8)) Try.underlying22 size5 h (by rw [List.length_map, hy]; rfl) (fun j v hj => by
    have hadd : (⟨g', 0, none⟩ : Addr).add j = ⟨g', j, none⟩ := by unfold Addr.add; split <;> simp_all
    rw [hadd, cell_of_row W g' j _ t' (0, 0) h']
    unfold bys
    rw [List.getElem?_toArray]
    exact hj) (by rw [List.length_map, bys_size]; omega) (fun v hv => by
      obtain ⟨x, _, rfl⟩ := List.mem_map.1 hv
      rfl)
  rw [List.length_map, hy] at h1
  have e : ((bys xs).toList.take 0 ++ ys.map (Value.int .u8) ++ (bys xs).toList.drop (0 + 32)).toArray = bys ys := by
    have hl : (bys xs).toList.length ≤ 0 + 32 := by rw [Array.length_toList, bys_size]; omega
    rw [List.drop_of_length_le hl, List.take_zero, List.nil_append, List.append_nil]
    rfl
  rw [e] at h1
  exact h1
def T17_3 : Bool × List (List Nat × List Nat) := (true, [([], []), ([0], [0]), ([1], [1]), ([2], [2]), ([], []), ([3, 4], [3, 4])])
def BT17_3 : List Nat := [0, 1, 3, 7, 0, 31]
theorem tabT17_3 : rtab .any (opsOf Try.f17 3) = T17_3 := by kernel_rfl
theorem bitsT17_3 : waitsOk T17_3.2 BT17_3 = true := by kernel_rfl

set_option maxHeartbeats 2000000 in
set_option maxRecDepth 100000 in
theorem cut_sum (A : Option Addr) (c : Nat) (l : List Int) (w : World) (hr : Kd.C (Kd.int .u8) w A l.length l) (hl : Bytes l) (hc : l.length ≤ c) (hn : l.length ≤ 100000) :
    Calls Try.prog 17 #[.int .i64 32, .slice A l.length c] w fun e w' => e = .returned (.agg (bys (S l))) ∧ Below w.heap.size w w' := by
  have HR := hide hr
  have HL := hide hl
  clear hr hl
  go_enter Try.func17, Try.ntmps17
  go_wp2_with fail
  have bA : Below w.heap.size w (((w.alloc (.cells (bys (List.replicate 32 0)) 25)).alloc (.cells (bys (List.replicate 32 0)) 25)).alloc (.cells #[.slice A l.length c] 22)) := below_alloc (below_alloc (below_alloc (Below.refl _ _) _) _) _
  have r0 : Bs (((w.alloc (.cells (bys (List.replicate 32 0)) 25)).alloc (.cells (bys (List.replicate 32 0)) 25)).alloc (.cells #[.slice A l.length c] 22)) w.heap.size 25 (List.replicate 32 0) := blk_alloc (blk_alloc (blk_new w _) _) _
  have r1 : Bs (((w.alloc (.cells (bys (List.replicate 32 0)) 25)).alloc (.cells (bys (List.replicate 32 0)) 25)).alloc (.cells #[.slice A l.length c] 22)) (w.heap.size + 1) 25 (List.replicate 32 0) := blk_alloc (heap_alloc2_new w _ _) _
  have r2 : (((w.alloc (.cells (bys (List.replicate 32 0)) 25)).alloc (.cells (bys (List.replicate 32 0)) 25)).alloc (.cells #[.slice A l.length c] 22)).cell? ⟨w.heap.size + 2, 0, none⟩ = some (.slice A l.length c) := cell_of_row _ _ 0 #[.slice A l.length c] 22 (0, 0) (by have h := blk_new ((w.alloc (.cells (bys (List.replicate 32 0)) 25)).alloc (.cells (bys (List.replicate 32 0)) 25)) (.cells #[.slice A l.length c] 22); simpa using h)
  show Calls _ _ _ (((w.alloc (.cells (bys (List.replicate 32 0)) 25)).alloc (.cells (bys (List.replicate 32 0)) 25)).alloc (.cells #[.slice A l.length c] 22)) _
  generalize ((w.alloc (.cells (bys (List.replicate 32 0)) 25)).alloc (.cells (bys (List.replicate 32 0)) 25)).alloc (.cells #[.slice A l.length c] 22) = w1 at bA r0 r1 r2 ⊢
  refine (of_sum ⟨w.heap.size + 2, 0, none⟩ 1 A c l _ r2 (Kd.C_below (unhide HR) bA) (unhide HL) hc hn).mono ?_
  rintro e w2 ⟨rfl, hb⟩
  have R0 := hide (r0.below hb)
  have R1 := hide (r1.below hb)
  have B2 := hide (below_step bA hb)
  have N2 : Hid (w.heap.size + 1 < w2.heap.size) := (unhide R1).lt
  obtain ⟨sl, hsl⟩ : ∃ s, s = S l := ⟨_, rfl⟩
  have s32 : sl.length = 32 := by rw [hsl]; exact S_len l
  rw [← hsl]
  have HSL := hide hsl
  have HS32 := hide s32
  have SZ : Hid ((Try.prog.info? 25).map (·.size) = some (bys sl).size) := by show _ = _; rw [bys_size, s32]; exact size25
  clear bA r0 r1 r2 hb hsl s32
  go_wp2_with (refine wpList_store_row rfl 25 _ _ rfl w2.heap.size (bys sl) rfl rfl 25 _ (blk_new _ _) (unhide SZ) (by rw [bys_size, unhide HS32]; rfl) (bys_one _) ?_; rw [World.setRow_alloc_new])
  have A0 : Hid (Bs (w2.alloc (.cells (bys sl) 25)).drew w.heap.size 25 (List.replicate 32 0)) := (unhide R0).alloc _
  have A1 : Hid (Bs (w2.alloc (.cells (bys sl) 25)).drew (w.heap.size + 1) 25 (List.replicate 32 0)) := (unhide R1).alloc _
  have A2 : Hid (Bs (w2.alloc (.cells (bys sl) 25)).drew w2.heap.size 25 sl) := blk_new _ _
  have B3 : Hid (Below w.heap.size w (w2.alloc (.cells (bys sl) 25)).drew) := below_drew (below_alloc (unhide B2) _)
  obtain ⟨g1, hg1⟩ : ∃ g, g = w.heap.size + 1 := ⟨_, rfl⟩
  rw [← hg1] at A1 N2 ⊢
  have HG : Hid (w.heap.size < g1 ∧ w.heap.size ≠ g1) := by show _ ∧ _; omega
  clear hg1
  obtain ⟨g2, hg2⟩ : ∃ g, g = w2.heap.size := ⟨_, rfl⟩
  rw [← hg2] at A2 ⊢
  clear hg2 R0 R1
  refine start_ (n := 6) (S := fun _ => True) (ds := []) #[false, false, false, false, false, false] (by kernel_rfl) rfl rfl trivial (fun hHeld => ?_)
  refine with_tabW tabT17_3 bitsT17_3 (fun HT_ HW_ => ?_)
  refine pure_ (i := 0) (N := some 10) (v := ?_) (a' := ?_) #[true, false, false, false, false, false] rfl rfl (any_of HT_.out (by kernel_rfl)) (fun _ _ _ h => h) (Or.inl ⟨by rfl, ?_⟩) ?_ ?_
  rotate_left
  · intro w'
    go_simp
    with_reducible rfl
  rotate_left
  · simp only [Act.put, List.setIfInBounds_toArray, List.set_cons_zero, List.set_cons_succ, i64_w, i32_w]
    rfl
  refine pure_ (i := 1) (N := some 11) (v := ?_) (a' := ?_) #[true, true, false, false, false, false] rfl rfl (any_of HT_.out (by kernel_rfl)) (fun _ _ _ h => h) (Or.inl ⟨by rfl, ?_⟩) ?_ ?_
  rotate_left
  · intro w'
    go_simp
    with_reducible rfl
  rotate_left
  · simp only [Act.put, List.setIfInBounds_toArray, List.set_cons_zero, List.set_cons_succ, i64_w, i32_w]
    rfl
  refine pure_ (i := 2) (N := some 12) (v := ?_) (a' := ?_) #[true, true, true, false, false, false] rfl rfl (any_of HT_.out (by kernel_rfl)) (fun _ _ _ h => h) (Or.inl ⟨by rfl, ?_⟩) ?_ ?_
  rotate_left
  · intro w'
    go_simp
    with_reducible rfl
  rotate_left
  · simp only [Act.put, List.setIfInBounds_toArray, List.set_cons_zero, List.set_cons_succ, i64_w, i32_w]
    rfl
  refine pure_ (i := 3) (N := some 13) (v := ?_) (a' := ?_) #[true, true, true, true, false, false] rfl rfl (any_of HT_.out (by kernel_rfl)) (fun _ _ _ h => h) (Or.inl ⟨by rfl, ?_⟩) ?_ ?_
  rotate_left
  · intro w'
    go_simp
    with_reducible rfl
  rotate_left
  · simp only [Act.put, List.setIfInBounds_toArray, List.set_cons_zero, List.set_cons_succ, i64_w, i32_w]
    rfl
  refine pure_ (i := 4) (N := some 14) (v := ?_) (a' := ?_) #[true, true, true, true, true, false] rfl rfl (any_of HT_.out (by kernel_rfl)) (fun _ _ _ h => h) (Or.inl ⟨by rfl, ?_⟩) ?_ ?_
  rotate_left
  · intro w'
    go_simp
    with_reducible rfl
  rotate_left
  · simp only [Act.put, List.setIfInBounds_toArray, List.set_cons_zero, List.set_cons_succ, i64_w, i32_w]
    rfl
  refine one_ (i := 5) (N := some 15) #[true, true, true, true, true, true] rfl rfl (one_of HT_.out (by kernel_rfl)) (by decide) (fun K hK => ?_)
  have hcp := copy32 _ g1 g2 25 25 _ sl (unhide A1) (unhide A2) List.length_replicate (unhide HS32)
  have C0 : Hid (Bs ((w2.alloc (.cells (bys sl) 25)).drew.setRow g1 (bys sl)) w.heap.size 25 (List.replicate 32 0)) := (setRow_other _ g1 _ _ (unhide HG).2).trans (unhide A0)
  have C1 : Hid (Bs ((w2.alloc (.cells (bys sl) 25)).drew.setRow g1 (bys sl)) g1 25 sl) := (unhide A1).row
  have C2 : Hid (Below w.heap.size w ((w2.alloc (.cells (bys sl) 25)).drew.setRow g1 (bys sl))) := below_setRow (unhide B3) (Nat.le_of_lt (unhide HG).1) _
  generalize (w2.alloc (.cells (bys sl) 25)).drew.setRow g1 (bys sl) = w9 at hcp C0 C1 C2
  refine value_ (v := .int .i64 32) (w1 := w9) (by rfl) rfl ?hrun ?_
  case hrun =>
    go_simp
  clear hcp
  clear hHeld
  refine hK.out _ _ trivial (fun hHeld => ?_)
  clear hK K
  refine norm_ (a' := ?_) ?_ ?_
  rotate_left
  · show Act.put _ (some 15) _ = _
    simp only [Act.put, List.setIfInBounds_toArray, List.set_cons_zero, List.set_cons_succ, i64_w, i32_w]
    rfl
  refine done_ (done_of HT_.out (by kernel_rfl)) ?_
  clear HT_ HW_ hHeld
  go_wp2_with (first | refine wpList_load_row rfl 25 _ rfl g1 rfl 25 _ (0, 0) _ (unhide C1) Try.underlying25 rfl (unhide SZ) ?_ | refine wpList_store_row rfl 25 _ _ rfl w.heap.size (bys sl) rfl rfl 25 _ (unhide C0) (unhide SZ) (by rw [bys_size, bys_size, unhide HS32]; rfl) (bys_one _) ?_)
  refine bodyPost_ret (v := .agg (bys sl)) ?_ rfl ⟨?_, below_setRow (unhide C2) (Nat.le_refl _) _⟩
  · exact results_cell_row rfl _ _ w.heap.size 25 (bys sl) (0, 0) _ rfl (unhide C0).row Try.underlying25 rfl (unhide SZ)
  · rw [unhide HSL]
end Go.Proofs.Ytgoephcembgmcaa.Sh
