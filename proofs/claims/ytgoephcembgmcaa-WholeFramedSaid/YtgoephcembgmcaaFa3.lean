import Derived.Test.YtgoephcembgmcaaFa2
set_option linter.unusedSimpArgs false
set_option linter.unusedVariables false
namespace Go.Proofs.Ytgoephcembgmcaa.Fr
open Go.RowKit Go.Proofs.YtgoephcembgmcaaW.PrintWords Go.Proofs.YtgoephcembgmcaaW.PrintLast Go.Proofs.YtgoephcembgmcaaW.PrintMore Go.Proofs.Ytgoephcembgmcaa.Wk Go.Proofs.Ytgoephcembgmcaa.FrM
open Go.Proofs.Ytgoephcembgmcaa.WkM (w64)
theorem Frm.own {w : World} {g base : Nat} {k s : Int} {v u : Value} {xs : List Int} (h : Frm w g k s v) (ho : Own w base u xs) (j : Nat) (x : Value) : Own (w.setCell ⟨g, j, none⟩ x) base u xs :=
  Kd.R_set ho h (fun q hq => by simp [Kd.int, Kd.scalar] at hq; omega) j x
set_option maxHeartbeats 2000000 in
set_option maxRecDepth 100000 in
theorem fread_ok (ad : Addr) (n c : Nat) (L ys : List Int) (w : World) (hC : Kd.C (Kd.int .u8) w (some ad) n L) (hL : L = 43 :: (vnum ys.length ++ ys)) (hy : ys.length ≤ 16384) (hnc : n ≤ c) :
    Calls Try.prog 11 #[.slice (some ad) n c] w fun e w' => ∃ A1 c1, e = .returned (.tuple #[.agg #[.int .i64 5, .int .i64 3, .slice A1 ys.length c1], .int .i64 (n : Int), .nilIface]) ∧ Own w' w.heap.size (.slice A1 ys.length c1) ys ∧ Below w.heap.size w w' := by
  have hu := Try.underlying37
  have hLn := hC.1
  have hvl := vnum_len 5 ys.length (by omega)
  have hnl : n = 1 + (vnum ys.length).length + ys.length := by rw [← hLn, hL, List.length_cons, List.length_append]; omega
  obtain ⟨yn, hyn⟩ : ∃ q, q = ys.length := ⟨_, rfl⟩
  obtain ⟨k1, hk1⟩ : ∃ q, q = 1 + (vnum ys.length).length := ⟨_, rfl⟩
  have hn1 : n ≤ 1000000 := by omega
  have E1 : Hid (wrap64 ((n : Int) - (k1 : Int)) = (yn : Int)) := by show _ = _; rw [w64 _ (by omega) (by omega)]; omega
  have E2 : Hid (wrap64 ((k1 : Int) + (yn : Int)) = (n : Int)) := by show _ = _; rw [w64 _ (by omega) (by omega)]; omega
  have D1 : Hid (¬ (yn : Int) < (yn : Int)) := by show ¬ _; omega
  obtain ⟨A9, hcut, hcr, hcl⟩ := mid_any (some ad) c L k1 n (by omega) (by omega) (by omega)
  have hmid : (L.take n).drop k1 = ys := by
    rw [List.take_of_length_le (by omega), hL, hk1, Nat.add_comm, List.drop_succ_cons, List.drop_left]
  rw [hmid, hLn] at hcut hcr
  rw [hmid] at hcl
  have HCUT : Hid (∀ W : World, (Instr.slice 22 (.slice (some ad) n c) (some (.int .i64 (k1 : Int))) (some (.int .i64 (n : Int))) none).run Try.prog W = .ok (.slice A9 yn (c - k1)) W) := by rw [hyn]; exact hcut
  have HCR : Hid (∀ w : World, Kd.C (Kd.int .u8) w (some ad) n L → Kd.C (Kd.int .u8) w A9 yn ys) := by rw [hyn]; exact hcr
  have HC := hide hC
  have HL := hide hL
  have HYN := hide hyn
  have HK1 := hide hk1
  have HY := hide hy
  rw [← hyn]
  clear hC hL hLn hvl hnl hcut hcr hcl hmid hk1 hyn hy
  go_enter Try.func11, Try.ntmps11
  go_wp2_with fail
  have f0 : Frm (w.alloc (.cells #[.int .i64 0, .int .i64 0, .slice none 0 0] 37)) w.heap.size 0 0 (.slice none 0 0) := blk_new _ _
  have b0 : Below w.heap.size w (w.alloc (.cells #[.int .i64 0, .int .i64 0, .slice none 0 0] 37)) := below_alloc (Below.refl _ _) _
  have c0 := Kd.C_below (unhide HC) b0
  generalize w.alloc (.cells #[.int .i64 0, .int .i64 0, .slice none 0 0] 37) = w1 at f0 b0 c0 ⊢
  refine (head_ok ad n c ys.length L ys _ c0 (unhide HL) (unhide HY) hn1).mono ?_
  rintro e w2 ⟨rfl, hb2⟩
  rw [← unhide HK1, ← unhide HYN]
  have F2 := hide (f0.below hb2)
  have B2 := hide (below_step b0 hb2)
  have C2 := hide (Kd.C_below c0 hb2)
  clear f0 b0 c0 hb2
  have e1 := unhide E1
  have d1 := unhide D1
  have e2 := unhide E2
  have hcut := unhide HCUT
  go_wp2_with (at_builtin; refine unhide ?_)
  have O4 : Hid (Own ((w2.alloc (.cells #[.int .i64 5, .int .i64 3, .slice none 0 0] 37)).alloc (.cells #[] 5)) w.heap.size (.slice (some ⟨w2.heap.size + 1, 0, none⟩) 0 0) []) := by
    have h := own_empty (w2.alloc (.cells #[.int .i64 5, .int .i64 3, .slice none 0 0] 37)) w.heap.size (by rw [World.size_alloc]; exact Nat.le_trans (unhide B2).size (Nat.le_succ _))
    rw [World.size_alloc] at h
    exact h
  have X4 : Hid (Frm ((w2.alloc (.cells #[.int .i64 5, .int .i64 3, .slice none 0 0] 37)).alloc (.cells #[] 5)) w2.heap.size 5 3 (.slice none 0 0)) := blk_alloc (blk_new _ _) _
  have F4 : Hid (Frm ((w2.alloc (.cells #[.int .i64 5, .int .i64 3, .slice none 0 0] 37)).alloc (.cells #[] 5)) w.heap.size 0 0 (.slice none 0 0)) := blk_alloc (blk_alloc (unhide F2) _) _
  have B4 : Hid (Below w.heap.size w ((w2.alloc (.cells #[.int .i64 5, .int .i64 3, .slice none 0 0] 37)).alloc (.cells #[] 5))) := below_alloc (below_alloc (unhide B2) _) _
  have C4 : Hid (Kd.C (Kd.int .u8) ((w2.alloc (.cells #[.int .i64 5, .int .i64 3, .slice none 0 0] 37)).alloc (.cells #[] 5)) A9 yn ys) := Kd.C_alloc (Kd.C_alloc ((unhide HCR) _ (unhide C2)) _) _
  have N4 : Hid (w.heap.size < w2.heap.size) := blk_lt (unhide F2)
  obtain ⟨gx, hgx⟩ : ∃ g, g = w2.heap.size := ⟨_, rfl⟩
  rw [← hgx] at O4 X4 N4 ⊢
  generalize (w2.alloc (.cells #[.int .i64 5, .int .i64 3, .slice none 0 0] 37)).alloc (.cells #[] 5) = w4 at O4 X4 F4 B4 C4 ⊢
  clear hgx F2 B2 C2
  refine hide ?_
  refine Kd.R_append_row (w0 := w) (Value.int .u8) (0 : Int) w.heap.size rfl (.tmp 34) (.tmp 40) 22 5 (.int .u8 0) 1 rfl Try.underlying22 info5 rfl (by decide) (.slice (some ⟨gx + 1, 0, none⟩) 0 0) [] ys A9 yn (c - k1) (fun _ => True) rfl rfl (fun _ _ => trivial) (unhide O4) (unhide C4) (unhide B4) (unhide B4).size (by have := unhide HY; have := unhide HYN; simp only [List.length_nil]; omega) ?_
  intro v5 w5 hR5 hB5 hg5 hat5
  rw [List.nil_append] at hR5
  have X5 : Hid (Frm w5 gx 5 3 (.slice none 0 0)) := blk_grown (unhide X4) hg5 (by simp [Value.ownBlock])
  have F5 : Hid (Frm w5 w.heap.size 0 0 (.slice none 0 0)) := blk_grown (unhide F4) hg5 (by have := unhide N4; simp [Value.ownBlock]; omega)
  obtain ⟨A5, c5, rfl⟩ := Kd.R_slice hR5
  have R5 := hide hR5
  have B5 := hide hB5
  clear hR5 hB5 hg5 hat5 O4 X4 F4 B4 C4 e1 d1 hcut
  obtain ⟨⟨x0, x1, x2⟩, ⟨x3, x4, x5⟩, x6⟩ := (unhide X5).cells
  obtain ⟨⟨f0, f1, f2⟩, ⟨f3, f4, f5⟩, f6⟩ := (unhide F5).cells
  have NE : ¬ w.heap.size = gx := by have := unhide N4; omega
  go_wp2
  have g1 : Frm (w5.setCell ⟨gx, 2, none⟩ (.slice A5 ys.length c5)) w.heap.size 0 0 (.slice none 0 0) := blk_far (unhide F5) NE _
  have o1 : Own (w5.setCell ⟨gx, 2, none⟩ (.slice A5 ys.length c5)) w.heap.size (.slice A5 ys.length c5) ys := (unhide X5).own (unhide R5) 2 _
  have o2 := g1.own o1 0 (.int .i64 5)
  have g2 : Frm ((w5.setCell ⟨gx, 2, none⟩ (.slice A5 ys.length c5)).setCell ⟨w.heap.size, 0, none⟩ (.int .i64 5)) w.heap.size 5 0 (.slice none 0 0) := blk_put g1 0 _ rfl
  have o3 := g2.own o2 1 (.int .i64 3)
  have g3 : Frm (((w5.setCell ⟨gx, 2, none⟩ (.slice A5 ys.length c5)).setCell ⟨w.heap.size, 0, none⟩ (.int .i64 5)).setCell ⟨w.heap.size, 1, none⟩ (.int .i64 3)) w.heap.size 5 3 (.slice none 0 0) := blk_put g2 1 _ rfl
  have o4 := g3.own o3 2 (.slice A5 ys.length c5)
  have g4 : Frm ((((w5.setCell ⟨gx, 2, none⟩ (.slice A5 ys.length c5)).setCell ⟨w.heap.size, 0, none⟩ (.int .i64 5)).setCell ⟨w.heap.size, 1, none⟩ (.int .i64 3)).setCell ⟨w.heap.size, 2, none⟩ (.slice A5 ys.length c5)) w.heap.size 5 3 (.slice A5 ys.length c5) := blk_put g3 2 _ rfl
  have b4 : Below w.heap.size w ((((w5.setCell ⟨gx, 2, none⟩ (.slice A5 ys.length c5)).setCell ⟨w.heap.size, 0, none⟩ (.int .i64 5)).setCell ⟨w.heap.size, 1, none⟩ (.int .i64 3)).setCell ⟨w.heap.size, 2, none⟩ (.slice A5 ys.length c5)) := below_set (below_set (below_set (below_set (unhide B5) (Nat.le_of_lt (unhide N4))) (Nat.le_refl _)) (Nat.le_refl _)) (Nat.le_refl _)
  clear x0 x1 x2 x3 x4 x5 x6 f0 f1 f2 f3 f4 f5 f6 g1 o1 o2 g2 o3 g3
  generalize (((w5.setCell ⟨gx, 2, none⟩ (.slice A5 ys.length c5)).setCell ⟨w.heap.size, 0, none⟩ (.int .i64 5)).setCell ⟨w.heap.size, 1, none⟩ (.int .i64 3)).setCell ⟨w.heap.size, 2, none⟩ (.slice A5 ys.length c5) = w9 at o4 g4 b4 ⊢
  obtain ⟨⟨f0, f1, f2⟩, _, _⟩ := g4.cells
  rw [unhide HYN]
  refine bodyPost_ret (v := .tuple #[.agg #[.int .i64 5, .int .i64 3, .slice A5 ys.length c5], .int .i64 (n : Int), .nilIface]) (by simp [results, Try.results11, go_sem, f0, f1, f2, hu]; rw [← unhide HYN]; exact unhide E2) rfl ⟨A5, c5, rfl, o4, b4⟩
end Go.Proofs.Ytgoephcembgmcaa.Fr
