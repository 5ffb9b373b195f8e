import Derived.Test.YtgoephcembgmcaaRd2
import Derived.Test.YtgoephcembgmcaaFa3
import Derived.Test.YtgoephcembgmcaaSh8
import Derived.Test.YtgoephcembgmcaaLaw0
import Derived.Lib.SlBytesConst
set_option linter.unusedSimpArgs false
set_option linter.unusedVariables false
namespace Go.Proofs.Ytgoephcembgmcaa.Law
open Go.RowKit Go.Proofs.YtgoephcembgmcaaW.PrintWords Go.Proofs.YtgoephcembgmcaaW.PrintLast Go.Proofs.YtgoephcembgmcaaW.PrintMore Go.Proofs.Ytgoephcembgmcaa.Wk Go.Proofs.Ytgoephcembgmcaa.FrM Go.Proofs.Ytgoephcembgmcaa.Fr Go.Proofs.Ytgoephcembgmcaa.Sh
open Go.Proofs.Ytgoephcembgmcaa.WkM (w64 Bytes take_snoc St val)
theorem str_abc : (strOfNums (hexs (S [97, 98, 99]))).size = 64 ∧ (strOfNums (hexs (S [97, 98, 99]))).extract 0 8 = { data := #[98, 97, 55, 56, 49, 54, 98, 102] } := by
  rw [sabc]
  exact ⟨by kernel_rfl, by kernel_rfl⟩
theorem val_a : val [97] = 6357089 := by kernel_rfl
/-- A row of literal bytes, behind its conversion. -/
theorem lit_C (W : World) (xs : List Int) (fr : Nat × Nat) (hx : xs.length ≤ 1000) : Kd.C (Kd.int .u8) (W.alloc (.cells (bys xs) 5 fr)) (some ⟨W.heap.size, 0, none⟩) xs.length xs := by
  refine Kd.C_of_reads (d := (0 : Int)) (h1 := fun _ => rfl) ⟨rfl, by omega, fun hn => ⟨_, rfl, fun j hj => ?_⟩⟩
  have hadd : (⟨W.heap.size, 0, none⟩ : Addr).add j = ⟨W.heap.size, j, none⟩ := by unfold Addr.add; split <;> simp_all
  rw [hadd, cell_of_row _ _ j (bys xs) 5 fr (heap_alloc_new W _)]
  have := bys_get xs j hj
  rw [this]
  unfold rd
  rw [Int.toNat_natCast]
theorem bs_C {W : World} {g t : Nat} {xs : List Int} (h : Bs W g t xs) (hx : xs.length ≤ 1000) : Kd.C (Kd.int .u8) W (some ⟨g, 0, none⟩) xs.length xs := by
  refine Kd.C_of_reads (d := (0 : Int)) (h1 := fun _ => rfl) ⟨rfl, by omega, fun hn => ⟨_, rfl, fun j hj => ?_⟩⟩
  have hadd : (⟨g, 0, none⟩ : Addr).add j = ⟨g, j, none⟩ := by unfold Addr.add; split <;> simp_all
  rw [hadd, h.cell j hj]
  unfold rd
  rw [Int.toNat_natCast]
theorem win (l : List Int) (k j : Nat) (h : k + j < l.length) (hk : 1 ≤ k) :
    (l.take (k + j)).drop j = rd l (j : Int) :: (l.take (k + j)).drop (j + 1) ∧ (l.take (k + j + 1)).drop (j + 1) = (l.take (k + j)).drop (j + 1) ++ [rd l ((k + j : Nat) : Int)] := by
  have hl : (l.take (k + j)).length = k + j := by rw [List.length_take]; omega
  constructor
  · rw [WkM.drop_cons (l.take (k + j)) j (by omega)]
    congr 1
    unfold rd
    rw [Int.toNat_natCast, List.getD_eq_getElem?_getD, List.getD_eq_getElem?_getD, List.getElem?_take, if_pos (by omega)]
  · rw [take_snoc l (k + j) h, List.drop_append_of_le_length (by omega)]
def T3_7 : Bool × List (List Nat × List Nat) := (true, [([], []), ([0], [0]), ([], []), ([1, 2, 1], [1, 2]), ([], []), ([3, 4, 3], [3, 4]), ([5, 5, 0, 1, 2, 3, 4, 5], [5])])
def BT3_7 : List Nat := [0, 1, 0, 7, 0, 31, 63]
theorem tabT3_7 : rtab .any (opsOf Try.f3 7) = T3_7 := by kernel_rfl
theorem bitsT3_7 : waitsOk T3_7.2 BT3_7 = true := by kernel_rfl
def T3_16 : Bool × List (List Nat × List Nat) := (true, [([], []), ([0], [0]), ([1], [1]), ([2, 1], [2]), ([3], [3]), ([3], [3]), ([4, 5, 3], [3, 4, 5]), ([3, 6], [3, 6]), ([7, 3], [7]), ([8], [8]), ([9, 8], [8, 9]), ([8], [8]), ([11, 8], [8, 11]), ([10, 12, 8], [8, 10, 12]), ([8, 13], [8, 13]), ([14, 8], [14]), ([15], [15]), ([15], [15]), ([16, 17, 15], [15, 16, 17]), ([15, 18], [15, 18]), ([19, 15], [19]), ([20], [20]), ([21, 20, 20], [20, 21]), ([20], [20]), ([22, 23, 20], [20, 22, 23]), ([20, 24], [20, 24])])
def BT3_16 : List Nat := [0, 1, 3, 7, 15, 15, 63, 127, 255, 511, 1023, 511, 2559, 8191, 16383, 32767, 65535, 65535, 262143, 524287, 1048575, 2097151, 4194303, 2097151, 16777215, 33554431]
theorem tabT3_16 : rtab .any (opsOf Try.f3 16) = T3_16 := by kernel_rfl
theorem bitsT3_16 : waitsOk T3_16.2 BT3_16 = true := by kernel_rfl
def T3_24 : Bool × List (List Nat × List Nat) := (true, [([], []), ([], []), ([], []), ([], []), ([2, 3], [2, 3]), ([1, 4], [1, 4]), ([5], [5]), ([], []), ([], []), ([7, 8], [7, 8]), ([9], [9]), ([0, 6, 10], [0, 6, 10]), ([11, 11, 0, 1, 2, 3, 4, 5, 6, 7, 8, 9, 10, 11], [11])])
def BT3_24 : List Nat := [0, 0, 0, 0, 12, 30, 62, 0, 0, 384, 896, 2047, 4095]
theorem tabT3_24 : rtab .any (opsOf Try.f3 24) = T3_24 := by kernel_rfl
theorem bitsT3_24 : waitsOk T3_24.2 BT3_24 = true := by kernel_rfl
def T3_25 : Bool × List (List Nat × List Nat) := (true, [([], []), ([], []), ([], []), ([2], [2]), ([], []), ([3, 4], [3, 4]), ([1, 5], [1, 5]), ([6], [6]), ([0, 7], [0, 7]), ([8, 7, 0, 1, 2, 3, 4, 5, 6, 7, 8], [8])])
def BT3_25 : List Nat := [0, 0, 0, 4, 0, 28, 62, 126, 255, 511]
theorem tabT3_25 : rtab .any (opsOf Try.f3 25) = T3_25 := by kernel_rfl
theorem bitsT3_25 : waitsOk T3_25.2 BT3_25 = true := by kernel_rfl

set_option maxHeartbeats 4000000 in
set_option maxRecDepth 100000 in
theorem law_any (n : Int) (A : Option Addr) (c : Nat) (l : List Int) (size : Int) (w : World) (hr : Kd.C (Kd.int .u8) w A l.length l) (hl : Bytes l) (hc : l.length ≤ c) :
    Calls Try.prog 3 #[.int .i64 n, .slice A l.length c, .int .i64 size] w fun e w' => e = .returned (.bool true) ∧ Below w.heap.size w w' := by
  have HR := hide hr
  have HL := hide hl
  have HCL := hide hc
  clear hr hl hc
  have kc := Lib.run_convert_bytes_const (P := Try.prog) w 22 5 #[.int .u8 97, .int .u8 98, .int .u8 99] 3 3 Try.underlying22 Try.underlying5
  go_enter Try.func3, Try.ntmps3
  go_wp2_with fail
  clear kc
  have bA : Below w.heap.size w ((w.alloc (.cells (bys [97, 98, 99]) 5 (3, 4))).alloc (.cells #[.slice (some ⟨w.heap.size, 0, none⟩) 3 3] 22)) := below_alloc (below_alloc (Below.refl _ _) _) _
  have cA : Kd.C (Kd.int .u8) ((w.alloc (.cells (bys [97, 98, 99]) 5 (3, 4))).alloc (.cells #[.slice (some ⟨w.heap.size, 0, none⟩) 3 3] 22)) (some ⟨w.heap.size, 0, none⟩) ([97, 98, 99] : List Int).length [97, 98, 99] := Kd.C_alloc (lit_C w [97, 98, 99] (3, 4) (by decide)) _
  have rA : ((w.alloc (.cells (bys [97, 98, 99]) 5 (3, 4))).alloc (.cells #[.slice (some ⟨w.heap.size, 0, none⟩) 3 3] 22)).cell? ⟨w.heap.size + 1, 0, none⟩ = some (.slice (some ⟨w.heap.size, 0, none⟩) ([97, 98, 99] : List Int).length 3) := cell_of_row _ _ 0 #[.slice (some ⟨w.heap.size, 0, none⟩) 3 3] 22 (0, 0) (heap_alloc2_new w _ _)
  show Calls _ _ _ ((w.alloc (.cells (bys [97, 98, 99]) 5 (3, 4))).alloc (.cells #[.slice (some ⟨w.heap.size, 0, none⟩) 3 3] 22)) _
  generalize (w.alloc (.cells (bys [97, 98, 99]) 5 (3, 4))).alloc (.cells #[.slice (some ⟨w.heap.size, 0, none⟩) 3 3] 22) = w1 at bA cA rA ⊢
  refine (of_sum ⟨w.heap.size + 1, 0, none⟩ 1 (some ⟨w.heap.size, 0, none⟩) 3 [97, 98, 99] _ rA cA (by intro x hx; simp at hx; omega) (by simp) (by simp)).mono ?_
  rintro e w2 ⟨rfl, hb2⟩
  have B2 := hide (below_step bA hb2)
  clear bA cA rA hb2
  go_wp2_with fail
  refine (text_sum (S [97, 98, 99]) _ (S_bytes _) (S_len _)).mono ?_
  rintro e w3 ⟨rfl, hb3⟩
  have B3 := hide (below_step (unhide B2) hb3)
  clear B2 hb3
  obtain ⟨hs1, hs2⟩ := str_abc
  obtain ⟨tx, htx⟩ : ∃ t, t = strOfNums (hexs (S [97, 98, 99])) := ⟨_, rfl⟩
  rw [← htx] at hs1 hs2 ⊢
  clear htx
  have kc := Lib.run_convert_bytes_const (P := Try.prog) w3 22 5 #[.int .u8 97] 1 1 Try.underlying22 Try.underlying5
  go_wp2_with fail
  clear kc hs1 hs2
  have b4 : Below w.heap.size w (w3.alloc (.cells (bys [97]) 5 (1, 2))) := below_alloc (unhide B3) _
  show Calls _ _ _ (w3.alloc (.cells (bys [97]) 5 (1, 2))) _
  refine (of_any (some ⟨w3.heap.size, 0, none⟩) 1 [97] _ (lit_C w3 [97] (1, 2) (by decide)) (by simp) (by intro x hx; simp at hx; omega) (by simp)).mono ?_
  rintro e w4 ⟨rfl, hb4⟩
  have B4 := hide (below_step b4 hb4)
  clear B3 b4 hb4
  go_wp2_with fail
  refine (value_St [97] _).mono ?_
  rintro e w5 ⟨rfl, hb5⟩
  have B5 := hide (below_step (unhide B4) hb5)
  clear B4 hb5
  have hva := val_a
  by_cases q1 : 2000 < (l.length : Int)
  · go_wp2
    go_ret
    exact ⟨rfl, unhide B5⟩
  by_cases q2 : n < 0
  · go_wp2
    go_ret
    exact ⟨rfl, unhide B5⟩
  by_cases q3 : 1099511627776 < n
  · go_wp2
    go_ret
    exact ⟨rfl, unhide B5⟩
  obtain ⟨m, rfl⟩ := Int.eq_ofNat_of_zero_le (show 0 ≤ n by omega)
  go_wp2_with fail
  have HN : Hid (m ≤ 1099511627776) := by show _ ≤ _; omega
  have HLN : Hid (l.length ≤ 2000) := by show _ ≤ _; omega
  clear hva q1 q2 q3
  have b6 : Below w.heap.size w (w5.alloc (.cells #[.slice A l.length c] 22)) := below_alloc (unhide B5) _
  have r6 : (w5.alloc (.cells #[.slice A l.length c] 22)).cell? ⟨w5.heap.size, 0, none⟩ = some (.slice A l.length c) := cell_of_row _ _ 0 #[.slice A l.length c] 22 (0, 0) (blk_new w5 _)
  generalize w5.alloc (.cells #[.slice A l.length c] 22) = w6 at b6 r6 ⊢
  refine (of_sum ⟨w5.heap.size, 0, none⟩ 1 A c l _ r6 (Kd.C_below (unhide HR) b6) (unhide HL) (unhide HCL) (by have := unhide HLN; omega)).mono ?_
  rintro e w7 ⟨rfl, hb7⟩
  have B7 := hide (below_step b6 hb7)
  clear B5 b6 r6 hb7
  obtain ⟨sl, hsl⟩ : ∃ s, s = S l := ⟨_, rfl⟩
  have s32 : sl.length = 32 := by rw [hsl]; exact S_len l
  rw [← hsl]
  have HSL := hide hsl
  have HS32 := hide s32
  have SZ : Hid ((Try.prog.info? 25).map (·.size) = some (bys sl).size) := by show _ = _; rw [bys_size, s32]; exact size25
  clear hsl s32
  go_wp2_with (refine wpList_store_row rfl 25 _ _ rfl w7.heap.size (bys sl) rfl rfl 25 _ (blk_new _ _) (unhide SZ) (by rw [bys_size, unhide HS32]; rfl) (bys_one _) ?_; rw [World.setRow_alloc_new])
  have S8 : Hid (Bs (w7.alloc (.cells (bys sl) 25)) w7.heap.size 25 sl) := blk_new _ _
  have B8 : Hid (Below w.heap.size w (w7.alloc (.cells (bys sl) 25))) := below_alloc (unhide B7) _
  obtain ⟨gs, hgs⟩ : ∃ g, g = w7.heap.size := ⟨_, rfl⟩
  rw [← hgs] at S8 ⊢
  generalize w7.alloc (.cells (bys sl) 25) = w8 at S8 B8 ⊢
  clear B7 hgs
  have NS : Hid (w.heap.size ≤ w8.heap.size) := (unhide B8).size
  have C8 := hide (Kd.C_below (unhide HR) (unhide B8))
  have BR : Hid (Below w8.heap.size w8 w8.drew) := below_drew (Below.refl _ _)
  have HVL := hide (vnum_len 5 m (by have := unhide HN; omega))
  have HVT := hide (vnum_len 5 l.length (by have := unhide HLN; omega))
  refine start_ (n := 7) (S := fun _ => True) (ds := []) #[false, false, false, false, false, false, false] (by kernel_rfl) rfl rfl trivial (fun hHeld => ?_)
  refine with_tabW tabT3_7 bitsT3_7 (fun HT_ HW_ => ?_)
  refine pure_ (i := 0) (N := some 55) (v := ?_) (a' := ?_) #[true, false, false, false, false, false, false] rfl rfl (any_of HT_.out (by kernel_rfl)) (fun _ _ _ h => h) (Or.inl ⟨by rfl, ?_⟩) ?_ ?_
  rotate_left
  · intro w'
    go_simp
    with_reducible rfl
  rotate_left
  · simp only [Act.put, List.setIfInBounds_toArray, List.set_cons_zero, List.set_cons_succ, i64_w, i32_w]
    rfl
  refine pure_ (i := 2) (N := some 57) (v := ?_) (a' := ?_) #[true, false, true, false, false, false, false] rfl rfl (any_of HT_.out (by kernel_rfl)) (fun _ _ _ h => h) (Or.inl ⟨by rfl, ?_⟩) ?_ ?_
  rotate_left
  · intro w'
    go_simp
    with_reducible rfl
  rotate_left
  · simp only [Act.put, List.setIfInBounds_toArray, List.set_cons_zero, List.set_cons_succ, i64_w, i32_w]
    rfl
  refine pure_ (i := 4) (N := some 59) (v := ?_) (a' := ?_) #[true, false, true, false, true, false, false] rfl rfl (any_of HT_.out (by kernel_rfl)) (fun _ _ _ h => h) (Or.inl ⟨by rfl, ?_⟩) ?_ ?_
  rotate_left
  · intro w'
    go_simp
    with_reducible rfl
  rotate_left
  · simp only [Act.put, List.setIfInBounds_toArray, List.set_cons_zero, List.set_cons_succ, i64_w, i32_w]
    rfl
  refine one_ (i := 1) (N := some 56) #[true, true, true, false, true, false, false] rfl rfl (one_of HT_.out (by kernel_rfl)) (by decide) (fun K hK => ?_)
  refine goes_ Try.func9 (by kernel_rfl) rfl #[.slice none 0 0, .int .i64 (m : Int)] (by rfl) rfl rfl (by (try simp only [List.map_toArray, List.map_cons, List.map_nil]); first | done | rfl) ?_
  refine (num_ok w8.heap.size (.slice none 0 0) [] m w8.drew (Kd.R_nil _ _ _ _ _) (Nat.le_refl _) (unhide HN) (by simp)).mono ?_
  rintro e w9 ⟨A9, c9, rfl, hO9, hB9, _⟩
  refine ⟨_, rfl, ?_⟩
  rw [List.nil_append] at hO9
  have O9 := hide hO9
  have B9 := hide ((unhide BR).trans hB9)
  clear hO9 hB9
  clear hHeld
  refine hK.out _ _ trivial (fun hHeld => ?_)
  clear hK K
  refine norm_ (a' := ?_) ?_ ?_
  rotate_left
  · show Act.put _ (some 56) _ = _
    simp only [Act.put, List.setIfInBounds_toArray, List.set_cons_zero, List.set_cons_succ, i64_w, i32_w]
    rfl
  refine one_ (i := 3) (N := some 58) #[true, true, true, true, true, false, false] rfl rfl (one_of HT_.out (by kernel_rfl)) (by decide) (fun K hK => ?_)
  refine goes_ Try.func8 (by kernel_rfl) rfl #[.slice A9 (vnum m).length c9, .slice A l.length c] (by rfl) rfl rfl (by (try simp only [List.map_toArray, List.map_cons, List.map_nil]); first | done | rfl) ?_
  refine (text_ok w8.heap.size (.slice A9 (vnum m).length c9) (vnum m) A c l _ (unhide O9) (fun wx hw => Kd.C_below (unhide C8) ((unhide B9).trans hw)) (unhide B9).size (unhide HCL) (by have := unhide HLN; omega) (by have := unhide HVL; omega)).mono ?_
  rintro e w10 ⟨A10, c10, rfl, hO10, hB10, _⟩
  refine ⟨_, rfl, ?_⟩
  obtain ⟨p1, hp1⟩ : ∃ p, p = vnum m ++ vnum l.length ++ l := ⟨_, rfl⟩
  rw [← hp1] at hO10 ⊢
  have HP1 := hide hp1
  have O10 := hide hO10
  have B10 := hide ((unhide B9).trans hB10)
  have S10 := hide ((unhide S8).below (unhide B10))
  have PL : Hid (p1.length ≤ 2012) := by have h1 := unhide HVL; have h2 := unhide HVT; have h3 := unhide HLN; show _ ≤ _; rw [hp1, List.length_append, List.length_append]; omega
  have CS : Hid (Kd.C (Kd.int .u8) w10 (some ⟨gs, 0, none⟩) 32 sl) := by have h := bs_C (unhide S10) (by have := unhide HS32; omega); rwa [unhide HS32] at h
  clear hO10 hB10 hp1
  clear hHeld
  refine hK.out _ _ trivial (fun hHeld => ?_)
  clear hK K
  refine norm_ (a' := ?_) ?_ ?_
  rotate_left
  · show Act.put _ (some 58) _ = _
    simp only [Act.put, List.setIfInBounds_toArray, List.set_cons_zero, List.set_cons_succ, i64_w, i32_w]
    rfl
  refine one_ (i := 5) (N := some 60) #[true, true, true, true, true, true, false] rfl rfl (one_of HT_.out (by kernel_rfl)) (by decide) (fun K hK => ?_)
  refine Kd.R_append_rows_step (Kd.int .u8) (Rr := (Kd.int .u8).K w10) (w0 := w8) w8.heap.size (by rfl) (.tmp 58) (.tmp 59) 22 5 (.int .u8 0) 1 rfl Try.underlying22 info5 rfl (by decide) (by decide) (.slice A10 p1.length c10) p1 sl (some ⟨gs, 0, none⟩) 32 32 (fun _ => True) (fun _ => False) rfl rfl (unhide O10) (unhide CS) (fun x cs h => h) (fun k h => h.elim) (fun _ _ => trivial) (unhide B10) (unhide B10).size (by have := unhide PL; omega) ?_
  intro v11 w11 hR11 hB11 hg11 hat11
  obtain ⟨A11, c11, rfl⟩ := Kd.R_slice hR11
  obtain ⟨D, hD⟩ : ∃ p, p = p1 ++ sl := ⟨_, rfl⟩
  rw [← hD] at hR11 ⊢
  have HD : Hid (D = vnum m ++ vnum l.length ++ l ++ sl) := by show _ = _; rw [hD, unhide HP1]
  have DL : Hid (D.length ≤ 2044) := by have h1 := unhide PL; have h2 := unhide HS32; show _ ≤ _; rw [hD, List.length_append]; omega
  have O11 := hide hR11
  have B11 := hide hB11
  clear hR11 hB11 hg11 hat11 hD
  clear hHeld
  refine hK.out _ _ trivial (fun hHeld => ?_)
  clear hK K
  refine norm_ (a' := ?_) ?_ ?_
  rotate_left
  · show Act.put _ (some 60) _ = _
    simp only [Act.put, List.setIfInBounds_toArray, List.set_cons_zero, List.set_cons_succ, i64_w, i32_w]
    rfl
  refine pure_ (i := 6) (N := some 9) (v := ?_) (a' := ?_) #[true, true, true, true, true, true, true] rfl rfl (any_of HT_.out (by kernel_rfl)) (fun _ _ _ h => h) (Or.inl ⟨by rfl, ?_⟩) ?_ ?_
  rotate_left
  · intro w'
    go_simp
    with_reducible rfl
  rotate_left
  · simp only [Act.put, List.setIfInBounds_toArray, List.set_cons_zero, List.set_cons_succ, i64_w, i32_w]
    rfl
  refine done_ (done_of HT_.out (by kernel_rfl)) ?_
  clear HT_ HW_ hHeld
  clear O9 B9 O10 B10 CS
  have S11 := hide ((unhide S8).below (unhide B11))
  have W11 := hide (below_weaken (unhide B8) (unhide NS) (unhide B11))
  have D11 := hide (own_reads (unhide O11))
  have kc := Lib.run_convert_bytes_const (P := Try.prog) w11 22 5 #[.int .u8 102, .int .u8 114, .int .u8 111, .int .u8 110, .int .u8 116] 5 5 Try.underlying22 Try.underlying5
  go_wp2_with fail
  clear kc
  have bF : Below w11.heap.size w11 (w11.alloc (.cells (bys [102, 114, 111, 110, 116]) 5 (5, 6))) := below_alloc (Below.refl _ _) _
  show Calls _ _ _ (w11.alloc (.cells (bys [102, 114, 111, 110, 116]) 5 (5, 6))) _
  refine (append_53 ⟨w11.heap.size, 0, none⟩ [102, 114, 111, 110, 116] A11 c11 D _ (lit_C w11 [102, 114, 111, 110, 116] (5, 6) (by decide)) (Kd.C_alloc (unhide D11).2.2 _) (unhide D11).2.1 (by have := unhide DL; omega) (by simp)).mono ?_
  rintro e w13 ⟨A12, c12, rfl, hO13, hB13⟩
  have X13 := hide (bF.trans (hB13.mono bF.size))
  have O13 := hide (own_reads hO13)
  clear bF hO13 hB13
  obtain ⟨al, hal⟩ : ∃ a, a = [102, 114, 111, 110, 116] ++ [43] ++ vnum D.length ++ D := ⟨_, rfl⟩
  rw [← hal] at O13 ⊢
  have hvd := vnum_len 5 D.length (by have := unhide DL; omega)
  have hall : al.length = 6 + (vnum D.length).length + D.length := by rw [hal, List.length_append, List.length_append]; simp only [List.length_append, List.length_cons, List.length_nil]
  have hal5 : al.take 5 = [102, 114, 111, 110, 116] := by rw [hal]; rfl
  have hald : al.drop 5 = 43 :: (vnum D.length ++ D) := by rw [hal]; simp
  obtain ⟨t5, t6, t7⟩ := take_any A12 c12 al 5 (unhide O13).2.1 (by omega)
  obtain ⟨A13, d5, d6, d7⟩ := drop_any A12 c12 al 5 (unhide O13).2.1 (by omega)
  rw [hal5] at t5 t6
  obtain ⟨L, hL⟩ : ∃ L, L = al.drop 5 := ⟨_, rfl⟩
  rw [← hL] at d5 d6 d7 hald
  obtain ⟨nn, hnn⟩ : ∃ q, q = L.length := ⟨_, rfl⟩
  have hnl : nn = al.length - 5 := by rw [hnn, hL, List.length_drop]
  have hCL := d6 _ (unhide O13).2.2
  rw [← hnn] at d5 d7 hCL
  obtain ⟨ad, rfl⟩ : ∃ a, A13 = some a := by
    obtain ⟨a, ha, _⟩ := Kd.at_int hCL 0 (by omega) (by omega)
    exact ⟨a, ha⟩
  have K5 : ∀ W : World, (Instr.slice 22 (.slice A12 al.length c12) none (some (.int .i64 5)) none).run Try.prog W = .ok (.slice A12 5 c12) W := t5
  obtain ⟨c13, hc13⟩ : ∃ q, q = c12 - 5 := ⟨_, rfl⟩
  rw [← hc13] at d5 d7
  have D5 : ∀ W : World, (Instr.slice 22 (.slice A12 al.length c12) (some (.int .i64 5)) none none).run Try.prog W = .ok (.slice (some ad) nn c13) W := d5
  have kcv : (convert 22 9 (.slice A12 5 c12)).run Try.prog w13 = .ok (.string { data := #[102, 114, 111, 110, 116] }) w13 := by
    have h := Kd.C_string (P := Try.prog) (c := c12) Try.underlying22 Try.underlying5 Try.underlying9 (t6 _ (unhide O13).2.2)
    exact h
  have HAL : Hid (wrap64 ((al.length : Int) - 5) = (nn : Int)) := by show _ = _; rw [w64 _ (by have := unhide DL; omega) (by have := unhide DL; omega)]; omega
  have HCL2 := hide hCL
  have HLD := hide hald
  have HNC := hide d7
  clear hvd hall hal5 hald t5 t6 t7 d5 d6 d7 hL hnn hnl hCL hc13 hal
  go_wp2_with fail
  clear K5 D5 kcv
  have M13 := hide (below_step (unhide W11) (unhide X13))
  have S13 := hide ((unhide S11).below (unhide X13))
  clear X13 W11 S11 O11 B11 D11 C8 BR S8 B8 NS O13
  refine (fread_ok ad nn c13 L D _ (unhide HCL2) (unhide HLD) (by have := unhide DL; omega) (unhide HNC)).mono ?_
  rintro e w14 ⟨A14, c14, rfl, hO14, hB14⟩
  have M14 := hide (below_step (unhide M13) hB14)
  have S14 := hide ((unhide S13).below hB14)
  have O14 := hide (own_reads hO14)
  clear hO14 hB14 M13 S13 HCL2 HLD HNC
  have D0 : Hid (D.length = (vnum m).length + ((vnum l.length).length + (l.length + 32))) := by have h := unhide HS32; show _ = _; rw [unhide HD]; simp only [List.length_append]; omega
  obtain ⟨ad14, rfl⟩ : ∃ a, A14 = some a := by
    obtain ⟨a, ha, _⟩ := Kd.at_int (unhide O14).2.2 0 (by omega) (by have := unhide D0; omega)
    exact ⟨a, ha⟩
  have hal := unhide HAL
  go_wp2_with fail
  clear hal
  have F15 : Hid (Frm (w14.alloc (.cells #[.int .i64 5, .int .i64 3, .slice (some ad14) D.length c14] 37)) w14.heap.size 5 3 (.slice (some ad14) D.length c14)) := blk_new _ _
  have M15 : Hid (Below w.heap.size w (w14.alloc (.cells #[.int .i64 5, .int .i64 3, .slice (some ad14) D.length c14] 37))) := below_alloc (unhide M14) _
  have S15 : Hid (Bs (w14.alloc (.cells #[.int .i64 5, .int .i64 3, .slice (some ad14) D.length c14] 37)) gs 25 sl) := (unhide S14).alloc _
  have C15 : Hid (Kd.C (Kd.int .u8) (w14.alloc (.cells #[.int .i64 5, .int .i64 3, .slice (some ad14) D.length c14] 37)) (some ad14) D.length D) := Kd.C_alloc (unhide O14).2.2 _
  have HDC : Hid (D.length ≤ c14) := (unhide O14).2.1
  generalize w14.alloc (.cells #[.int .i64 5, .int .i64 3, .slice (some ad14) D.length c14] 37) = w15 at F15 M15 S15 C15 ⊢
  clear M14 S14 O14
  refine (read_any (some ad14) D.length c14 _).mono ?_
  rintro e w16 ⟨rfl, hR16, hB16⟩
  have R16 := hide hR16
  have M16 := hide (below_step (unhide M15) hB16)
  have S16 := hide ((unhide S15).below hB16)
  have C16 := hide (Kd.C_below (unhide C15) hB16)
  have NG : Hid (w.heap.size ≤ w15.heap.size) := (unhide M15).size
  have NE : Hid (ad14.block ≠ w15.heap.size) := by
    obtain ⟨a, ha, hc⟩ := Kd.at_int (unhide C15) 0 (by omega) (by have := unhide D0; omega)
    cases ha
    have h1 := World.block_lt_of_cell? w15 _ hc
    have h2 : (ad14.add (Int.toNat 0)).block = ad14.block := by unfold Addr.add; split <;> rfl
    rw [h2] at h1
    show _ ≠ _
    omega
  have NSG : Hid (gs < w15.heap.size) := (unhide S15).lt
  obtain ⟨g, hg⟩ : ∃ g, g = w15.heap.size := ⟨_, rfl⟩
  rw [← hg] at R16 NG NE NSG ⊢
  clear hR16 hB16 hg F15 M15 S15 C15
  go_wp2_with fail
  refine (num_rd g w.heap.size ad14 D.length c14 0 m D (vnum l.length ++ (l ++ sl)) _ (unhide R16) (unhide C16) (by rw [List.drop_zero, unhide HD]; simp only [List.append_assoc]) (unhide HN) (by have := unhide DL; omega) (unhide NE) (unhide NG)).mono ?_
  rintro e w17 ⟨rfl, hR17, hB17, hK17⟩
  have R17 := hide hR17
  have M17 := hide ((unhide M16).trans hB17)
  have K17 := hide hK17
  have S17 : Hid (Bs w17 gs 25 sl) := hK17.blk (unhide S16) (by have := unhide NSG; omega) (by simp)
  have C17 := hide (C_keep (unhide C16) hK17 (unhide NE))
  clear hR17 hB17 hK17 R16 M16 S16 C16 K17
  go_wp2_with fail
  refine (text_rd g w.heap.size ad14 D.length c14 (0 + (vnum m).length) D l sl _ (unhide R17) (unhide C17) (by rw [unhide HD, Nat.zero_add, List.append_assoc, List.append_assoc, List.drop_left]) (by have := unhide HLN; omega) (by have := unhide DL; omega) (unhide HDC) (unhide NE) (unhide NG) (by have := unhide D0; omega)).mono ?_
  rintro e w18 ⟨A18, c18, rfl, hO18, hR18, hB18, hK18⟩
  have O18 := hide hO18
  have R18 := hide hR18
  have M18 := hide ((unhide M17).trans hB18)
  have S18 : Hid (Bs w18 gs 25 sl) := hK18.blk (unhide S17) (by have := unhide NSG; omega) (by simp)
  have C18 := hide (C_keep (unhide C17) hK18 (unhide NE))
  clear hO18 hR18 hB18 hK18 R17 M17 S17 C17
  go_wp2_with fail
  refine (sum_rd g w.heap.size ad14 D.length c14 (0 + (vnum m).length + (vnum l.length).length + l.length) D sl [] _ (unhide R18) (unhide C18) (by rw [unhide HD, List.append_nil, Nat.zero_add, ← List.length_append, ← List.length_append, List.drop_left]) (unhide HS32) (by have := unhide DL; omega) (unhide HDC) (unhide NE) (unhide NG) (by have := unhide D0; omega)).mono ?_
  rintro e w19 ⟨rfl, hR19, hB19, hK19⟩
  have e19 : 0 + (vnum m).length + (vnum l.length).length + l.length + 32 = D.length := by have := unhide D0; omega
  rw [e19] at hR19
  have R19 := hide hR19
  have M19 := hide ((unhide M18).trans hB19)
  have S19 : Hid (Bs w19 gs 25 sl) := hK19.blk (unhide S18) (by have := unhide NSG; omega) (by simp)
  have O19 := hide (Kd.R_keep (unhide O18) hK19 (fun _ h => h))
  clear hR19 hB19 hK19 R18 M18 S18 C18 O18 e19
  go_wp2_with (refine wpList_store_row rfl 25 _ _ rfl w19.heap.size (bys sl) rfl rfl 25 _ (blk_new _ _) (unhide SZ) (by rw [bys_size, unhide HS32]; rfl) (bys_one _) ?_; rw [World.setRow_alloc_new])
  have T20 : Hid (Bs (w19.alloc (.cells (bys sl) 25)).drew w19.heap.size 25 sl) := blk_new _ _
  have S20 : Hid (Bs (w19.alloc (.cells (bys sl) 25)).drew gs 25 sl) := (unhide S19).alloc _
  have R20 : Hid (Rdr (w19.alloc (.cells (bys sl) 25)).drew g (.slice (some ad14) D.length c14) (D.length : Int)) := (unhide R19).alloc _
  have M20 : Hid (Below w.heap.size w (w19.alloc (.cells (bys sl) 25)).drew) := below_drew (below_alloc (unhide M19) _)
  have O20 : Hid (OwnG g (w19.alloc (.cells (bys sl) 25)).drew w17.heap.size (.slice A18 l.length c18) l) := Kd.R_drew (Kd.R_alloc (unhide O19) _)
  obtain ⟨gt, hgt⟩ : ∃ q, q = w19.heap.size := ⟨_, rfl⟩
  rw [← hgt] at T20 ⊢
  generalize w19.alloc (.cells (bys sl) 25) = w20 at T20 S20 R20 M20 O20 ⊢
  clear hgt R19 M19 S19 O19
  have CA20 := hide (Kd.C_below (unhide HR) (unhide M20))
  have CB20 := hide (Kd.R_reads' (unhide O20)).2.2
  have HC18 := hide (Kd.R_reads' (unhide O20)).2.1
  have nq := fun W => neq25 sl (unhide HS32) W
  refine start_ (n := 26) (S := fun w' => (Bs w' gt 25 sl ∧ Bs w' gs 25 sl) ∧ Kd.C (Kd.int .u8) w' A l.length l ∧ Kd.C (Kd.int .u8) w' A18 l.length l) (ds := []) #[false, false, false, false, false, false, false, false, false, false, false, false, false, false, false, false, false, false, false, false, false, false, false, false, false, false] (by kernel_rfl) rfl rfl ⟨⟨unhide T20, unhide S20⟩, unhide CA20, unhide CB20⟩ (fun hHeld => ?_)
  refine with_tabW tabT3_16 bitsT3_16 (fun HT_ HW_ => ?_)
  refine pure_ (i := 0) (N := some 112) (v := ?_) (a' := ?_) #[true, false, false, false, false, false, false, false, false, false, false, false, false, false, false, false, false, false, false, false, false, false, false, false, false, false] rfl rfl (any_of HT_.out (by kernel_rfl)) (fun _ _ _ h => h) (Or.inl ⟨by rfl, ?_⟩) ?_ ?_
  rotate_left
  · intro w'
    go_simp
    with_reducible rfl
  rotate_left
  · simp only [Act.put, List.setIfInBounds_toArray, List.set_cons_zero, List.set_cons_succ, i64_w, i32_w]
    rfl
  refine one_ (i := 1) (N := some 113) #[true, true, false, false, false, false, false, false, false, false, false, false, false, false, false, false, false, false, false, false, false, false, false, false, false, false] rfl rfl (one_of HT_.out (by kernel_rfl)) (by decide) (fun K hK => ?_)
  refine goes_ Try.func16 (by kernel_rfl) rfl #[.pointer (some ⟨g, 0, none⟩)] (by rfl) rfl rfl (by (try simp only [List.map_toArray, List.map_cons, List.map_nil]); first | done | rfl) ?_
  refine (end_ok g D.length c14 (some ad14) w20.drew (unhide R20)).mono ?_
  rintro e w21 ⟨rfl, hb⟩
  refine ⟨_, rfl, ?_⟩
  have T21 := hide ((unhide T20).below hb)
  have S21 := hide ((unhide S20).below hb)
  have M21 := hide (below_step (unhide M20) hb)
  have CA21 := hide (Kd.C_below (unhide CA20) hb)
  have CB21 := hide (Kd.C_below (unhide CB20) hb)
  clear hb
  clear hHeld
  refine hK.out _ _ ⟨⟨unhide T21, unhide S21⟩, unhide CA21, unhide CB21⟩ (fun hHeld => ?_)
  clear hK K
  refine norm_ (a' := ?_) ?_ ?_
  rotate_left
  · show Act.put _ (some 113) _ = _
    simp only [Act.put, List.setIfInBounds_toArray, List.set_cons_zero, List.set_cons_succ, i64_w, i32_w]
    rfl
  refine pure_ (i := 2) (N := some 114) (v := ?_) (a' := ?_) #[true, true, true, false, false, false, false, false, false, false, false, false, false, false, false, false, false, false, false, false, false, false, false, false, false, false] rfl rfl (any_of HT_.out (by kernel_rfl)) (fun _ _ _ h => h) (Or.inl ⟨by rfl, ?_⟩) ?_ ?_
  rotate_left
  · intro w'
    go_simp
    with_reducible rfl
  rotate_left
  · simp only [Act.put, List.setIfInBounds_toArray, List.set_cons_zero, List.set_cons_succ, i64_w, i32_w]
    rfl
  refine pure_ (i := 3) (N := some 115) (v := ?_) (a' := ?_) #[true, true, true, true, false, false, false, false, false, false, false, false, false, false, false, false, false, false, false, false, false, false, false, false, false, false] rfl rfl (any_of HT_.out (by kernel_rfl)) (fun _ _ _ h => h) (Or.inl ⟨by rfl, ?_⟩) ?_ ?_
  rotate_left
  · intro w'
    go_simp
    with_reducible rfl
  rotate_left
  · simp only [Act.put, List.setIfInBounds_toArray, List.set_cons_zero, List.set_cons_succ, i64_w, i32_w]
    rfl
  refine pure_ (i := 4) (N := some 116) (v := ?_) (a' := ?_) #[true, true, true, true, true, false, false, false, false, false, false, false, false, false, false, false, false, false, false, false, false, false, false, false, false, false] rfl rfl (any_of HT_.out (by kernel_rfl)) (fun _ _ _ h => h) (Or.inl ⟨by rfl, ?_⟩) ?_ ?_
  rotate_left
  · intro w'
    go_simp
    with_reducible rfl
  rotate_left
  · simp only [Act.put, List.setIfInBounds_toArray, List.set_cons_zero, List.set_cons_succ, i64_w, i32_w]
    rfl
  refine pure_ (i := 5) (N := some 117) (v := ?_) (a' := ?_) #[true, true, true, true, true, true, false, false, false, false, false, false, false, false, false, false, false, false, false, false, false, false, false, false, false, false] rfl rfl (any_of HT_.out (by kernel_rfl)) (fun _ _ _ h => h) (Or.inl ⟨by rfl, ?_⟩) ?_ ?_
  rotate_left
  · intro w'
    go_simp
    with_reducible rfl
  rotate_left
  · simp only [Act.put, List.setIfInBounds_toArray, List.set_cons_zero, List.set_cons_succ, i64_w, i32_w]
    rfl
  refine pure_ (i := 6) (N := some 118) (v := ?_) (a' := ?_) #[true, true, true, true, true, true, true, false, false, false, false, false, false, false, false, false, false, false, false, false, false, false, false, false, false, false] rfl rfl (any_of HT_.out (by kernel_rfl)) (fun _ _ _ h => h) (Or.inl ⟨by rfl, ?_⟩) ?_ ?_
  rotate_left
  · intro w'
    go_simp
    with_reducible rfl
  rotate_left
  · simp only [Act.put, List.setIfInBounds_toArray, List.set_cons_zero, List.set_cons_succ, i64_w, i32_w]
    rfl
  refine pure_ (i := 7) (N := some 119) (v := ?_) (a' := ?_) #[true, true, true, true, true, true, true, true, false, false, false, false, false, false, false, false, false, false, false, false, false, false, false, false, false, false] rfl rfl (any_of HT_.out (by kernel_rfl)) (fun _ _ _ h => h) (Or.inl ⟨by rfl, ?_⟩) ?_ ?_
  rotate_left
  · intro w'
    go_simp
    with_reducible rfl
  rotate_left
  · simp only [Act.put, List.setIfInBounds_toArray, List.set_cons_zero, List.set_cons_succ, i64_w, i32_w]
    rfl
  refine pure_ (i := 8) (N := some 120) (v := ?_) (a' := ?_) #[true, true, true, true, true, true, true, true, true, false, false, false, false, false, false, false, false, false, false, false, false, false, false, false, false, false] rfl rfl (any_of HT_.out (by kernel_rfl)) (fun _ _ _ h => h) (Or.inl ⟨by rfl, ?_⟩) ?_ ?_
  rotate_left
  · intro w'
    go_simp
    with_reducible rfl
  rotate_left
  · simp only [Act.put, List.setIfInBounds_toArray, List.set_cons_zero, List.set_cons_succ, i64_w, i32_w]
    rfl
  refine pure_ (i := 9) (N := some 121) (v := ?_) (a' := ?_) #[true, true, true, true, true, true, true, true, true, true, false, false, false, false, false, false, false, false, false, false, false, false, false, false, false, false] rfl rfl (any_of HT_.out (by kernel_rfl)) (fun _ _ _ h => h) (Or.inl ⟨by rfl, ?_⟩) ?_ ?_
  rotate_left
  · intro w'
    go_simp
    with_reducible rfl
  rotate_left
  · simp only [Act.put, List.setIfInBounds_toArray, List.set_cons_zero, List.set_cons_succ, i64_w, i32_w]
    rfl
  refine take_ (i := 10) (N := some 122) (v := ?_) (a' := ?_) #[true, true, true, true, true, true, true, true, true, true, true, false, false, false, false, false, false, false, false, false, false, false, false, false, false, false] rfl rfl (take_ofW HT_.out HW_.out (by kernel_rfl)) (fun _ _ _ h => h) (Or.inl ⟨by rfl, ?_⟩) hHeld ?_ ?_
  rotate_left
  · rintro w' ⟨⟨h1_, h2_⟩, h3_, h4_⟩
    have cv1 : (convert 22 9 (.slice A l.length c)).run Try.prog w' = .ok (.string (strOfNums l)) w' := Kd.C_string Try.underlying22 Try.underlying5 Try.underlying9 h3_
    have cv2 : (convert 22 9 (.slice A18 l.length c18)).run Try.prog w' = .ok (.string (strOfNums l)) w' := Kd.C_string Try.underlying22 Try.underlying5 Try.underlying9 h4_
    clear h3_ h4_
    go_simp
    with_reducible rfl
  rotate_left
  · simp only [Act.put, List.setIfInBounds_toArray, List.set_cons_zero, List.set_cons_succ, i64_w, i32_w]
    rfl
  refine pure_ (i := 11) (N := some 123) (v := ?_) (a' := ?_) #[true, true, true, true, true, true, true, true, true, true, true, true, false, false, false, false, false, false, false, false, false, false, false, false, false, false] rfl rfl (any_of HT_.out (by kernel_rfl)) (fun _ _ _ h => h) (Or.inl ⟨by rfl, ?_⟩) ?_ ?_
  rotate_left
  · intro w'
    go_simp
    with_reducible rfl
  rotate_left
  · simp only [Act.put, List.setIfInBounds_toArray, List.set_cons_zero, List.set_cons_succ, i64_w, i32_w]
    rfl
  refine take_ (i := 12) (N := some 124) (v := ?_) (a' := ?_) #[true, true, true, true, true, true, true, true, true, true, true, true, true, false, false, false, false, false, false, false, false, false, false, false, false, false] rfl rfl (take_ofW HT_.out HW_.out (by kernel_rfl)) (fun _ _ _ h => h) (Or.inl ⟨by rfl, ?_⟩) hHeld ?_ ?_
  rotate_left
  · rintro w' ⟨⟨h1_, h2_⟩, h3_, h4_⟩
    have cv1 : (convert 22 9 (.slice A l.length c)).run Try.prog w' = .ok (.string (strOfNums l)) w' := Kd.C_string Try.underlying22 Try.underlying5 Try.underlying9 h3_
    have cv2 : (convert 22 9 (.slice A18 l.length c18)).run Try.prog w' = .ok (.string (strOfNums l)) w' := Kd.C_string Try.underlying22 Try.underlying5 Try.underlying9 h4_
    clear h3_ h4_
    go_simp
    with_reducible rfl
  rotate_left
  · simp only [Act.put, List.setIfInBounds_toArray, List.set_cons_zero, List.set_cons_succ, i64_w, i32_w]
    rfl
  refine pure_ (i := 13) (N := some 125) (v := ?_) (a' := ?_) #[true, true, true, true, true, true, true, true, true, true, true, true, true, true, false, false, false, false, false, false, false, false, false, false, false, false] rfl rfl (any_of HT_.out (by kernel_rfl)) (fun _ _ _ h => h) (Or.inl ⟨by rfl, ?_⟩) ?_ ?_
  rotate_left
  · intro w'
    go_simp
    with_reducible rfl
  rotate_left
  · simp only [Act.put, List.setIfInBounds_toArray, List.set_cons_zero, List.set_cons_succ, i64_w, i32_w]
    rfl
  refine pure_ (i := 14) (N := some 126) (v := ?_) (a' := ?_) #[true, true, true, true, true, true, true, true, true, true, true, true, true, true, true, false, false, false, false, false, false, false, false, false, false, false] rfl rfl (any_of HT_.out (by kernel_rfl)) (fun _ _ _ h => h) (Or.inl ⟨by rfl, ?_⟩) ?_ ?_
  rotate_left
  · intro w'
    go_simp
    with_reducible rfl
  rotate_left
  · simp only [Act.put, List.setIfInBounds_toArray, List.set_cons_zero, List.set_cons_succ, i64_w, i32_w]
    rfl
  refine pure_ (i := 15) (N := some 127) (v := ?_) (a' := ?_) #[true, true, true, true, true, true, true, true, true, true, true, true, true, true, true, true, false, false, false, false, false, false, false, false, false, false] rfl rfl (any_of HT_.out (by kernel_rfl)) (fun _ _ _ h => h) (Or.inl ⟨by rfl, ?_⟩) ?_ ?_
  rotate_left
  · intro w'
    go_simp
    with_reducible rfl
  rotate_left
  · simp only [Act.put, List.setIfInBounds_toArray, List.set_cons_zero, List.set_cons_succ, i64_w, i32_w]
    rfl
  refine take_ (i := 16) (N := some 128) (v := ?_) (a' := ?_) #[true, true, true, true, true, true, true, true, true, true, true, true, true, true, true, true, true, false, false, false, false, false, false, false, false, false] rfl rfl (take_ofW HT_.out HW_.out (by kernel_rfl)) (fun _ _ _ h => h) (Or.inl ⟨by rfl, ?_⟩) hHeld ?_ ?_
  rotate_left
  · rintro w' ⟨⟨h1_, h2_⟩, h3_, h4_⟩
    have cv1 : (convert 22 9 (.slice A l.length c)).run Try.prog w' = .ok (.string (strOfNums l)) w' := Kd.C_string Try.underlying22 Try.underlying5 Try.underlying9 h3_
    have cv2 : (convert 22 9 (.slice A18 l.length c18)).run Try.prog w' = .ok (.string (strOfNums l)) w' := Kd.C_string Try.underlying22 Try.underlying5 Try.underlying9 h4_
    clear h3_ h4_
    refine exec_load25 (.tmp 18) ?_ ?_ h1_ (unhide HS32)
    all_goals rfl
  rotate_left
  · simp only [Act.put, List.setIfInBounds_toArray, List.set_cons_zero, List.set_cons_succ, i64_w, i32_w]
    rfl
  refine take_ (i := 17) (N := some 129) (v := ?_) (a' := ?_) #[true, true, true, true, true, true, true, true, true, true, true, true, true, true, true, true, true, true, false, false, false, false, false, false, false, false] rfl rfl (take_ofW HT_.out HW_.out (by kernel_rfl)) (fun _ _ _ h => h) (Or.inl ⟨by rfl, ?_⟩) hHeld ?_ ?_
  rotate_left
  · rintro w' ⟨⟨h1_, h2_⟩, h3_, h4_⟩
    have cv1 : (convert 22 9 (.slice A l.length c)).run Try.prog w' = .ok (.string (strOfNums l)) w' := Kd.C_string Try.underlying22 Try.underlying5 Try.underlying9 h3_
    have cv2 : (convert 22 9 (.slice A18 l.length c18)).run Try.prog w' = .ok (.string (strOfNums l)) w' := Kd.C_string Try.underlying22 Try.underlying5 Try.underlying9 h4_
    clear h3_ h4_
    refine exec_load25 (.tmp 8) ?_ ?_ h2_ (unhide HS32)
    all_goals rfl
  rotate_left
  · simp only [Act.put, List.setIfInBounds_toArray, List.set_cons_zero, List.set_cons_succ, i64_w, i32_w]
    rfl
  refine pure_ (i := 18) (N := some 130) (v := ?_) (a' := ?_) #[true, true, true, true, true, true, true, true, true, true, true, true, true, true, true, true, true, true, true, false, false, false, false, false, false, false] rfl rfl (any_of HT_.out (by kernel_rfl)) (fun _ _ _ h => h) (Or.inl ⟨by rfl, ?_⟩) ?_ ?_
  rotate_left
  · intro w'
    go_simp
    with_reducible rfl
  rotate_left
  · simp only [Act.put, List.setIfInBounds_toArray, List.set_cons_zero, List.set_cons_succ, i64_w, i32_w]
    rfl
  refine pure_ (i := 19) (N := some 131) (v := ?_) (a' := ?_) #[true, true, true, true, true, true, true, true, true, true, true, true, true, true, true, true, true, true, true, true, false, false, false, false, false, false] rfl rfl (any_of HT_.out (by kernel_rfl)) (fun _ _ _ h => h) (Or.inl ⟨by rfl, ?_⟩) ?_ ?_
  rotate_left
  · intro w'
    go_simp
    with_reducible rfl
  rotate_left
  · simp only [Act.put, List.setIfInBounds_toArray, List.set_cons_zero, List.set_cons_succ, i64_w, i32_w]
    rfl
  refine pure_ (i := 20) (N := some 132) (v := ?_) (a' := ?_) #[true, true, true, true, true, true, true, true, true, true, true, true, true, true, true, true, true, true, true, true, true, false, false, false, false, false] rfl rfl (any_of HT_.out (by kernel_rfl)) (fun _ _ _ h => h) (Or.inl ⟨by rfl, ?_⟩) ?_ ?_
  rotate_left
  · intro w'
    go_simp
    with_reducible rfl
  rotate_left
  · simp only [Act.put, List.setIfInBounds_toArray, List.set_cons_zero, List.set_cons_succ, i64_w, i32_w]
    rfl
  refine pure_ (i := 21) (N := some 133) (v := ?_) (a' := ?_) #[true, true, true, true, true, true, true, true, true, true, true, true, true, true, true, true, true, true, true, true, true, true, false, false, false, false] rfl rfl (any_of HT_.out (by kernel_rfl)) (fun _ _ _ h => h) (Or.inl ⟨by rfl, ?_⟩) ?_ ?_
  rotate_left
  · intro w'
    go_simp
    with_reducible rfl
  rotate_left
  · simp only [Act.put, List.setIfInBounds_toArray, List.set_cons_zero, List.set_cons_succ, i64_w, i32_w]
    rfl
  refine take_ (i := 23) (N := some 135) (v := ?_) (a' := ?_) #[true, true, true, true, true, true, true, true, true, true, true, true, true, true, true, true, true, true, true, true, true, true, false, true, false, false] rfl rfl (take_ofW HT_.out HW_.out (by kernel_rfl)) (fun _ _ _ h => h) (Or.inl ⟨by rfl, ?_⟩) hHeld ?_ ?_
  rotate_left
  · rintro w' ⟨⟨h1_, h2_⟩, h3_, h4_⟩
    have cv1 : (convert 22 9 (.slice A l.length c)).run Try.prog w' = .ok (.string (strOfNums l)) w' := Kd.C_string Try.underlying22 Try.underlying5 Try.underlying9 h3_
    have cv2 : (convert 22 9 (.slice A18 l.length c18)).run Try.prog w' = .ok (.string (strOfNums l)) w' := Kd.C_string Try.underlying22 Try.underlying5 Try.underlying9 h4_
    clear h3_ h4_
    refine exec_load25 (.tmp 18) ?_ ?_ h1_ (unhide HS32)
    all_goals rfl
  rotate_left
  · simp only [Act.put, List.setIfInBounds_toArray, List.set_cons_zero, List.set_cons_succ, i64_w, i32_w]
    rfl
  refine one_ (i := 22) (N := some 134) #[true, true, true, true, true, true, true, true, true, true, true, true, true, true, true, true, true, true, true, true, true, true, true, true, false, false] rfl rfl (one_of HT_.out (by kernel_rfl)) (by decide) (fun K hK => ?_)
  refine goes_ Try.func17 (by kernel_rfl) rfl #[.int .i64 32, .slice A18 l.length c18] (by rfl) rfl rfl (by (try simp only [List.map_toArray, List.map_cons, List.map_nil]); first | done | rfl) ?_
  refine (cut_sum A18 c18 l _ (unhide CB21) (unhide HL) (unhide HC18) (by have := unhide HLN; omega)).mono ?_
  rintro e w22 ⟨rfl, hb⟩
  refine ⟨_, rfl, ?_⟩
  rw [← unhide HSL]
  have T22 := hide ((unhide T21).below hb)
  have S22 := hide ((unhide S21).below hb)
  have M22 := hide (below_step (unhide M21) hb)
  have CA22 := hide (Kd.C_below (unhide CA21) hb)
  have CB22 := hide (Kd.C_below (unhide CB21) hb)
  clear hb
  clear hHeld
  refine hK.out _ _ ⟨⟨unhide T22, unhide S22⟩, unhide CA22, unhide CB22⟩ (fun hHeld => ?_)
  clear hK K
  refine norm_ (a' := ?_) ?_ ?_
  rotate_left
  · show Act.put _ (some 134) _ = _
    simp only [Act.put, List.setIfInBounds_toArray, List.set_cons_zero, List.set_cons_succ, i64_w, i32_w]
    rfl
  refine pure_ (i := 24) (N := some 136) (v := ?_) (a' := ?_) #[true, true, true, true, true, true, true, true, true, true, true, true, true, true, true, true, true, true, true, true, true, true, true, true, true, false] rfl rfl (any_of HT_.out (by kernel_rfl)) (fun _ _ _ h => h) (Or.inl ⟨by rfl, ?_⟩) ?_ ?_
  rotate_left
  · intro w'
    go_simp
    with_reducible rfl
  rotate_left
  · simp only [Act.put, List.setIfInBounds_toArray, List.set_cons_zero, List.set_cons_succ, i64_w, i32_w]
    rfl
  refine pure_ (i := 25) (N := some 137) (v := ?_) (a' := ?_) #[true, true, true, true, true, true, true, true, true, true, true, true, true, true, true, true, true, true, true, true, true, true, true, true, true, true] rfl rfl (any_of HT_.out (by kernel_rfl)) (fun _ _ _ h => h) (Or.inl ⟨by rfl, ?_⟩) ?_ ?_
  rotate_left
  · intro w'
    go_simp
    with_reducible rfl
  rotate_left
  · simp only [Act.put, List.setIfInBounds_toArray, List.set_cons_zero, List.set_cons_succ, i64_w, i32_w]
    rfl
  refine done_ (done_of HT_.out (by kernel_rfl)) ?_
  clear HT_ HW_ hHeld
  clear nq T20 S20 R20 M20 O20 T21 S21 M21 CA21 CB21 CB22 CA20 CB20
  clear T22 S22
  by_cases q1 : size < 1
  · go_wp2
    go_ret
    exact ⟨rfl, unhide M22⟩
  by_cases q2 : (l.length : Int) < size
  · go_wp2
    go_ret
    exact ⟨rfl, unhide M22⟩
  obtain ⟨k, rfl⟩ := Int.eq_ofNat_of_zero_le (show 0 ≤ size by omega)
  have HK : Hid (1 ≤ k ∧ k ≤ l.length) := by show _ ∧ _; omega
  obtain ⟨t5, t6, t7⟩ := take_any A c l k (unhide HCL) (unhide HK).2
  obtain ⟨T, hT⟩ : ∃ T, T = l.take k := ⟨_, rfl⟩
  rw [← hT] at t5 t6 t7
  have hTb : Bytes T := by rw [hT]; exact (unhide HL).take k
  have hTl : T.length ≤ 100000 := by rw [hT, List.length_take]; have := unhide HLN; omega
  have HT := hide hT
  have t6' := t6 _ (unhide CA22)
  clear hT t6
  go_wp2_with fail
  clear t5
  refine (of_any A c T _ t6' t7 hTb hTl).mono ?_
  rintro e w23 ⟨rfl, hb⟩
  have M23 := hide (below_step (unhide M22) hb)
  clear t6' t7 hTb hTl hb M22 CA22 q1 q2
  go_wp2
  have N23 : Hid (w.heap.size ≤ w23.heap.size) := (unhide M23).size
  go_loopg [20] (l.length - k) (fun kq v20 wr => ∃ (i j : Nat), v20 = .int .i64 (i : Int) ∧ Hid (i = k + j) ∧ Hid (j + kq = l.length - k) ∧ Hid (Box wr w23.heap.size (St ((l.take (k + j)).drop j))) ∧ Hid (Below w.heap.size w wr))
  case atStart =>
    refine ⟨k, 0, rfl, rfl, Nat.zero_add _, ?_, below_alloc (unhide M23) _⟩
    show Box _ _ _
    rw [Nat.add_zero, List.drop_zero, ← unhide HT]
    exact blk_new _ _
  case round =>
    obtain ⟨i, j, rfl, HI, HJ, HB, HM⟩ := hrel
    clear M23
    by_cases hlt : i < l.length
    · have hij := unhide HI
      obtain ⟨hw1, hw2⟩ := win l k j (by omega) (unhide HK).1
      rw [← hij] at hw1 hw2 HB
      have hC := Kd.C_below (unhide HR) (unhide HM)
      obtain ⟨ad, hA, hx⟩ := Kd.at_int hC (i : Int) (by omega) (by omega)
      subst hA
      rw [Int.toNat_natCast] at hx
      obtain ⟨ad', e', hx'⟩ := Kd.at_int hC (j : Int) (by omega) (by omega)
      cases e'
      rw [Int.toNat_natCast] at hx'
      have HX1 := (unhide HL).rd_ (i : Int)
      have HX2 := (unhide HL).rd_ (j : Int)
      have HRO := hide (fun W : World => roll_St (rd l (j : Int)) (rd l (i : Int)) ((l.take i).drop (j + 1)) W HX2 HX1 (by rw [List.length_drop, List.length_take]; have := unhide HLN; omega))
      rw [← hw2, ← hw1] at HRO
      generalize hy : (l.take (i + 1)).drop (j + 1) = y at HRO
      generalize hx0 : (l.take i).drop j = x0 at HB HRO
      generalize rd l (i : Int) = u1 at hx HRO
      generalize rd l (j : Int) = u2 at hx' HRO
      have HY := hide hy
      have EJ : Hid (wrap64 ((i : Int) - (k : Int)) = (j : Int)) := by show _ = _; rw [w64 _ (by have := unhide HLN; omega) (by have := unhide HLN; omega)]; omega
      have DJ : Hid (j < l.length) := by show _ < _; omega
      have P0 : Hid (Box wr.drew w23.heap.size (St x0)) := unhide HB
      have NB0 : Hid (Below w.heap.size w wr.drew) := below_drew (unhide HM)
      have HX := hide hx
      have HX' := hide hx'
      have HLT := hide hlt
      have di : (i : Int) < (l.length : Int) := by omega
      clear hij hw1 hw2 hC HB HM hy hx0 hx hx' HX1 HX2
      go_wp2
      have ej := unhide EJ
      have dj := unhide DJ
      refine start_ (n := 13) (S := fun w' => Box w' w23.heap.size (St x0) ∧ w'.cell? (ad.add i) = some (.int .u8 u1) ∧ w'.cell? (ad.add j) = some (.int .u8 u2)) (ds := [12]) #[false, false, false, false, false, false, false, false, false, false, false, false, false] (by kernel_rfl) rfl rfl ⟨unhide P0, unhide HX, unhide HX'⟩ (fun hHeld => ?_)
      refine with_tabW tabT3_24 bitsT3_24 (fun HT_ HW_ => ?_)
      refine take_ (i := 0) (N := some 157) (v := ?_) (a' := ?_) #[true, false, false, false, false, false, false, false, false, false, false, false, false] rfl rfl (take_ofW HT_.out HW_.out (by kernel_rfl)) (fun _ _ _ h => h) (Or.inl ⟨by rfl, ?_⟩) hHeld ?_ ?_
      rotate_left
      · rintro w' ⟨h1_, _, _⟩
        obtain ⟨⟨_, _, _⟩, _, _⟩ := box3 h1_
        go_simp
        with_reducible rfl
      rotate_left
      · simp only [Act.put, List.setIfInBounds_toArray, List.set_cons_zero, List.set_cons_succ, i64_w, i32_w]
        rfl
      refine pure_ (i := 1) (N := some 158) (v := ?_) (a' := ?_) #[true, true, false, false, false, false, false, false, false, false, false, false, false] rfl rfl (any_of HT_.out (by kernel_rfl)) (fun _ _ _ h => h) (Or.inl ⟨by rfl, ?_⟩) ?_ ?_
      rotate_left
      · intro w'
        go_simp
        with_reducible rfl
      rotate_left
      · simp only [Act.put, List.setIfInBounds_toArray, List.set_cons_zero, List.set_cons_succ, i64_w, i32_w]
        rfl
      refine pure_ (i := 2) (N := some 159) (v := ?_) (a' := ?_) #[true, true, true, false, false, false, false, false, false, false, false, false, false] rfl rfl (any_of HT_.out (by kernel_rfl)) (fun _ _ _ h => h) (Or.inl ⟨by rfl, ?_⟩) ?_ ?_
      rotate_left
      · intro w'
        go_simp
        with_reducible rfl
      rotate_left
      · simp only [Act.put, List.setIfInBounds_toArray, List.set_cons_zero, List.set_cons_succ, i64_w, i32_w]
        rfl
      refine pure_ (i := 3) (N := some 160) (v := ?_) (a' := ?_) #[true, true, true, true, false, false, false, false, false, false, false, false, false] rfl rfl (any_of HT_.out (by kernel_rfl)) (fun _ _ _ h => h) (Or.inl ⟨by rfl, ?_⟩) ?_ ?_
      rotate_left
      · intro w'
        go_simp
        with_reducible rfl
      rotate_left
      · simp only [Act.put, List.setIfInBounds_toArray, List.set_cons_zero, List.set_cons_succ, i64_w, i32_w]
        rfl
      refine pure_ (i := 4) (N := some 161) (v := ?_) (a' := ?_) #[true, true, true, true, true, false, false, false, false, false, false, false, false] rfl rfl (any_of HT_.out (by kernel_rfl)) (fun _ _ _ h => h) (Or.inl ⟨by rfl, ?_⟩) ?_ ?_
      rotate_left
      · intro w'
        go_simp
        with_reducible rfl
      rotate_left
      · simp only [Act.put, List.setIfInBounds_toArray, List.set_cons_zero, List.set_cons_succ, i64_w, i32_w]
        rfl
      refine pure_ (i := 5) (N := some 162) (v := ?_) (a' := ?_) #[true, true, true, true, true, true, false, false, false, false, false, false, false] rfl rfl (any_of HT_.out (by kernel_rfl)) (fun _ _ _ h => h) (Or.inl ⟨by rfl, ?_⟩) ?_ ?_
      rotate_left
      · intro w'
        go_simp
        with_reducible rfl
      rotate_left
      · simp only [Act.put, List.setIfInBounds_toArray, List.set_cons_zero, List.set_cons_succ, i64_w, i32_w]
        rfl
      refine take_ (i := 6) (N := some 163) (v := ?_) (a' := ?_) #[true, true, true, true, true, true, true, false, false, false, false, false, false] rfl rfl (take_ofW HT_.out HW_.out (by kernel_rfl)) (fun _ _ _ h => h) (Or.inl ⟨by rfl, ?_⟩) hHeld ?_ ?_
      rotate_left
      · rintro w' ⟨h1_, _, _⟩
        obtain ⟨⟨_, _, _⟩, _, _⟩ := box3 h1_
        go_simp
        with_reducible rfl
      rotate_left
      · simp only [Act.put, List.setIfInBounds_toArray, List.set_cons_zero, List.set_cons_succ, i64_w, i32_w]
        rfl
      refine pure_ (i := 7) (N := some 164) (v := ?_) (a' := ?_) #[true, true, true, true, true, true, true, true, false, false, false, false, false] rfl rfl (any_of HT_.out (by kernel_rfl)) (fun _ _ _ h => h) (Or.inl ⟨by rfl, ?_⟩) ?_ ?_
      rotate_left
      · intro w'
        go_simp
        with_reducible rfl
      rotate_left
      · simp only [Act.put, List.setIfInBounds_toArray, List.set_cons_zero, List.set_cons_succ, i64_w, i32_w]
        rfl
      refine pure_ (i := 8) (N := some 165) (v := ?_) (a' := ?_) #[true, true, true, true, true, true, true, true, true, false, false, false, false] rfl rfl (any_of HT_.out (by kernel_rfl)) (fun _ _ _ h => h) (Or.inl ⟨by rfl, ?_⟩) ?_ ?_
      rotate_left
      · intro w'
        go_simp
        with_reducible rfl
      rotate_left
      · simp only [Act.put, List.setIfInBounds_toArray, List.set_cons_zero, List.set_cons_succ, i64_w, i32_w]
        rfl
      refine pure_ (i := 9) (N := some 166) (v := ?_) (a' := ?_) #[true, true, true, true, true, true, true, true, true, true, false, false, false] rfl rfl (any_of HT_.out (by kernel_rfl)) (fun _ _ _ h => h) (Or.inl ⟨by rfl, ?_⟩) ?_ ?_
      rotate_left
      · intro w'
        go_simp
        with_reducible rfl
      rotate_left
      · simp only [Act.put, List.setIfInBounds_toArray, List.set_cons_zero, List.set_cons_succ, i64_w, i32_w]
        rfl
      refine take_ (i := 10) (N := some 167) (v := ?_) (a' := ?_) #[true, true, true, true, true, true, true, true, true, true, true, false, false] rfl rfl (take_ofW HT_.out HW_.out (by kernel_rfl)) (fun _ _ _ h => h) (Or.inl ⟨by rfl, ?_⟩) hHeld ?_ ?_
      rotate_left
      · rintro w' ⟨h1_, _, _⟩
        obtain ⟨⟨_, _, _⟩, _, _⟩ := box3 h1_
        go_simp
        with_reducible rfl
      rotate_left
      · simp only [Act.put, List.setIfInBounds_toArray, List.set_cons_zero, List.set_cons_succ, i64_w, i32_w]
        rfl
      refine one_ (i := 11) (N := some 168) #[true, true, true, true, true, true, true, true, true, true, true, true, false] rfl rfl (one_of HT_.out (by kernel_rfl)) (by decide) (fun K hK => ?_)
      refine goes_ Try.func18 (by kernel_rfl) rfl #[.agg #[.int .u32 (St x0).1, .int .u32 (St x0).2.1, .int .u32 (St x0).2.2], .int .u8 u2, .int .u8 u1] (by rfl) rfl rfl (by (try simp only [List.map_toArray, List.map_cons, List.map_nil]); first | done | rfl) ?_
      refine (unhide HRO _).mono ?_
      rintro e w25 ⟨rfl, hb⟩
      refine ⟨_, rfl, ?_⟩
      have NB1 := hide (below_step (unhide NB0) hb)
      have P1 := hide ((unhide P0).below hb)
      have D1 := (hb.cell (World.block_lt_of_cell? _ _ (unhide HX))).trans (unhide HX)
      have D2 := (hb.cell (World.block_lt_of_cell? _ _ (unhide HX'))).trans (unhide HX')
      clear hb NB0 P0
      clear hHeld
      refine hK.out _ _ ⟨unhide P1, D1, D2⟩ (fun hHeld => ?_)
      clear hK K
      refine norm_ (a' := ?_) ?_ ?_
      rotate_left
      · show Act.put _ (some 168) _ = _
        simp only [Act.put, List.setIfInBounds_toArray, List.set_cons_zero, List.set_cons_succ, i64_w, i32_w]
        rfl
      refine last_ (i := 12) (N := none) #[true, true, true, true, true, true, true, true, true, true, true, true, true] rfl rfl (one_of HT_.out (by kernel_rfl)) (by decide) (fun K hK => ?_)
      obtain ⟨⟨_, _, _⟩, ⟨_, _, _⟩, _⟩ := box3 (unhide P1)
      refine skip_ (w1 := ((w25.setCell ⟨w23.heap.size, 0, none⟩ (.int .u32 (St y).1)).setCell ⟨w23.heap.size, 1, none⟩ (.int .u32 (St y).2.1)).setCell ⟨w23.heap.size, 2, none⟩ (.int .u32 (St y).2.2)) (by rfl) rfl ?hrun ?_
      case hrun =>
        first | (go_simp; done) | (go_simp; rfl)
      refine hK.out _ _ ?_
      clear hK K
      refine done_ (done_of HT_.out (by kernel_rfl)) ?_
      clear HT_ HW_; (try clear hHeld)
      have M0 := hide ((unhide P1).put (St y))
      have MB0 := hide (below_set (j := 2) (v := .int .u32 (St y).2.2) (below_set (j := 1) (v := .int .u32 (St y).2.1) (below_set (j := 0) (v := .int .u32 (St y).1) (unhide NB1) (unhide N23)) (unhide N23)) (unhide N23))
      clear P1 NB1 D1 D2 ej dj di
      go_wp2
      go_roundg (gk - 1)
      case measure => have := unhide HJ; have := unhide HLT; have := unhide HI; omega
      case rel =>
        have h1 := unhide HJ
        have h2 := unhide HLT
        have h3 := unhide HI
        have h4 := unhide HLN
        refine ⟨i + 1, j + 1, by first | rw [Int.natCast_add, Int.natCast_one, w64 _ (by omega) (by omega)] | rw [Int.natCast_add, Int.natCast_one], by show i + 1 = k + (j + 1); omega, by show j + 1 + (gk - 1) = l.length - k; omega, ?_, unhide MB0⟩
        show Box _ _ _
        rw [show k + (j + 1) = i + 1 by omega, unhide HY]
        exact unhide M0
    · have hie : k + j = l.length ∧ j = l.length - k := by have h1 := unhide HI; have h2 := unhide HJ; have h3 := (unhide HK).2; omega
      have di : ¬ (i : Int) < (l.length : Int) := by omega
      rw [hie.1, List.take_of_length_le (Nat.le_refl _)] at HB
      have EJ : Hid (wrap64 ((l.length : Int) - (k : Int)) = (j : Int)) := by show _ = _; rw [w64 _ (by have := unhide HLN; omega) (by have := unhide HLN; omega)]; omega
      obtain ⟨A9, d5, d6, d7⟩ := drop_any A c l j (unhide HCL) (by omega)
      obtain ⟨E, hE⟩ : ∃ E, E = l.drop j := ⟨_, rfl⟩
      rw [← hE] at d5 d6 d7 HB
      have hEb : Bytes E := by rw [hE]; exact (unhide HL).drop j
      have hEl : E.length ≤ 100000 := by rw [hE, List.length_drop]; have := unhide HLN; omega
      obtain ⟨c9, hc9⟩ : ∃ q, q = c - j := ⟨_, rfl⟩
      rw [← hc9] at d5 d7
      have d6' := d6 _ (Kd.C_below (unhide HR) (below_drew (unhide HM)))
      have HD5 := hide d5
      have HD6 := hide d6'
      have HD7 := hide d7
      have HEB := hide hEb
      have HEL := hide hEl
      have P0 : Hid (Box wr.drew w23.heap.size (St E)) := unhide HB
      have NB0 : Hid (Below w.heap.size w wr.drew) := below_drew (unhide HM)
      have eqs := eq53
      clear hie HB HM d5 d6 d6' d7 hE hEb hEl hc9 hlt
      go_wp2
      have ej := unhide EJ
      have d5 := unhide HD5
      refine start_ (n := 10) (S := fun w' => Box w' w23.heap.size (St E)) (ds := []) #[false, false, false, false, false, false, false, false, false, false] (by kernel_rfl) rfl rfl (unhide P0) (fun hHeld => ?_)
      refine with_tabW tabT3_25 bitsT3_25 (fun HT_ HW_ => ?_)
      refine take_ (i := 0) (N := some 169) (v := ?_) (a' := ?_) #[true, false, false, false, false, false, false, false, false, false] rfl rfl (take_ofW HT_.out HW_.out (by kernel_rfl)) (fun _ _ _ h => h) (Or.inl ⟨by rfl, ?_⟩) hHeld ?_ ?_
      rotate_left
      · rintro w' h1_
        obtain ⟨⟨_, _, _⟩, _, _⟩ := box3 h1_
        go_simp
        with_reducible rfl
      rotate_left
      · simp only [Act.put, List.setIfInBounds_toArray, List.set_cons_zero, List.set_cons_succ, i64_w, i32_w]
        rfl
      refine pure_ (i := 1) (N := some 170) (v := ?_) (a' := ?_) #[true, true, false, false, false, false, false, false, false, false] rfl rfl (any_of HT_.out (by kernel_rfl)) (fun _ _ _ h => h) (Or.inl ⟨by rfl, ?_⟩) ?_ ?_
      rotate_left
      · intro w'
        go_simp
        with_reducible rfl
      rotate_left
      · simp only [Act.put, List.setIfInBounds_toArray, List.set_cons_zero, List.set_cons_succ, i64_w, i32_w]
        rfl
      refine pure_ (i := 2) (N := some 171) (v := ?_) (a' := ?_) #[true, true, true, false, false, false, false, false, false, false] rfl rfl (any_of HT_.out (by kernel_rfl)) (fun _ _ _ h => h) (Or.inl ⟨by rfl, ?_⟩) ?_ ?_
      rotate_left
      · intro w'
        go_simp
        with_reducible rfl
      rotate_left
      · simp only [Act.put, List.setIfInBounds_toArray, List.set_cons_zero, List.set_cons_succ, i64_w, i32_w]
        rfl
      refine pure_ (i := 3) (N := some 172) (v := ?_) (a' := ?_) #[true, true, true, true, false, false, false, false, false, false] rfl rfl (any_of HT_.out (by kernel_rfl)) (fun _ _ _ h => h) (Or.inl ⟨by rfl, ?_⟩) ?_ ?_
      rotate_left
      · intro w'
        go_simp
        with_reducible rfl
      rotate_left
      · simp only [Act.put, List.setIfInBounds_toArray, List.set_cons_zero, List.set_cons_succ, i64_w, i32_w]
        rfl
      refine pure_ (i := 4) (N := some 173) (v := ?_) (a' := ?_) #[true, true, true, true, true, false, false, false, false, false] rfl rfl (any_of HT_.out (by kernel_rfl)) (fun _ _ _ h => h) (Or.inl ⟨by rfl, ?_⟩) ?_ ?_
      rotate_left
      · intro w'
        go_simp
        with_reducible rfl
      rotate_left
      · simp only [Act.put, List.setIfInBounds_toArray, List.set_cons_zero, List.set_cons_succ, i64_w, i32_w]
        rfl
      refine pure_ (i := 5) (N := some 174) (v := ?_) (a' := ?_) #[true, true, true, true, true, true, false, false, false, false] rfl rfl (any_of HT_.out (by kernel_rfl)) (fun _ _ _ h => h) (Or.inl ⟨by rfl, ?_⟩) ?_ ?_
      rotate_left
      · intro w'
        go_simp
        with_reducible rfl
      rotate_left
      · simp only [Act.put, List.setIfInBounds_toArray, List.set_cons_zero, List.set_cons_succ, i64_w, i32_w]
        rfl
      refine pure_ (i := 6) (N := some 175) (v := ?_) (a' := ?_) #[true, true, true, true, true, true, true, false, false, false] rfl rfl (any_of HT_.out (by kernel_rfl)) (fun _ _ _ h => h) (Or.inl ⟨by rfl, ?_⟩) ?_ ?_
      rotate_left
      · intro w'
        go_simp
        with_reducible rfl
      rotate_left
      · simp only [Act.put, List.setIfInBounds_toArray, List.set_cons_zero, List.set_cons_succ, i64_w, i32_w]
        rfl
      refine one_ (i := 7) (N := some 176) #[true, true, true, true, true, true, true, true, false, false] rfl rfl (one_of HT_.out (by kernel_rfl)) (by decide) (fun K hK => ?_)
      refine goes_ Try.func6 (by kernel_rfl) rfl #[.slice A9 E.length c9] (by rfl) rfl rfl (by (try simp only [List.map_toArray, List.map_cons, List.map_nil]); first | done | rfl) ?_
      refine (of_any A9 c9 E _ (unhide HD6) (unhide HD7) (unhide HEB) (unhide HEL)).mono ?_
      rintro e w26 ⟨rfl, hb⟩
      refine ⟨_, rfl, ?_⟩
      have NB1 := hide (below_step (unhide NB0) hb)
      have P1 := hide ((unhide P0).below hb)
      clear hb NB0 P0
      clear hHeld
      refine hK.out _ _ (unhide P1) (fun hHeld => ?_)
      clear hK K
      refine norm_ (a' := ?_) ?_ ?_
      rotate_left
      · show Act.put _ (some 176) _ = _
        simp only [Act.put, List.setIfInBounds_toArray, List.set_cons_zero, List.set_cons_succ, i64_w, i32_w]
        rfl
      refine pure_ (i := 8) (N := some 177) (v := ?_) (a' := ?_) #[true, true, true, true, true, true, true, true, true, false] rfl rfl (any_of HT_.out (by kernel_rfl)) (fun _ _ _ h => h) (Or.inl ⟨by rfl, ?_⟩) ?_ ?_
      rotate_left
      · intro w'
        go_simp
        with_reducible rfl
      rotate_left
      · simp only [Act.put, List.setIfInBounds_toArray, List.set_cons_zero, List.set_cons_succ, i64_w, i32_w]
        rfl
      refine pure_ (i := 9) (N := some 6) (v := ?_) (a' := ?_) #[true, true, true, true, true, true, true, true, true, true] rfl rfl (any_of HT_.out (by kernel_rfl)) (fun _ _ _ h => h) (Or.inl ⟨by rfl, ?_⟩) ?_ ?_
      rotate_left
      · intro w'
        go_simp
        with_reducible rfl
      rotate_left
      · simp only [Act.put, List.setIfInBounds_toArray, List.set_cons_zero, List.set_cons_succ, i64_w, i32_w]
        rfl
      refine done_ (done_of HT_.out (by kernel_rfl)) ?_
      clear HT_ HW_ hHeld
      go_wp2
      go_ret
      exact ⟨rfl, unhide NB1⟩
end Go.Proofs.Ytgoephcembgmcaa.Law
