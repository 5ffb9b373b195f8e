import Derived.Test.YtgoephcembgmcaaDoorQ11
import Derived.Test.YtgoephcembgmcaaDoorWWords
set_option linter.unusedSimpArgs false
set_option linter.unusedVariables false
namespace Go.Proofs.YtgoephcembgmcaaDoor.Wd
open Go.RowKit Go.Proofs.YtgoephcembgmcaaDoorW.PrintWords Go.Proofs.YtgoephcembgmcaaDoorW.PrintLast Wk FrM Fr Bl Tk Sh Rg
open WkM (w64 Bytes)
def T20_45 : Bool × List (List Nat × List Nat) := (true, [([], []), ([], []), ([1], [1]), ([2], [2]), ([0, 3], [0, 3]), ([], []), ([5], [5]), ([6], [6]), ([4, 7, 4], [4, 7]), ([], []), ([8, 9, 8], [8, 9]), ([10, 10, 0, 1, 2, 3, 4, 5, 6, 7, 8, 9, 10], [0, 10])])
def BT20_45 : List Nat := [0, 0, 2, 6, 15, 0, 32, 96, 255, 0, 1023, 2047]
theorem tabT20_45 : rtab .any (opsOf Tryd.f20 45) = T20_45 := by kernel_rfl
theorem bitsT20_45 : waitsOk T20_45.2 BT20_45 = true := by kernel_rfl

set_option maxHeartbeats 8000000 in
set_option maxRecDepth 100000 in
theorem frame_4 (A : Option Addr) (c : Nat) (us : List (Int × Int × List Int)) (sm : List Int) (w : World) (hC : TkC w A us) (hok : AllOk us) (hw : tws us ≤ 501) (hs : sm.length = 32) :
    Calls Tryd.prog 20 #[.agg (wcl 4 4 { data := #[] } nl nl 0 0 0 nl (.slice A us.length c) 32 (sm.map (Value.int .u8))).toArray] w fun e w' => ∃ A1 c1, e = .returned (.tuple #[.agg #[.int .i64 4, .int .i64 0, .slice A1 (vnum 4 ++ vnum 32 ++ sm ++ dtB us).length c1], .int .i64 0]) ∧ Own w' w.heap.size (.slice A1 (vnum 4 ++ vnum 32 ++ sm ++ dtB us).length c1) (vnum 4 ++ vnum 32 ++ sm ++ dtB us) ∧ Below w.heap.size w w' := by
  obtain ⟨cs, hcs⟩ : ∃ cs, cs = wcl 4 4 { data := #[] } nl nl 0 0 0 nl (.slice A us.length c) 32 (sm.map (Value.int .u8)) := ⟨_, rfl⟩
  have hsp : ∀ w1, Calls Tryd.prog 52 #[.agg cs.toArray, .string { data := #[110, 102] }] w1 fun e w' => e = .returned (.bool false) ∧ Below w1.heap.size w1 w' := fun w1 => by rw [hcs]; exact spare_4 32 A us.length c _ w1
  have hlen : cs.length = 91 := by rw [hcs]; simp [wcl, z8, hs]
  rw [← hcs]
  have hc0 : cs[0]? = some (.int .i64 4) := by rw [hcs]; rfl
  have hc1 : cs[1]? = some (.int .i64 4) := by rw [hcs]; rfl
  have hc2 : cs[2]? = some (.string { data := #[] }) := by rw [hcs]; rfl
  have hc3 : cs[3]? = some (nl) := by rw [hcs]; rfl
  have hc57 : cs[57]? = some (.slice A us.length c) := by rw [hcs]; rfl
  have hc58 : cs[58]? = some (.int .i64 32) := by rw [hcs]; rfl
  have hc59 : (cs.drop 59).take 32 = sm.map (Value.int .u8) := by rw [hcs]; show ((sm.map (Value.int .u8)).take 32) = _; rw [List.take_of_length_le (by rw [List.length_map]; omega)]
  have HC0 := hide hc0
  have HC1 := hide hc1
  have HC2 := hide hc2
  have HC3 := hide hc3
  have HC57 := hide hc57
  have HC58 := hide hc58
  have HC59 := hide hc59
  have HSP := hide hsp
  have SZ : Hid ((Tryd.prog.info? 38).map (·.size) = some cs.length) := by show _ = _; rw [hlen]; exact size38
  have SZA : Hid ((Tryd.prog.info? 38).map (·.size) = some cs.toArray.size) := by show _ = _; rw [List.size_toArray, hlen]; exact size38
  have HB := hide hC
  have HOK := hide hok
  have HW := hide hw
  have HS := hide hs
  clear hC hok hw hs
  clear hsp hlen hcs hc0 hc1 hc2 hc3 hc57 hc58 hc59
  have P1 : ((w.alloc (.cells cs.toArray 38)).alloc (.cells #[.int .i64 0, .int .i64 0, .slice none 0 0] 51)).heap[w.heap.size]? = some (.cells cs.toArray 38 (0, 0)) := blk_alloc (blk_new _ _) _
  have G1 : Frm ((w.alloc (.cells cs.toArray 38)).alloc (.cells #[.int .i64 0, .int .i64 0, .slice none 0 0] 51)) (w.heap.size + 1) 0 0 (.slice none 0 0) := by
    have h := blk_new (w.alloc (.cells cs.toArray 38)) (.cells #[.int .i64 0, .int .i64 0, .slice none 0 0] 51)
    rw [World.size_alloc] at h
    exact h
  have B1 : Below w.heap.size w ((w.alloc (.cells cs.toArray 38)).alloc (.cells #[.int .i64 0, .int .i64 0, .slice none 0 0] 51)) := below_alloc (below_alloc (Below.refl _ _) _) _
  have c0 := cell_wcl P1 0 (unhide HC0)
  go_enter Tryd.func20, Tryd.ntmps20
  go_wp2_with fail
  clear c0
  obtain ⟨g, hg⟩ : ∃ g, g = w.heap.size + 1 := ⟨_, rfl⟩
  obtain ⟨p, hp⟩ : ∃ p, p = w.heap.size := ⟨_, rfl⟩
  have hgp : p < g := by omega
  have HGP := hide hgp
  have HWP : Hid (w.heap.size ≤ p) := by show _ ≤ _; omega
  rw [← hg] at G1 ⊢
  rw [← hp] at P1 ⊢
  rw [hp] at P1
  generalize (w.alloc (.cells cs.toArray 38)).alloc (.cells #[.int .i64 0, .int .i64 0, .slice none 0 0] 51) = w1 at P1 G1 B1 ⊢
  rw [← hp] at P1
  clear hg hp hgp
  refine (shape_4 _).mono ?_
  intro e w' hh
  rw [hh.1, hh.2]
  clear hh
  have P1 := hide P1
  have G1 := hide G1
  have B1 := hide B1
  go_wp2_with (refine wpList_load_mid rfl 38 (.tmp 1) rfl p 0 rfl cs _ (wcl_range (unhide P1) 0 cs (by rw [List.drop_zero, List.take_length])) Tryd.underlying38 rfl (unhide SZ) ?_)
  refine ((unhide HSP) w1).mono ?_
  rintro e w2 ⟨rfl, hb2⟩
  have P2 := hide (blk_below (unhide P1) hb2)
  have G2 : Hid (Frm w2 g 0 0 (.slice none 0 0)) := blk_below (unhide G1) hb2
  have B2 := hide (below_step (unhide B1) hb2)
  clear P1 G1 B1 hb2
  have c1_ := cell_wcl (unhide P2) 1 (unhide HC1)
  have c2_ := cell_wcl (unhide P2) 2 (unhide HC2)
  have c3_ := cell_wcl (unhide P2) 3 (unhide HC3)
  have O2 : Hid (Own w2 w.heap.size (.slice none 0 0) ([] : List Int)) := Kd.R_nil _ _ _ _ _
  go_wp2
  clear c2_ c3_
  refine wp_loop_rounds 3 ?_
  rw [rounds_succ]
  go_wp2_with fail
  refine (num_lit w.heap.size (.slice none 0 0) [] 4 4 w2 rfl (unhide O2) (unhide B2).size (by decide) (by decide)).mono ?_
  rintro e w3 ⟨A3, c3, rfl, hO3, hB3, hG3⟩
  obtain ⟨z3, hz3⟩ : ∃ z, z = vnum 4 := ⟨_, rfl⟩
  rw [List.nil_append, ← hz3] at hO3 hG3 ⊢
  have hl3 : z3.length ≤ 6 := by rw [hz3]; exact vnum_len 5 4 (by decide)
  have P3 : Hid (w3.heap[p]? = some (.cells cs.toArray 38 (0, 0))) := hG3.blk (unhide P2) (by simp [Value.ownBlock])
  have G3 : Hid (Frm w3 g 0 0 (.slice none 0 0)) := hG3.blk (unhide G2) (by simp [Value.ownBlock])
  have O3 := hide hO3
  have B3 := hide ((unhide B2).trans hB3)
  have HZ3 := hide hz3
  have HL3 := hide hl3
  clear hO3 hB3 hG3 hz3 hl3 c1_ P2 G2 B2 O2
  have c57_ := cell_wcl (unhide P3) 57 (unhide HC57)
  have c58_ := cell_wcl (unhide P3) 58 (unhide HC58)
  go_wp2
  rw [rounds_succ]
  go_wp2_with fail
  clear c57_ c58_
  refine (dbytes_ok A c us w3 ((unhide HB).below (unhide B3)) (unhide HOK) (unhide HW)).mono ?_
  rintro e w4 ⟨A4, c4, rfl, hO4, hB4⟩
  obtain ⟨z4, hz4⟩ : ∃ z, z = dtB us := ⟨_, rfl⟩
  rw [← hz4] at hO4 ⊢
  have hl4 : z4.length ≤ 9000 := by
    rw [hz4]; unfold dtB
    have h1 := tksB_len (unhide HOK) (by have := unhide HW; omega)
    have h2 := len_tws (unhide HOK)
    have h3 := vnum_len 5 us.length (by have := unhide HW; omega)
    have := unhide HW
    rw [List.length_append]; omega
  have P4 : Hid (w4.heap[p]? = some (.cells cs.toArray 38 (0, 0))) := blk_below (unhide P3) hB4
  have G4 : Hid (Frm w4 g 0 0 (.slice none 0 0)) := blk_below (unhide G3) hB4
  have O4 := hide (Kd.R_below (unhide O3) hB4)
  have Q4 := hide hO4
  have W4 : Hid (w3.heap.size ≤ w4.heap.size) := hB4.size
  have B4 := hide (below_step (unhide B3) hB4)
  have HZ4 := hide hz4
  have HL4 := hide hl4
  have N3 : Hid (∀ k, (Value.slice A3 z3.length c3).ownBlock = some k → k < w3.heap.size) := Kd.R_lt (unhide O3)
  clear hO4 hB4 hz4 hl4 P3 G3 B3
  go_wp2
  have PD : Hid (w4.drew.heap[p]? = some (.cells cs.toArray 38 (0, 0))) := unhide P4
  have GD : Hid (Frm w4.drew g 0 0 (.slice none 0 0)) := unhide G4
  have OD := hide (Kd.R_drew (unhide O4))
  have QD := hide (Kd.R_drew (unhide Q4))
  have BD := hide (below_drew (unhide B4))
  have ND : Hid (w3.heap.size ≤ w4.drew.heap.size) := unhide W4
  clear P4 G4 O4 Q4 B4 W4
  refine start_ (n := 12) (S := fun w' => w'.heap[p]? = some (.cells cs.toArray 38 (0, 0))) (ds := []) (bt 12 0) (by kernel_rfl) rfl (by kernel_rfl) (unhide PD) (fun hHeld => ?_)
  refine with_tabW tabT20_45 bitsT20_45 (fun HT_ HW_ => ?_)
  refine run_ [(0, 152), (1, 153), (2, 154)] ?_
  iterate 3 ((first | refine sp_ (v := ?_) (a' := ?_) HT_.out rfl rfl rfl (by kernel_rfl) (fun _ _ _ h => h) ?_ ?_ ?_ | refine sg_ (v := ?_) (a' := ?_) HT_.out rfl rfl (by kernel_rfl) (fun _ _ _ h => h) (by rfl) ?_ ?_ ?_); rotate_left; (· intro w'; go_simp; with_reducible rfl); rotate_left; (· simp only [Act.put, List.setIfInBounds_toArray, List.set_cons_zero, List.set_cons_succ, i64_w, i32_w]; rfl))
  refine rend_ ?_
  refine take_ (i := 3) (N := some 155) (v := ?_) (a' := ?_) (bt 12 15) rfl rfl (take_ofW HT_.out HW_.out (by kernel_rfl)) (fun _ _ _ h => h) (Or.inl ⟨by rfl, ?_⟩) hHeld ?_ ?_
  rotate_left
  · rintro w' h1_
    have c58_ := cell_wcl h1_ 58 (unhide HC58)
    go_simp
    with_reducible rfl
  rotate_left
  · simp only [Act.put, List.setIfInBounds_toArray, List.set_cons_zero, List.set_cons_succ, i64_w, i32_w]
    rfl
  refine run_ [(5, 157), (6, 158), (7, 159), (9, 161)] ?_
  iterate 4 ((first | refine sp_ (v := ?_) (a' := ?_) HT_.out rfl rfl rfl (by kernel_rfl) (fun _ _ _ h => h) ?_ ?_ ?_ | refine sg_ (v := ?_) (a' := ?_) HT_.out rfl rfl (by kernel_rfl) (fun _ _ _ h => h) (by rfl) ?_ ?_ ?_); rotate_left; (· intro w'; go_simp; with_reducible rfl); rotate_left; (· simp only [Act.put, List.setIfInBounds_toArray, List.set_cons_zero, List.set_cons_succ, i64_w, i32_w]; rfl))
  refine rend_ ?_
  refine one_ (i := 4) (N := some 156) (bt 12 767) rfl rfl (one_of HT_.out (by kernel_rfl)) (by decide) (fun K hK => ?_)
  refine goes_ Tryd.func53 (by kernel_rfl) rfl #[.slice A3 z3.length c3, .int .i64 32] (by rfl) rfl rfl (by (try simp only [List.map_toArray, List.map_cons, List.map_nil]); first | done | rfl) ?_
  refine (num_lit w.heap.size (.slice A3 z3.length c3) z3 32 32 _ rfl (unhide OD) (unhide BD).size (by decide) (by have := unhide HL3; omega)).mono ?_
  rintro e w5 ⟨A5, c5, rfl, hO5, hB5, hG5⟩
  refine ⟨_, rfl, ?_⟩
  have P5 : Hid (w5.heap[p]? = some (.cells cs.toArray 38 (0, 0))) := hG5.blk (unhide PD) (Kd.R_ne (unhide OD) (unhide PD) (by decide))
  have G5 : Hid (Frm w5 g 0 0 (.slice none 0 0)) := hG5.blk (unhide GD) (Kd.R_ne (unhide OD) (unhide GD) (by decide))
  have N5 : Hid (∀ k, (Value.slice A5 (z3 ++ vnum 32).length c5).ownBlock = some k → k < w3.heap.size ∨ w4.drew.heap.size ≤ k) := fun k hk => by rcases hG5.2.2 with h | ⟨b, h, h2⟩; exact .inl ((unhide N3) k (h ▸ hk)); rw [hk] at h; injection h with h; exact .inr (h ▸ h2)
  have Q5 : Hid (Own w5 w3.heap.size (.slice A4 z4.length c4) z4) := R_keepG (unhide QD) hG5 (unhide N3)
  obtain ⟨z5, hz5⟩ : ∃ z, z = z3 ++ vnum 32 := ⟨_, rfl⟩
  rw [← hz5] at hO5 ⊢
  rw [← hz5] at N5
  have hl5 : z5.length ≤ 20 := by rw [hz5, List.length_append]; have := vnum_len 5 32 (by decide); have := unhide HL3; omega
  have O5 := hide hO5
  have W5 : Hid (w4.drew.heap.size ≤ w5.heap.size) := hB5.size
  have B5 := hide ((unhide BD).trans hB5)
  have HZ5 := hide hz5
  have HL5 := hide hl5
  clear hO5 hB5 hG5 hz5 hl5
  clear hHeld
  refine hK.out _ _ (unhide P5) (fun hHeld => ?_)
  clear hK K
  refine norm_ (a' := ?_) ?_ ?_
  rotate_left
  · show Act.put _ (some 156) _ = _
    simp only [Act.put, List.setIfInBounds_toArray, List.set_cons_zero, List.set_cons_succ, i64_w, i32_w]
    rfl
  refine one_ (i := 8) (N := some 160) (bt 12 1023) rfl rfl (one_of HT_.out (by kernel_rfl)) (by decide) (fun K hK => ?_)
  refine Kd.R_append_rows_step (Kd.int .u8) (Rr := (Kd.int .u8).K w5) (w0 := w) w.heap.size (wanted_none rfl) (.tmp 156) (.tmp 159) 22 5 (.int .u8 0) 1 rfl Tryd.underlying22 info5 rfl (by decide) (by decide) (.slice A5 z5.length c5) z5 sm (some ⟨p, 59, none⟩) 32 32 (fun _ => True) (fun _ => False) rfl rfl (unhide O5) (by have h := row_rng (wcl_range (unhide P5) 59 (sm.map (Value.int .u8)) (by rw [List.length_map, unhide HS]; exact unhide HC59)) (by rw [unhide HS]; decide); rw [unhide HS] at h; exact h) (fun x cs h => h) (fun k h => h.elim) (fun _ _ => trivial) (unhide B5) (unhide B5).size (by have := unhide HL5; have := unhide HL4; omega) ?_
  intro v6 w6 hR6 hB6 hg6 hat6
  obtain ⟨z6, hz6⟩ : ∃ z, z = z5 ++ sm := ⟨_, rfl⟩
  rw [← hz6] at hR6
  obtain ⟨A6, c6, rfl⟩ := Kd.R_slice hR6
  have P6 : Hid (w6.heap[p]? = some (.cells cs.toArray 38 (0, 0))) := blk_grown (unhide P5) hg6 (Kd.R_ne (unhide O5) (unhide P5) (by decide))
  have G6 : Hid (Frm w6 g 0 0 (.slice none 0 0)) := blk_grown (unhide G5) hg6 (Kd.R_ne (unhide O5) (unhide G5) (by decide))
  have Q6 : Hid (Own w6 w3.heap.size (.slice A4 z4.length c4) z4) := R_keepH (unhide Q5) hg6 (unhide QD) (unhide N5)
  have hl6 : z6.length ≤ 60 := by rw [hz6, List.length_append, unhide HS]; have := unhide HL5; omega
  have O6 := hide hR6
  have B6 := hide hB6
  have HZ6 := hide hz6
  have HL6 := hide hl6
  clear hR6 hB6 hg6 hat6 hz6 hl6
  clear hHeld
  refine hK.out _ _ (unhide P6) (fun hHeld => ?_)
  clear hK K
  refine norm_ (a' := ?_) ?_ ?_
  rotate_left
  · show Act.put _ (some 160) _ = _
    simp only [Act.put, List.setIfInBounds_toArray, List.set_cons_zero, List.set_cons_succ, i64_w, i32_w]
    rfl
  refine one_ (i := 10) (N := some 162) (bt 12 2047) rfl rfl (one_of HT_.out (by kernel_rfl)) (by decide) (fun K hK => ?_)
  refine Kd.R_append_rows_step (Kd.int .u8) (Rr := (Kd.int .u8).K w6) (w0 := w) w.heap.size (wanted_none rfl) (.tmp 160) (.tmp 161) 22 5 (.int .u8 0) 1 rfl Tryd.underlying22 info5 rfl (by decide) (by decide) (.slice A6 z6.length c6) z6 z4 A4 z4.length c4 (fun _ => True) (fun _ => False) rfl rfl (unhide O6) (Kd.R_reads' (unhide Q6)).2.2 (fun x cs h => h) (fun k h => h.elim) (fun _ _ => trivial) (unhide B6) (unhide B6).size (by have := unhide HL5; have := unhide HL4; have := unhide HL6; omega) ?_
  intro v7 w7 hR7 hB7 hg7 hat7
  obtain ⟨z7, hz7⟩ : ∃ z, z = z6 ++ z4 := ⟨_, rfl⟩
  rw [← hz7] at hR7
  obtain ⟨A7, c7, rfl⟩ := Kd.R_slice hR7
  have P7 : Hid (w7.heap[p]? = some (.cells cs.toArray 38 (0, 0))) := blk_grown (unhide P6) hg7 (Kd.R_ne (unhide O6) (unhide P6) (by decide))
  have G7 : Hid (Frm w7 g 0 0 (.slice none 0 0)) := blk_grown (unhide G6) hg7 (Kd.R_ne (unhide O6) (unhide G6) (by decide))
  have hl7 : z7.length ≤ 9100 := by rw [hz7, List.length_append]; have := unhide HL6; have := unhide HL4; omega
  have O7 := hide hR7
  have B7 := hide hB7
  have HZ7 := hide hz7
  have HL7 := hide hl7
  clear hR7 hB7 hg7 hat7 hz7 hl7
  clear hHeld
  refine hK.out _ _ (unhide P7) (fun hHeld => ?_)
  clear hK K
  refine norm_ (a' := ?_) ?_ ?_
  rotate_left
  · show Act.put _ (some 162) _ = _
    simp only [Act.put, List.setIfInBounds_toArray, List.set_cons_zero, List.set_cons_succ, i64_w, i32_w]
    rfl
  refine run_ [(11, 6)] ?_
  iterate 1 ((first | refine sp_ (v := ?_) (a' := ?_) HT_.out rfl rfl rfl (by kernel_rfl) (fun _ _ _ h => h) ?_ ?_ ?_ | refine sg_ (v := ?_) (a' := ?_) HT_.out rfl rfl (by kernel_rfl) (fun _ _ _ h => h) (by rfl) ?_ ?_ ?_); rotate_left; (· intro w'; go_simp; with_reducible rfl); rotate_left; (· simp only [Act.put, List.setIfInBounds_toArray, List.set_cons_zero, List.set_cons_succ, i64_w, i32_w]; rfl))
  refine rend_ ?_
  refine done_ (done_of HT_.out (by kernel_rfl)) ?_
  clear HT_ HW_ hHeld
  have d5 : ¬ (16384 : Int) < (z7.length : Int) := by have := unhide HL7; omega
  go_wp2
  rw [rounds_succ]
  have c0_ := cell_wcl (unhide P7) 0 (unhide HC0)
  obtain ⟨⟨_, _, _⟩, ⟨_, _, _⟩, _⟩ := (unhide G7).cells
  go_wp2
  clear c0_ d5
  have HD : Hid (z7 = (vnum 4 ++ vnum 32 ++ sm ++ dtB us)) := (by show z7 = _; rw [unhide HZ7, unhide HZ6, unhide HZ5, unhide HZ4, unhide HZ3])
  rw [← unhide HD]
  have F9 : Frm (((w7.setCell ⟨g, 0, none⟩ (.int .i64 4)).setCell ⟨g, 1, none⟩ (.int .i64 0)).setCell ⟨g, 2, none⟩ (.slice A7 z7.length c7)) g 4 0 (.slice A7 z7.length c7) := blk_put (blk_put (blk_put (unhide G7) 0 _ rfl) 1 _ rfl) 2 _ rfl
  have O9 : Own (((w7.setCell ⟨g, 0, none⟩ (.int .i64 4)).setCell ⟨g, 1, none⟩ (.int .i64 0)).setCell ⟨g, 2, none⟩ (.slice A7 z7.length c7)) w.heap.size (.slice A7 z7.length c7) z7 := Kd.R_set (Kd.R_set (Kd.R_set (unhide O7) (unhide G7) own5_51 0 _) (blk_put (unhide G7) 0 _ rfl) own5_51 1 _) (blk_put (blk_put (unhide G7) 0 _ rfl) 1 _ rfl) own5_51 2 _
  have B9 : Below w.heap.size w (((w7.setCell ⟨g, 0, none⟩ (.int .i64 4)).setCell ⟨g, 1, none⟩ (.int .i64 0)).setCell ⟨g, 2, none⟩ (.slice A7 z7.length c7)) := (((unhide B7).setCell (p := ⟨g, 0, none⟩) (Nat.le_of_lt (Nat.lt_of_le_of_lt (unhide HWP) (unhide HGP))) _).setCell (p := ⟨g, 1, none⟩) (Nat.le_of_lt (Nat.lt_of_le_of_lt (unhide HWP) (unhide HGP))) _).setCell (p := ⟨g, 2, none⟩) (Nat.le_of_lt (Nat.lt_of_le_of_lt (unhide HWP) (unhide HGP))) _
  generalize ((w7.setCell ⟨g, 0, none⟩ (.int .i64 4)).setCell ⟨g, 1, none⟩ (.int .i64 0)).setCell ⟨g, 2, none⟩ (.slice A7 z7.length c7) = w9 at F9 O9 B9 ⊢
  obtain ⟨⟨f0, f1, f2⟩, _, _⟩ := F9.cells
  have hu := Tryd.underlying51
  refine bodyPost_ret (v := .tuple #[.agg #[.int .i64 4, .int .i64 0, .slice A7 z7.length c7], .int .i64 0]) (by simp [results, Tryd.results20, go_sem, f0, f1, f2, hu]) rfl ⟨A7, c7, rfl, O9, B9⟩
end Go.Proofs.YtgoephcembgmcaaDoor.Wd
namespace Go.Proofs.YtgoephcembgmcaaDoor.Wd
open Go.RowKit Go.Proofs.YtgoephcembgmcaaDoorW.PrintWords Go.Proofs.YtgoephcembgmcaaDoorW.PrintLast Wk FrM Fr Bl Tk Sh Rg
open WkM (w64 Bytes)

set_option maxHeartbeats 8000000 in
set_option maxRecDepth 100000 in
theorem frame_5 (A : Option Addr) (c : Nat) (ys : List Int) (w : World) (hC : Kd.C (Kd.int .u8) w A ys.length ys) (hc : ys.length ≤ c) (hl : ys.length ≤ 500) :
    Calls Tryd.prog 20 #[.agg (wcl 5 5 { data := #[] } nl (.slice A ys.length c) 0 0 0 nl nl 0 (z8 32)).toArray] w fun e w' => ∃ A1 c1, e = .returned (.tuple #[.agg #[.int .i64 5, .int .i64 0, .slice A1 (vnum 5 ++ ys).length c1], .int .i64 0]) ∧ Own w' w.heap.size (.slice A1 (vnum 5 ++ ys).length c1) (vnum 5 ++ ys) ∧ Below w.heap.size w w' := by
  obtain ⟨cs, hcs⟩ : ∃ cs, cs = wcl 5 5 { data := #[] } nl (.slice A ys.length c) 0 0 0 nl nl 0 (z8 32) := ⟨_, rfl⟩
  have hsp : ∀ w1, Calls Tryd.prog 52 #[.agg cs.toArray, .string { data := #[110, 100] }] w1 fun e w' => e = .returned (.bool false) ∧ Below w1.heap.size w1 w' := fun w1 => by rw [hcs]; exact spare_5 A ys.length c w1
  have hlen : cs.length = 91 := by rw [hcs]; rfl
  rw [← hcs]
  have hc0 : cs[0]? = some (.int .i64 5) := by rw [hcs]; rfl
  have hc1 : cs[1]? = some (.int .i64 5) := by rw [hcs]; rfl
  have hc2 : cs[2]? = some (.string { data := #[] }) := by rw [hcs]; rfl
  have hc3 : cs[3]? = some (nl) := by rw [hcs]; rfl
  have hc52 : cs[52]? = some (.slice A ys.length c) := by rw [hcs]; rfl
  have HC0 := hide hc0
  have HC1 := hide hc1
  have HC2 := hide hc2
  have HC3 := hide hc3
  have HC52 := hide hc52
  have HSP := hide hsp
  have SZ : Hid ((Tryd.prog.info? 38).map (·.size) = some cs.length) := by show _ = _; rw [hlen]; exact size38
  have SZA : Hid ((Tryd.prog.info? 38).map (·.size) = some cs.toArray.size) := by show _ = _; rw [List.size_toArray, hlen]; exact size38
  have HB := hide hC
  have HCC := hide hc
  have HL := hide hl
  clear hC hc hl
  clear hsp hlen hcs hc0 hc1 hc2 hc3 hc52
  have P1 : ((w.alloc (.cells cs.toArray 38)).alloc (.cells #[.int .i64 0, .int .i64 0, .slice none 0 0] 51)).heap[w.heap.size]? = some (.cells cs.toArray 38 (0, 0)) := blk_alloc (blk_new _ _) _
  have G1 : Frm ((w.alloc (.cells cs.toArray 38)).alloc (.cells #[.int .i64 0, .int .i64 0, .slice none 0 0] 51)) (w.heap.size + 1) 0 0 (.slice none 0 0) := by
    have h := blk_new (w.alloc (.cells cs.toArray 38)) (.cells #[.int .i64 0, .int .i64 0, .slice none 0 0] 51)
    rw [World.size_alloc] at h
    exact h
  have B1 : Below w.heap.size w ((w.alloc (.cells cs.toArray 38)).alloc (.cells #[.int .i64 0, .int .i64 0, .slice none 0 0] 51)) := below_alloc (below_alloc (Below.refl _ _) _) _
  have c0 := cell_wcl P1 0 (unhide HC0)
  go_enter Tryd.func20, Tryd.ntmps20
  go_wp2_with fail
  clear c0
  obtain ⟨g, hg⟩ : ∃ g, g = w.heap.size + 1 := ⟨_, rfl⟩
  obtain ⟨p, hp⟩ : ∃ p, p = w.heap.size := ⟨_, rfl⟩
  have hgp : p < g := by omega
  have HGP := hide hgp
  have HWP : Hid (w.heap.size ≤ p) := by show _ ≤ _; omega
  rw [← hg] at G1 ⊢
  rw [← hp] at P1 ⊢
  rw [hp] at P1
  generalize (w.alloc (.cells cs.toArray 38)).alloc (.cells #[.int .i64 0, .int .i64 0, .slice none 0 0] 51) = w1 at P1 G1 B1 ⊢
  rw [← hp] at P1
  clear hg hp hgp
  refine (shape_5 _).mono ?_
  intro e w' hh
  rw [hh.1, hh.2]
  clear hh
  have P1 := hide P1
  have G1 := hide G1
  have B1 := hide B1
  go_wp2_with (refine wpList_load_mid rfl 38 (.tmp 1) rfl p 0 rfl cs _ (wcl_range (unhide P1) 0 cs (by rw [List.drop_zero, List.take_length])) Tryd.underlying38 rfl (unhide SZ) ?_)
  refine ((unhide HSP) w1).mono ?_
  rintro e w2 ⟨rfl, hb2⟩
  have P2 := hide (blk_below (unhide P1) hb2)
  have G2 : Hid (Frm w2 g 0 0 (.slice none 0 0)) := blk_below (unhide G1) hb2
  have B2 := hide (below_step (unhide B1) hb2)
  clear P1 G1 B1 hb2
  have c1_ := cell_wcl (unhide P2) 1 (unhide HC1)
  have c2_ := cell_wcl (unhide P2) 2 (unhide HC2)
  have c3_ := cell_wcl (unhide P2) 3 (unhide HC3)
  have O2 : Hid (Own w2 w.heap.size (.slice none 0 0) ([] : List Int)) := Kd.R_nil _ _ _ _ _
  go_wp2
  clear c2_ c3_
  refine wp_loop_rounds 3 ?_
  rw [rounds_succ]
  go_wp2_with fail
  refine (num_lit w.heap.size (.slice none 0 0) [] 5 5 w2 rfl (unhide O2) (unhide B2).size (by decide) (by decide)).mono ?_
  rintro e w3 ⟨A3, c3, rfl, hO3, hB3, hG3⟩
  obtain ⟨z3, hz3⟩ : ∃ z, z = vnum 5 := ⟨_, rfl⟩
  rw [List.nil_append, ← hz3] at hO3 hG3 ⊢
  have hl3 : z3.length ≤ 6 := by rw [hz3]; exact vnum_len 5 5 (by decide)
  have P3 : Hid (w3.heap[p]? = some (.cells cs.toArray 38 (0, 0))) := hG3.blk (unhide P2) (by simp [Value.ownBlock])
  have G3 : Hid (Frm w3 g 0 0 (.slice none 0 0)) := hG3.blk (unhide G2) (by simp [Value.ownBlock])
  have O3 := hide hO3
  have B3 := hide ((unhide B2).trans hB3)
  have HZ3 := hide hz3
  have HL3 := hide hl3
  clear hO3 hB3 hG3 hz3 hl3 c1_ P2 G2 B2 O2
  have c52_ := cell_wcl (unhide P3) 52 (unhide HC52)
  go_wp2
  rw [rounds_succ]
  have C3 : Hid (Kd.C (Kd.int .u8) w3 A ys.length ys) := Kd.C_below (unhide HB) (unhide B3)
  obtain ⟨yl, hyl⟩ : ∃ yl, yl = ys.length := ⟨_, rfl⟩
  rw [← hyl] at C3 c52_
  have hl5 : yl ≤ 500 := by rw [hyl]; exact unhide HL
  have HYL := hide hyl
  have HL5 := hide hl5
  clear hyl hl5
  go_wp2_with (at_builtin; refine unhide ?_)
  refine hide ?_
  clear c52_
  refine Kd.R_append_row (w0 := w) (Value.int .u8) (0 : Int) w.heap.size rfl (.tmp 109) (.tmp 111) 22 5 (.int .u8 0) 1 rfl Tryd.underlying22 info5 rfl (by decide) (.slice A3 z3.length c3) z3 ys A yl c (fun _ => True) rfl rfl (fun _ _ => trivial) (unhide O3) (unhide C3) (unhide B3) (unhide B3).size (by have := unhide HL3; have := unhide HL5; omega) ?_
  intro v5 w5 hR5 hB5 hg5 hat5
  obtain ⟨z5, hz5⟩ : ∃ z, z = z3 ++ ys := ⟨_, rfl⟩
  rw [← hz5] at hR5
  obtain ⟨A5, c5, rfl⟩ := Kd.R_slice hR5
  have P5 : Hid (w5.heap[p]? = some (.cells cs.toArray 38 (0, 0))) := blk_grown (unhide P3) hg5 (Kd.R_ne (unhide O3) (unhide P3) (by decide))
  have G5 : Hid (Frm w5 g 0 0 (.slice none 0 0)) := blk_grown (unhide G3) hg5 (Kd.R_ne (unhide O3) (unhide G3) (by decide))
  have O5 := hide hR5
  have B5 := hide hB5
  have HZ5 := hide hz5
  clear hR5 hB5 hg5 hat5
  have hl5 : z5.length ≤ 600 := by rw [hz5, List.length_append, ← unhide HYL]; have := unhide HL3; have := unhide HL5; omega
  have d5 : ¬ (16384 : Int) < (z5.length : Int) := by omega
  clear hz5 hl5
  go_wp2
  rw [rounds_succ]
  have c0_ := cell_wcl (unhide P5) 0 (unhide HC0)
  obtain ⟨⟨_, _, _⟩, ⟨_, _, _⟩, _⟩ := (unhide G5).cells
  go_wp2
  clear c0_ d5
  have HD : Hid (z5 = (vnum 5 ++ ys)) := (by show z5 = _; rw [unhide HZ5, unhide HZ3])
  rw [← unhide HD]
  have F9 : Frm (((w5.setCell ⟨g, 0, none⟩ (.int .i64 5)).setCell ⟨g, 1, none⟩ (.int .i64 0)).setCell ⟨g, 2, none⟩ (.slice A5 z5.length c5)) g 5 0 (.slice A5 z5.length c5) := blk_put (blk_put (blk_put (unhide G5) 0 _ rfl) 1 _ rfl) 2 _ rfl
  have O9 : Own (((w5.setCell ⟨g, 0, none⟩ (.int .i64 5)).setCell ⟨g, 1, none⟩ (.int .i64 0)).setCell ⟨g, 2, none⟩ (.slice A5 z5.length c5)) w.heap.size (.slice A5 z5.length c5) z5 := Kd.R_set (Kd.R_set (Kd.R_set (unhide O5) (unhide G5) own5_51 0 _) (blk_put (unhide G5) 0 _ rfl) own5_51 1 _) (blk_put (blk_put (unhide G5) 0 _ rfl) 1 _ rfl) own5_51 2 _
  have B9 : Below w.heap.size w (((w5.setCell ⟨g, 0, none⟩ (.int .i64 5)).setCell ⟨g, 1, none⟩ (.int .i64 0)).setCell ⟨g, 2, none⟩ (.slice A5 z5.length c5)) := (((unhide B5).setCell (p := ⟨g, 0, none⟩) (Nat.le_of_lt (Nat.lt_of_le_of_lt (unhide HWP) (unhide HGP))) _).setCell (p := ⟨g, 1, none⟩) (Nat.le_of_lt (Nat.lt_of_le_of_lt (unhide HWP) (unhide HGP))) _).setCell (p := ⟨g, 2, none⟩) (Nat.le_of_lt (Nat.lt_of_le_of_lt (unhide HWP) (unhide HGP))) _
  generalize ((w5.setCell ⟨g, 0, none⟩ (.int .i64 5)).setCell ⟨g, 1, none⟩ (.int .i64 0)).setCell ⟨g, 2, none⟩ (.slice A5 z5.length c5) = w9 at F9 O9 B9 ⊢
  obtain ⟨⟨f0, f1, f2⟩, _, _⟩ := F9.cells
  have hu := Tryd.underlying51
  refine bodyPost_ret (v := .tuple #[.agg #[.int .i64 5, .int .i64 0, .slice A5 z5.length c5], .int .i64 0]) (by simp [results, Tryd.results20, go_sem, f0, f1, f2, hu]) rfl ⟨A5, c5, rfl, O9, B9⟩
end Go.Proofs.YtgoephcembgmcaaDoor.Wd
namespace Go.Proofs.YtgoephcembgmcaaDoor.Wd
open Go.RowKit Go.Proofs.YtgoephcembgmcaaDoorW.PrintWords Go.Proofs.YtgoephcembgmcaaDoorW.PrintLast Wk FrM Fr Bl Tk Sh Rg
open WkM (w64 Bytes)

set_option maxHeartbeats 8000000 in
set_option maxRecDepth 100000 in
theorem frame_7 (name : ByteArray) (w : World) (hl : name.size ≤ 200) :
    Calls Tryd.prog 20 #[.agg (wcl 7 0 name nl nl 0 0 0 nl nl 0 (z8 32)).toArray] w fun e w' => ∃ A1 c1, e = .returned (.tuple #[.agg #[.int .i64 7, .int .i64 0, .slice A1 (vnum name.size ++ bytesOf name).length c1], .int .i64 0]) ∧ Own w' w.heap.size (.slice A1 (vnum name.size ++ bytesOf name).length c1) (vnum name.size ++ bytesOf name) ∧ Below w.heap.size w w' := by
  obtain ⟨cs, hcs⟩ : ∃ cs, cs = wcl 7 0 name nl nl 0 0 0 nl nl 0 (z8 32) := ⟨_, rfl⟩
  have hsp : ∀ w1, Calls Tryd.prog 52 #[.agg cs.toArray, .string { data := #[116] }] w1 fun e w' => e = .returned (.bool false) ∧ Below w1.heap.size w1 w' := fun w1 => by rw [hcs]; exact spare_7 name w1
  have hlen : cs.length = 91 := by rw [hcs]; rfl
  rw [← hcs]
  have hc0 : cs[0]? = some (.int .i64 7) := by rw [hcs]; rfl
  have hc1 : cs[1]? = some (.int .i64 0) := by rw [hcs]; rfl
  have hc2 : cs[2]? = some (.string name) := by rw [hcs]; rfl
  have hc3 : cs[3]? = some (nl) := by rw [hcs]; rfl
  have HC0 := hide hc0
  have HC1 := hide hc1
  have HC2 := hide hc2
  have HC3 := hide hc3
  have HSP := hide hsp
  have SZ : Hid ((Tryd.prog.info? 38).map (·.size) = some cs.length) := by show _ = _; rw [hlen]; exact size38
  have SZA : Hid ((Tryd.prog.info? 38).map (·.size) = some cs.toArray.size) := by show _ = _; rw [List.size_toArray, hlen]; exact size38
  have HL := hide hl
  clear hl
  clear hsp hlen hcs hc0 hc1 hc2 hc3
  have P1 : ((w.alloc (.cells cs.toArray 38)).alloc (.cells #[.int .i64 0, .int .i64 0, .slice none 0 0] 51)).heap[w.heap.size]? = some (.cells cs.toArray 38 (0, 0)) := blk_alloc (blk_new _ _) _
  have G1 : Frm ((w.alloc (.cells cs.toArray 38)).alloc (.cells #[.int .i64 0, .int .i64 0, .slice none 0 0] 51)) (w.heap.size + 1) 0 0 (.slice none 0 0) := by
    have h := blk_new (w.alloc (.cells cs.toArray 38)) (.cells #[.int .i64 0, .int .i64 0, .slice none 0 0] 51)
    rw [World.size_alloc] at h
    exact h
  have B1 : Below w.heap.size w ((w.alloc (.cells cs.toArray 38)).alloc (.cells #[.int .i64 0, .int .i64 0, .slice none 0 0] 51)) := below_alloc (below_alloc (Below.refl _ _) _) _
  have c0 := cell_wcl P1 0 (unhide HC0)
  go_enter Tryd.func20, Tryd.ntmps20
  go_wp2_with fail
  clear c0
  obtain ⟨g, hg⟩ : ∃ g, g = w.heap.size + 1 := ⟨_, rfl⟩
  obtain ⟨p, hp⟩ : ∃ p, p = w.heap.size := ⟨_, rfl⟩
  have hgp : p < g := by omega
  have HGP := hide hgp
  have HWP : Hid (w.heap.size ≤ p) := by show _ ≤ _; omega
  rw [← hg] at G1 ⊢
  rw [← hp] at P1 ⊢
  rw [hp] at P1
  generalize (w.alloc (.cells cs.toArray 38)).alloc (.cells #[.int .i64 0, .int .i64 0, .slice none 0 0] 51) = w1 at P1 G1 B1 ⊢
  rw [← hp] at P1
  clear hg hp hgp
  refine (shape_7 _).mono ?_
  intro e w' hh
  rw [hh.1, hh.2]
  clear hh
  have P1 := hide P1
  have G1 := hide G1
  have B1 := hide B1
  go_wp2_with (refine wpList_load_mid rfl 38 (.tmp 1) rfl p 0 rfl cs _ (wcl_range (unhide P1) 0 cs (by rw [List.drop_zero, List.take_length])) Tryd.underlying38 rfl (unhide SZ) ?_)
  refine ((unhide HSP) w1).mono ?_
  rintro e w2 ⟨rfl, hb2⟩
  have P2 := hide (blk_below (unhide P1) hb2)
  have G2 : Hid (Frm w2 g 0 0 (.slice none 0 0)) := blk_below (unhide G1) hb2
  have B2 := hide (below_step (unhide B1) hb2)
  clear P1 G1 B1 hb2
  have c1_ := cell_wcl (unhide P2) 1 (unhide HC1)
  have c2_ := cell_wcl (unhide P2) 2 (unhide HC2)
  have c3_ := cell_wcl (unhide P2) 3 (unhide HC3)
  have O2 : Hid (Own w2 w.heap.size (.slice none 0 0) ([] : List Int)) := Kd.R_nil _ _ _ _ _
  have hsz : name.size ≤ 4096 := by have := unhide HL; omega
  have hszi : ¬ (4096 : Int) < (name.size : Int) := by omega
  have HSZ := hide hsz
  clear hsz
  go_wp2
  clear c1_ c3_ hszi
  have kb := fun W => print_bytes (P := Tryd.prog) 9 22 5 Tryd.underlying9 Tryd.underlying22 Tryd.underlying5 name W
  refine wp_loop_rounds 2 ?_
  rw [rounds_succ]
  go_wp2_with fail
  clear kb c2_
  have hb4 : Below w2.heap.size w2 (Lib.bytesWorld w2 5 name) := bytes_below (Below.refl _ _) (Nat.le_refl _) 5 name
  have hC4 : Kd.C (Kd.int .u8) (Lib.bytesWorld w2 5 name) (some ⟨w2.heap.size, 0, none⟩) name.size (bytesOf name) := Kd.C_of_reads (d := (0 : Int)) (h1 := fun _ => rfl) (bytes_reads w2 5 name (by have := unhide HSZ; omega))
  have hcp : name.size ≤ grownCap w2 name.size 0 5 := grownCap_ge _ _ _ _
  generalize grownCap w2 name.size 0 5 = cap at hcp ⊢
  have hlt4 : w2.heap.size < (Lib.bytesWorld w2 5 name).heap.size := by rw [Lib.bytesWorld_size]; omega
  have hne4 : some w2.heap.size ≠ (Value.slice none 0 0).ownBlock := fun he => by have := Kd.R_lt (unhide O2) _ he.symm; omega
  have p4 := blk_below (unhide P2) hb4
  have g4 := blk_below (unhide G2) hb4
  have o4 := Kd.R_below (unhide O2) hb4
  have b4 := below_step (unhide B2) hb4
  generalize Lib.bytesWorld w2 5 name = w4 at hb4 hC4 hlt4 p4 g4 o4 b4 ⊢
  refine (text_ok_m w.heap.size (.slice none 0 0) [] name.size (some ⟨w2.heap.size, 0, none⟩) cap (bytesOf name) w4 (bytesOf_length name).symm o4 (fun w' v' _ hG => by rw [bytesOf_length]; exact C_blk hC4 (hG.2.1 _ hlt4 hne4)) b4.size (by rw [bytesOf_length]; exact hcp) (by rw [bytesOf_length]; exact unhide HSZ) (by decide)).mono ?_
  rintro e w5 ⟨A5, c5, rfl, hO5, hB5, hG5⟩
  obtain ⟨z5, hz5⟩ : ∃ z, z = [] ++ vnum (bytesOf name).length ++ bytesOf name := ⟨_, rfl⟩
  rw [← hz5] at hO5 ⊢
  rw [bytesOf_length] at hz5
  have P5 : Hid (w5.heap[p]? = some (.cells cs.toArray 38 (0, 0))) := hG5.blk p4 (Kd.R_ne o4 p4 (by decide))
  have G5 : Hid (Frm w5 g 0 0 (.slice none 0 0)) := hG5.blk g4 (Kd.R_ne o4 g4 (by decide))
  have O5 := hide hO5
  have B5 := hide (b4.trans hB5)
  have HZ5 := hide hz5
  clear hO5 hB5 hG5 hb4 hC4 hlt4 hne4 p4 g4 o4 b4 hcp
  have hl5 : z5.length ≤ 300 := by rw [hz5]; simp only [List.nil_append, List.length_append, bytesOf_length]; have := vnum_len 5 name.size (by have := unhide HL; omega); have := unhide HL; omega
  have d5 : ¬ (16384 : Int) < (z5.length : Int) := by omega
  clear hz5 hl5
  go_wp2
  rw [rounds_succ]
  have c0_ := cell_wcl (unhide P5) 0 (unhide HC0)
  obtain ⟨⟨_, _, _⟩, ⟨_, _, _⟩, _⟩ := (unhide G5).cells
  go_wp2
  clear c0_ d5
  have HD : Hid (z5 = (vnum name.size ++ bytesOf name)) := (by show z5 = _; rw [unhide HZ5, List.nil_append])
  rw [← unhide HD]
  have F9 : Frm (((w5.setCell ⟨g, 0, none⟩ (.int .i64 7)).setCell ⟨g, 1, none⟩ (.int .i64 0)).setCell ⟨g, 2, none⟩ (.slice A5 z5.length c5)) g 7 0 (.slice A5 z5.length c5) := blk_put (blk_put (blk_put (unhide G5) 0 _ rfl) 1 _ rfl) 2 _ rfl
  have O9 : Own (((w5.setCell ⟨g, 0, none⟩ (.int .i64 7)).setCell ⟨g, 1, none⟩ (.int .i64 0)).setCell ⟨g, 2, none⟩ (.slice A5 z5.length c5)) w.heap.size (.slice A5 z5.length c5) z5 := Kd.R_set (Kd.R_set (Kd.R_set (unhide O5) (unhide G5) own5_51 0 _) (blk_put (unhide G5) 0 _ rfl) own5_51 1 _) (blk_put (blk_put (unhide G5) 0 _ rfl) 1 _ rfl) own5_51 2 _
  have B9 : Below w.heap.size w (((w5.setCell ⟨g, 0, none⟩ (.int .i64 7)).setCell ⟨g, 1, none⟩ (.int .i64 0)).setCell ⟨g, 2, none⟩ (.slice A5 z5.length c5)) := (((unhide B5).setCell (p := ⟨g, 0, none⟩) (Nat.le_of_lt (Nat.lt_of_le_of_lt (unhide HWP) (unhide HGP))) _).setCell (p := ⟨g, 1, none⟩) (Nat.le_of_lt (Nat.lt_of_le_of_lt (unhide HWP) (unhide HGP))) _).setCell (p := ⟨g, 2, none⟩) (Nat.le_of_lt (Nat.lt_of_le_of_lt (unhide HWP) (unhide HGP))) _
  generalize ((w5.setCell ⟨g, 0, none⟩ (.int .i64 7)).setCell ⟨g, 1, none⟩ (.int .i64 0)).setCell ⟨g, 2, none⟩ (.slice A5 z5.length c5) = w9 at F9 O9 B9 ⊢
  obtain ⟨⟨f0, f1, f2⟩, _, _⟩ := F9.cells
  have hu := Tryd.underlying51
  refine bodyPost_ret (v := .tuple #[.agg #[.int .i64 7, .int .i64 0, .slice A5 z5.length c5], .int .i64 0]) (by simp [results, Tryd.results20, go_sem, f0, f1, f2, hu]) rfl ⟨A5, c5, rfl, O9, B9⟩
end Go.Proofs.YtgoephcembgmcaaDoor.Wd
namespace Go.Proofs.YtgoephcembgmcaaDoor.Wd
open Go.RowKit Go.Proofs.YtgoephcembgmcaaDoorW.PrintWords Go.Proofs.YtgoephcembgmcaaDoorW.PrintLast Wk FrM Fr Bl Tk Sh Rg
open WkM (w64 Bytes)

set_option maxHeartbeats 8000000 in
set_option maxRecDepth 100000 in
theorem frame_3 (A : Option Addr) (c : Nat) (ns : List ByteArray) (w : World) (hC : Kd.C Kd.string w A ns.length ns) (hc : ns.length ≤ 10) (hl : ∀ x ∈ ns, x.size ≤ 200) :
    Calls Tryd.prog 20 #[.agg (wcl 3 0 { data := #[] } (.slice A ns.length c) nl 0 0 0 nl nl 0 (z8 32)).toArray] w fun e w' => ∃ A1 c1, e = .returned (.tuple #[.agg #[.int .i64 3, .int .i64 0, .slice A1 (vnum ns.length ++ nsB ns).length c1], .int .i64 0]) ∧ Own w' w.heap.size (.slice A1 (vnum ns.length ++ nsB ns).length c1) (vnum ns.length ++ nsB ns) ∧ Below w.heap.size w w' := by
  obtain ⟨cs, hcs⟩ : ∃ cs, cs = wcl 3 0 { data := #[] } (.slice A ns.length c) nl 0 0 0 nl nl 0 (z8 32) := ⟨_, rfl⟩
  have hsp : ∀ w1, Calls Tryd.prog 52 #[.agg cs.toArray, .string { data := #[112] }] w1 fun e w' => e = .returned (.bool false) ∧ Below w1.heap.size w1 w' := fun w1 => by rw [hcs]; exact spare_3 A ns.length c w1
  have hlen : cs.length = 91 := by rw [hcs]; rfl
  rw [← hcs]
  have hc0 : cs[0]? = some (.int .i64 3) := by rw [hcs]; rfl
  have hc1 : cs[1]? = some (.int .i64 0) := by rw [hcs]; rfl
  have hc2 : cs[2]? = some (.string { data := #[] }) := by rw [hcs]; rfl
  have hc3 : cs[3]? = some (.slice A ns.length c) := by rw [hcs]; rfl
  have HC0 := hide hc0
  have HC1 := hide hc1
  have HC2 := hide hc2
  have HC3 := hide hc3
  have HSP := hide hsp
  have SZ : Hid ((Tryd.prog.info? 38).map (·.size) = some cs.length) := by show _ = _; rw [hlen]; exact size38
  have SZA : Hid ((Tryd.prog.info? 38).map (·.size) = some cs.toArray.size) := by show _ = _; rw [List.size_toArray, hlen]; exact size38
  have HB := hide hC
  have HCC := hide hc
  have HL := hide hl
  clear hC hc hl
  clear hsp hlen hcs hc0 hc1 hc2 hc3
  have P1 : ((w.alloc (.cells cs.toArray 38)).alloc (.cells #[.int .i64 0, .int .i64 0, .slice none 0 0] 51)).heap[w.heap.size]? = some (.cells cs.toArray 38 (0, 0)) := blk_alloc (blk_new _ _) _
  have G1 : Frm ((w.alloc (.cells cs.toArray 38)).alloc (.cells #[.int .i64 0, .int .i64 0, .slice none 0 0] 51)) (w.heap.size + 1) 0 0 (.slice none 0 0) := by
    have h := blk_new (w.alloc (.cells cs.toArray 38)) (.cells #[.int .i64 0, .int .i64 0, .slice none 0 0] 51)
    rw [World.size_alloc] at h
    exact h
  have B1 : Below w.heap.size w ((w.alloc (.cells cs.toArray 38)).alloc (.cells #[.int .i64 0, .int .i64 0, .slice none 0 0] 51)) := below_alloc (below_alloc (Below.refl _ _) _) _
  have c0 := cell_wcl P1 0 (unhide HC0)
  go_enter Tryd.func20, Tryd.ntmps20
  go_wp2_with fail
  clear c0
  obtain ⟨g, hg⟩ : ∃ g, g = w.heap.size + 1 := ⟨_, rfl⟩
  obtain ⟨p, hp⟩ : ∃ p, p = w.heap.size := ⟨_, rfl⟩
  have hgp : p < g := by omega
  have HGP := hide hgp
  have HWP : Hid (w.heap.size ≤ p) := by show _ ≤ _; omega
  rw [← hg] at G1 ⊢
  rw [← hp] at P1 ⊢
  rw [hp] at P1
  generalize (w.alloc (.cells cs.toArray 38)).alloc (.cells #[.int .i64 0, .int .i64 0, .slice none 0 0] 51) = w1 at P1 G1 B1 ⊢
  rw [← hp] at P1
  clear hg hp hgp
  refine (shape_3 _).mono ?_
  intro e w' hh
  rw [hh.1, hh.2]
  clear hh
  have P1 := hide P1
  have G1 := hide G1
  have B1 := hide B1
  go_wp2_with (refine wpList_load_mid rfl 38 (.tmp 1) rfl p 0 rfl cs _ (wcl_range (unhide P1) 0 cs (by rw [List.drop_zero, List.take_length])) Tryd.underlying38 rfl (unhide SZ) ?_)
  refine ((unhide HSP) w1).mono ?_
  rintro e w2 ⟨rfl, hb2⟩
  have P2 := hide (blk_below (unhide P1) hb2)
  have G2 : Hid (Frm w2 g 0 0 (.slice none 0 0)) := blk_below (unhide G1) hb2
  have B2 := hide (below_step (unhide B1) hb2)
  clear P1 G1 B1 hb2
  have c1_ := cell_wcl (unhide P2) 1 (unhide HC1)
  have c2_ := cell_wcl (unhide P2) 2 (unhide HC2)
  have c3_ := cell_wcl (unhide P2) 3 (unhide HC3)
  have O2 : Hid (Own w2 w.heap.size (.slice none 0 0) ([] : List Int)) := Kd.R_nil _ _ _ _ _
  obtain ⟨m, hm⟩ : ∃ m, m = ns.length := ⟨_, rfl⟩
  rw [← hm] at c3_
  have d1 : ¬ (64 : Int) < (m : Int) := by have := unhide HCC; omega
  have HM := hide hm
  have HM10 : Hid (m ≤ 10) := by have := unhide HCC; show _ ≤ _; omega
  clear hm
  go_wp2
  clear c1_ c2_ d1
  refine wp_loop_rounds 2 ?_
  rw [rounds_succ]
  go_wp2_with fail
  clear c3_
  refine (num_ok w.heap.size (.slice none 0 0) [] m w2 (unhide O2) (unhide B2).size (by have := unhide HM10; omega) (by decide)).mono ?_
  rintro e w3 ⟨A3, c3, rfl, hO3, hB3, hG3⟩
  obtain ⟨z3, hz3⟩ : ∃ z, z = vnum m := ⟨_, rfl⟩
  rw [List.nil_append, ← hz3] at hO3 hG3 ⊢
  have hl3 : z3.length ≤ 6 := by rw [hz3]; exact vnum_len 5 m (by have := unhide HM10; omega)
  have P3 : Hid (w3.heap[p]? = some (.cells cs.toArray 38 (0, 0))) := hG3.blk (unhide P2) (by simp [Value.ownBlock])
  have G3 : Hid (Frm w3 g 0 0 (.slice none 0 0)) := hG3.blk (unhide G2) (by simp [Value.ownBlock])
  have O3 := hide hO3
  have B3 := hide ((unhide B2).trans hB3)
  have HZ3 := hide hz3
  have HL3 := hide hl3
  clear hO3 hB3 hG3 hz3 hl3 P2 G2 B2 O2
  have c3_ := cell_wcl (unhide P3) 3 (unhide HC3)
  rw [← unhide HM] at c3_
  go_wp2
  clear c3_
  go_loopg [6, 82] m (fun kq v6 v82 wr => ∃ (i : Nat) (A4 : Option Addr) (c4 : Nat) (zs : List Int), v82 = .int .i64 (i : Int) ∧ v6 = .slice A4 zs.length c4 ∧ Hid (i + kq = m) ∧ Hid (zs = z3 ++ nsB (ns.take i)) ∧ Hid (Own wr w.heap.size (.slice A4 zs.length c4) zs) ∧ Hid (Below w.heap.size w wr) ∧ Hid (wr.heap[p]? = some (.cells cs.toArray 38 (0, 0))) ∧ Hid (Frm wr g 0 0 (.slice none 0 0)))
  case atStart => exact ⟨0, A3, c3, z3, rfl, rfl, Nat.zero_add _, (by show z3 = z3 ++ nsB (ns.take 0); simp [nsB]), O3, B3, P3, G3⟩
  case round =>
    obtain ⟨i, A4, c4, zs, rfl, rfl, HI, HZ, O4, B4, P4, G4⟩ := hrel
    by_cases hlt : i < m
    · obtain ⟨nm, hnm⟩ : ∃ nm, ns[i]? = some nm := ⟨_, List.getElem?_eq_getElem (by have := unhide HM; omega)⟩
      have hsz := (unhide HL) nm (List.mem_of_getElem? hnm)
      obtain ⟨ad, hA, hcell⟩ := Kd.at_string (Kd.C_below (unhide HB) (unhide B4)) (i : Int) (by omega) (by have := unhide HM; omega)
      have hrd : rdOf ByteArray.empty ns (i : Int) = nm := by unfold rdOf; rw [Int.toNat_natCast, List.getD_eq_getElem?_getD, hnm]; rfl
      rw [hrd, Int.toNat_natCast] at hcell
      subst hA
      have hzl : zs.length ≤ 6 + 210 * i := by
        rw [unhide HZ, List.length_append]
        have := nsB_len ns (unhide HL) i
        have := unhide HL3; omega
      have d1 : (i : Int) < (m : Int) := by omega
      have d2 : ¬ (4096 : Int) < (nm.size : Int) := by omega
      have HZL := hide hzl
      have HSN := hide hsz
      have HNM := hide hnm
      have HLT := hide hlt
      have HSZ : Hid (nm.size ≤ 4096) := by show _ ≤ _; omega
      have e1 : wrap64 ((i : Int) + 1) = ((i + 1 : Nat) : Int) := by have := unhide HM10; rw [w64 _ (by omega) (by omega)]; omega
      have E1 := hide e1
      clear hzl hsz hnm hlt hrd e1
      have kb := fun W => print_bytes (P := Tryd.prog) 9 22 5 Tryd.underlying9 Tryd.underlying22 Tryd.underlying5 nm W
      go_wp2_with fail
      clear kb hcell d2
      have hb4 : Below wr.heap.size wr (Lib.bytesWorld wr 5 nm) := bytes_below (Below.refl _ _) (Nat.le_refl _) 5 nm
      have hC4 : Kd.C (Kd.int .u8) (Lib.bytesWorld wr 5 nm) (some ⟨wr.heap.size, 0, none⟩) nm.size (bytesOf nm) := Kd.C_of_reads (d := (0 : Int)) (h1 := fun _ => rfl) (bytes_reads wr 5 nm (by have := unhide HSZ; omega))
      have hcp : nm.size ≤ grownCap wr nm.size 0 5 := grownCap_ge _ _ _ _
      generalize grownCap wr nm.size 0 5 = cap at hcp ⊢
      have hlt4 : wr.heap.size < (Lib.bytesWorld wr 5 nm).heap.size := by rw [Lib.bytesWorld_size]; omega
      have hne4 : some wr.heap.size ≠ (Value.slice A4 zs.length c4).ownBlock := fun he => by have := Kd.R_lt (unhide O4) _ he.symm; omega
      have p4 := blk_below (unhide P4) hb4
      have g4 := blk_below (unhide G4) hb4
      have o4 := Kd.R_below (unhide O4) hb4
      have b4 := below_step (unhide B4) hb4
      generalize Lib.bytesWorld wr 5 nm = w4 at hb4 hC4 hlt4 p4 g4 o4 b4 ⊢
      refine (text_ok_m w.heap.size (.slice A4 zs.length c4) zs nm.size (some ⟨wr.heap.size, 0, none⟩) cap (bytesOf nm) w4 (bytesOf_length nm).symm o4 (fun w' v' _ hG => by rw [bytesOf_length]; exact C_blk hC4 (hG.2.1 _ hlt4 hne4)) b4.size (by rw [bytesOf_length]; exact hcp) (by rw [bytesOf_length]; exact unhide HSZ) (by have := unhide HZL; have := unhide HLT; have := unhide HM10; omega)).mono ?_
      rintro e w5 ⟨A5, c5, rfl, hO5, hB5, hG5⟩
      obtain ⟨z5, hz5⟩ : ∃ z, z = zs ++ vnum (bytesOf nm).length ++ bytesOf nm := ⟨_, rfl⟩
      rw [← hz5] at hO5 ⊢
      rw [bytesOf_length] at hz5
      have P5 : Hid (w5.heap[p]? = some (.cells cs.toArray 38 (0, 0))) := hG5.blk p4 (Kd.R_ne o4 p4 (by decide))
      have G5 : Hid (Frm w5 g 0 0 (.slice none 0 0)) := hG5.blk g4 (Kd.R_ne o4 g4 (by decide))
      have O5 := hide hO5
      have B5 := hide (b4.trans hB5)
      have HZ5 := hide hz5
      clear hO5 hB5 hG5 hb4 hC4 hlt4 hne4 p4 g4 o4 b4 hcp
      have HZZ : Hid (z5 = z3 ++ nsB (ns.take (i + 1))) := by
        show z5 = _
        rw [unhide HZ5, unhide HZ, nsB_succ (unhide HNM)]
        simp only [List.append_assoc]
      clear hz5
      go_wp2
      go_roundg (gk - 1)
      case measure => have := unhide HI; have := unhide HLT; omega
      case rel => exact ⟨i + 1, A5, c5, z5, by first | exact congrArg (Value.int .i64) (unhide E1) | exact congrArg (Value.int .i64) (by omega), rfl, by have := unhide HI; have := unhide HLT; show _ = _; omega, HZZ, O5, B5, P5, G5⟩
    · have d1 : ¬ (i : Int) < (m : Int) := by omega
      obtain ⟨z5, hz5⟩ : ∃ z, z = zs := ⟨_, rfl⟩
      have hl5 : z5.length ≤ 3000 := by
        rw [hz5, unhide HZ, List.length_append]
        have := nsB_len ns (unhide HL) i
        have := unhide HL3; have := unhide HI; have := unhide HM10; omega
      have hz6 : z5 = z3 ++ nsB ns := by rw [hz5, unhide HZ, List.take_of_length_le (by have := unhide HM; omega)]
      have HZ5 := hide hz6
      rw [← hz5] at O4 ⊢
      have O5 := O4
      have B5 := B4
      have P5 := P4
      have G5 := G4
      clear hlt hz6 O4 B4 P4 G4
      have d5 : ¬ (16384 : Int) < (z5.length : Int) := by omega
      clear hz5 hl5
      go_wp2
      rw [rounds_succ]
      have c0_ := cell_wcl (unhide P5) 0 (unhide HC0)
      obtain ⟨⟨_, _, _⟩, ⟨_, _, _⟩, _⟩ := (unhide G5).cells
      go_wp2
      clear c0_ d5
      have HD : Hid (z5 = (vnum ns.length ++ nsB ns)) := (by show z5 = _; rw [unhide HZ5, unhide HZ3, unhide HM])
      rw [← unhide HD]
      have F9 : Frm (((wr.setCell ⟨g, 0, none⟩ (.int .i64 3)).setCell ⟨g, 1, none⟩ (.int .i64 0)).setCell ⟨g, 2, none⟩ (.slice A4 z5.length c4)) g 3 0 (.slice A4 z5.length c4) := blk_put (blk_put (blk_put (unhide G5) 0 _ rfl) 1 _ rfl) 2 _ rfl
      have O9 : Own (((wr.setCell ⟨g, 0, none⟩ (.int .i64 3)).setCell ⟨g, 1, none⟩ (.int .i64 0)).setCell ⟨g, 2, none⟩ (.slice A4 z5.length c4)) w.heap.size (.slice A4 z5.length c4) z5 := Kd.R_set (Kd.R_set (Kd.R_set (unhide O5) (unhide G5) own5_51 0 _) (blk_put (unhide G5) 0 _ rfl) own5_51 1 _) (blk_put (blk_put (unhide G5) 0 _ rfl) 1 _ rfl) own5_51 2 _
      have B9 : Below w.heap.size w (((wr.setCell ⟨g, 0, none⟩ (.int .i64 3)).setCell ⟨g, 1, none⟩ (.int .i64 0)).setCell ⟨g, 2, none⟩ (.slice A4 z5.length c4)) := (((unhide B5).setCell (p := ⟨g, 0, none⟩) (Nat.le_of_lt (Nat.lt_of_le_of_lt (unhide HWP) (unhide HGP))) _).setCell (p := ⟨g, 1, none⟩) (Nat.le_of_lt (Nat.lt_of_le_of_lt (unhide HWP) (unhide HGP))) _).setCell (p := ⟨g, 2, none⟩) (Nat.le_of_lt (Nat.lt_of_le_of_lt (unhide HWP) (unhide HGP))) _
      generalize ((wr.setCell ⟨g, 0, none⟩ (.int .i64 3)).setCell ⟨g, 1, none⟩ (.int .i64 0)).setCell ⟨g, 2, none⟩ (.slice A4 z5.length c4) = w9 at F9 O9 B9 ⊢
      obtain ⟨⟨f0, f1, f2⟩, _, _⟩ := F9.cells
      have hu := Tryd.underlying51
      refine bodyPost_ret (v := .tuple #[.agg #[.int .i64 3, .int .i64 0, .slice A4 z5.length c4], .int .i64 0]) (by simp [results, Tryd.results20, go_sem, f0, f1, f2, hu]) rfl ⟨A4, c4, rfl, O9, B9⟩
end Go.Proofs.YtgoephcembgmcaaDoor.Wd
namespace Go.Proofs.YtgoephcembgmcaaDoor.Wd
open Go.RowKit Go.Proofs.YtgoephcembgmcaaDoorW.PrintWords Go.Proofs.YtgoephcembgmcaaDoorW.PrintLast Wk FrM Fr Bl Tk Sh Rg
open WkM (w64 Bytes)
/-- What is heard, beside what was said: what the law compares is the same. -/
structure Like (w : World) (cs cs' : List Value) : Prop where
  out : ∃ (k n : Int) (name : ByteArray) (A1 A1' A2 A2' A3 A3' A4 A4' : Option Addr) (n1 c1 c1' c2 c2' n3 c3 c3' n4 c4 n4' c4' : Nat) (ys : List Int) (s0 s1 s2 cut : Int) (sm : List Int),
    cs = wcl k n name (.slice A1 n1 c1) (.slice A2 ys.length c2) s0 s1 s2 (.slice A3 n3 c3) (.slice A4 n4 c4) cut (sm.map (Value.int .u8)) ∧
    cs' = wcl k n name (.slice A1' n1 c1') (.slice A2' ys.length c2') s0 s1 s2 (.slice A3' n3 c3') (.slice A4' n4' c4') cut (sm.map (Value.int .u8)) ∧ sm.length = 32 ∧ Kd.C (Kd.int .u8) w A2 ys.length ys ∧ Kd.C (Kd.int .u8) w A2' ys.length ys
theorem z8_map : z8 32 = (List.replicate 32 (0 : Int)).map (Value.int .u8) := rfl
/-- What word.Read answers at a frame with these data, over the world w0. -/
def Heard (w0 : World) (x : Wdt) : Prop := ∀ (A : Option Addr) (c : Nat) (L : List Int) (w : World), Below w0.heap.size w0 w → L = x.2.2 → Kd.C (Kd.int .u8) w A L.length L → L.length ≤ c →
  Calls Tryd.prog 9 #[.agg #[.int .i64 (x.2.1 : Int), .int .i64 0, .slice A L.length c]] w fun e w' => ∃ cs' : List Value, e = .returned (.tuple #[.agg cs'.toArray, .nilIface]) ∧ Like w' x.1 cs' ∧ cs'.length = 91 ∧ (∀ u ∈ cs', u.oneCell' = true) ∧ Below w.heap.size w w'
theorem Heard.up {w0 w : World} {x : Wdt} (h : Heard w0 x) (hb : Below w0.heap.size w0 w) : Heard w x := fun A c L w1 h1 => h A c L w1 (below_step hb h1)
theorem heard_14 (w0 : World) (n : Nat) (A0 : Option Addr) (c0 : Nat) (bs : List (Int × List Int)) (hbs : ∀ b ∈ bs, Blk b) (hbl : bs.length = (n + 3) / 4) (hn : n ≤ 500) : Heard w0 (w14 n A0 c0 bs) := by
  intro A c L w hb hL hC hc
  refine (wread_14 n bs A c L w hL hC hc hbs hbl hn).mono ?_
  rintro e w' ⟨A1, c1, rfl, h1⟩
  refine ⟨_, rfl, ⟨14, 3, { data := #[] }, none, none, none, none, A0, A1, none, none, 0, 0, 0, 0, 0, bs.length, c0, c1, 0, 0, 0, 0, [], 4, 8, (n : Int), 0, List.replicate 32 0, rfl, rfl, rfl, Kd.C_nil _ _, Kd.C_nil _ _⟩, rfl, wcl_one _ _ _ _ _ _ _ _ _ _ _ _ _ _ _ _ _ _ _ _ z8_one, h1⟩
theorem heard_4 (w0 : World) (A0 : Option Addr) (c0 : Nat) (us : List (Int × Int × List Int)) (sm : List Int) (hok : AllOk us) (hw : tws us ≤ 501) (hs : sm.length = 32) : Heard w0 (w4 A0 c0 us sm) := by
  intro A c L w hb hL hC hc
  refine (wread_4 us sm A c L w (by rw [hL]; simp only [w4, List.append_assoc]) hC hc hok hw hs).mono ?_
  rintro e w' ⟨A1, n1, c1, rfl, h1⟩
  refine ⟨_, rfl, ⟨4, 4, { data := #[] }, none, none, none, none, none, none, A0, A1, 0, 0, 0, 0, 0, 0, 0, 0, us.length, c0, n1, c1, [], 0, 0, 0, 32, sm, rfl, rfl, hs, Kd.C_nil _ _, Kd.C_nil _ _⟩, by simp [wcl, z8, hs], wcl_one _ _ _ _ _ _ _ _ _ _ _ _ _ _ _ _ _ _ _ _ (sm_one sm), h1⟩
theorem heard_5 (w0 : World) (A0 : Option Addr) (c0 : Nat) (ys : List Int) (hy : Kd.C (Kd.int .u8) w0 A0 ys.length ys) (hl : ys.length ≤ 500) : Heard w0 (w5 A0 c0 ys) := by
  intro A c L w hb hL hC hc
  refine (wread_5 ys A c L w hL hC hc hl).mono ?_
  rintro e w' ⟨A1, c1, rfl, h0, h1⟩
  refine ⟨_, rfl, ⟨5, 5, { data := #[] }, none, none, A0, A1, none, none, none, none, 0, 0, 0, c0, c1, 0, 0, 0, 0, 0, 0, 0, ys, 0, 0, 0, 0, List.replicate 32 0, rfl, rfl, rfl, Kd.C_below hy (below_step hb h1), h0⟩, rfl, wcl_one _ _ _ _ _ _ _ _ _ _ _ _ _ _ _ _ _ _ _ _ z8_one, h1⟩
theorem heard_7 (w0 : World) (name : ByteArray) (hl : name.size ≤ 200) : Heard w0 (w7 name) := by
  intro A c L w hb hL hC hc
  refine (wread_7 name A c L w hL hC hc hl).mono ?_
  rintro e w' ⟨rfl, h1⟩
  refine ⟨_, rfl, ⟨7, 0, name, none, none, none, none, none, none, none, none, 0, 0, 0, 0, 0, 0, 0, 0, 0, 0, 0, 0, [], 0, 0, 0, 0, List.replicate 32 0, rfl, rfl, rfl, Kd.C_nil _ _, Kd.C_nil _ _⟩, rfl, wcl_one _ _ _ _ _ _ _ _ _ _ _ _ _ _ _ _ _ _ _ _ z8_one, h1⟩
theorem heard_3 (w0 : World) (A0 : Option Addr) (c0 : Nat) (ns : List ByteArray) (hm : ns.length ≤ 10) (hl : ∀ x ∈ ns, x.size ≤ 200) : Heard w0 (w3 A0 c0 ns) := by
  intro A c L w hb hL hC hc
  refine (wread_3 ns A c L w hL hC hc hm hl).mono ?_
  rintro e w' ⟨A1, c1, rfl, h1⟩
  refine ⟨_, rfl, ⟨3, 0, { data := #[] }, A0, A1, none, none, none, none, none, none, ns.length, c0, c1, 0, 0, 0, 0, 0, 0, 0, 0, 0, [], 0, 0, 0, 0, List.replicate 32 0, rfl, rfl, rfl, Kd.C_nil _ _, Kd.C_nil _ _⟩, rfl, wcl_one _ _ _ _ _ _ _ _ _ _ _ _ _ _ _ _ _ _ _ _ z8_one, h1⟩
/-! What Word.Frame answers. -/
theorem said_14 (w0 : World) (n : Nat) (A0 : Option Addr) (c0 : Nat) (bs : List (Int × List Int)) (hC : BkC w0 A0 bs) (hbs : ∀ b ∈ bs, Blk b) (hbl : bs.length = (n + 3) / 4) (hn : n ≤ 500) : FrameAt w0 (w14 n A0 c0 bs).1 14 (w14 n A0 c0 bs).2.2 :=
  fun w1 h1 => frame_14 n A0 c0 bs w1 (hC.below h1) hbs hbl hn
theorem said_4 (w0 : World) (A0 : Option Addr) (c0 : Nat) (us : List (Int × Int × List Int)) (sm : List Int) (hC : TkC w0 A0 us) (hok : AllOk us) (hw : tws us ≤ 501) (hs : sm.length = 32) : FrameAt w0 (w4 A0 c0 us sm).1 4 (w4 A0 c0 us sm).2.2 :=
  fun w1 h1 => frame_4 A0 c0 us sm w1 (hC.below h1) hok hw hs
theorem said_5 (w0 : World) (A0 : Option Addr) (c0 : Nat) (ys : List Int) (hC : Kd.C (Kd.int .u8) w0 A0 ys.length ys) (hc : ys.length ≤ c0) (hl : ys.length ≤ 500) : FrameAt w0 (w5 A0 c0 ys).1 5 (w5 A0 c0 ys).2.2 :=
  fun w1 h1 => frame_5 A0 c0 ys w1 (Kd.C_below hC h1) hc hl
theorem said_7 (w0 : World) (name : ByteArray) (hl : name.size ≤ 200) : FrameAt w0 (w7 name).1 7 (w7 name).2.2 :=
  fun w1 h1 => frame_7 name w1 hl
theorem said_3 (w0 : World) (A0 : Option Addr) (c0 : Nat) (ns : List ByteArray) (hC : Kd.C Kd.string w0 A0 ns.length ns) (hm : ns.length ≤ 10) (hl : ∀ x ∈ ns, x.size ≤ 200) : FrameAt w0 (w3 A0 c0 ns).1 3 (w3 A0 c0 ns).2.2 :=
  fun w1 h1 => frame_3 A0 c0 ns w1 (Kd.C_below hC h1) hm hl
theorem said_11 (w0 : World) : FrameAt w0 w11.1 11 w11.2.2 := fun w1 h1 => frame_11 w1
/-! How long they are. -/
theorem vn (k m : Nat) (h : m < 128 ^ (k + 1)) : (vnum m).length ≤ k + 1 := vnum_len k m h
theorem len_14 (n : Nat) (A0 : Option Addr) (c0 : Nat) (bs : List (Int × List Int)) (hbs : ∀ b ∈ bs, Blk b) (hbl : bs.length = (n + 3) / 4) (hn : n ≤ 500) : (w14 n A0 c0 bs).2.2.length ≤ 3000 := by
  have h1 := vn 0 3 (by decide)
  have h2 := vn 0 4 (by decide)
  have h3 := vn 0 8 (by decide)
  have h4 := vn 5 n (by omega)
  have h5 := bsB_len bs hbs
  simp only [w14, sgB, List.length_append]
  omega
theorem len_4 (A0 : Option Addr) (c0 : Nat) (us : List (Int × Int × List Int)) (sm : List Int) (hok : AllOk us) (hw : tws us ≤ 501) (hs : sm.length = 32) : (w4 A0 c0 us sm).2.2.length ≤ 8000 := by
  have h1 := vn 0 4 (by decide)
  have h2 := vn 0 32 (by decide)
  have h3 := len_tws hok
  have h4 := vn 5 us.length (by omega)
  have h5 := tksB_len hok (by omega)
  simp only [w4, dtB, List.length_append]
  omega
theorem len_5 (A0 : Option Addr) (c0 : Nat) (ys : List Int) (hl : ys.length ≤ 500) : (w5 A0 c0 ys).2.2.length ≤ 1000 := by
  have h1 := vn 0 5 (by decide)
  simp only [w5, List.length_append]
  omega
theorem len_7 (name : ByteArray) (hl : name.size ≤ 200) : (w7 name).2.2.length ≤ 300 := by
  have h1 := vn 5 name.size (by omega)
  simp only [w7, List.length_append, bytesOf_length]
  omega
theorem len_3 (A0 : Option Addr) (c0 : Nat) (ns : List ByteArray) (hm : ns.length ≤ 10) (hl : ∀ x ∈ ns, x.size ≤ 200) : (w3 A0 c0 ns).2.2.length ≤ 3000 := by
  have h1 := vn 5 ns.length (by omega)
  have h2 := nsB_len ns hl ns.length
  rw [List.take_length] at h2
  simp only [w3, List.length_append]
  omega
theorem encs1_append (a b : List (Nat × List Int)) : encs1 (a ++ b) = encs1 a ++ encs1 b := by
  induction a with
  | nil => rfl
  | cons x t ih => rw [List.cons_append]; show enc1 x.1 x.2 ++ encs1 (t ++ b) = (enc1 x.1 x.2 ++ encs1 t) ++ encs1 b; rw [ih, List.append_assoc]
theorem enc1_len (x : Nat × List Int) (h : FrOk x) : (enc1 x.1 x.2).length ≤ x.2.length + 4 := by
  have h1 := vnum_three x.2.length h.2.2
  simp only [enc1, List.length_cons, List.length_append]
  omega
/-- All words of the law. -/
def words (n : Nat) (A1 : Option Addr) (c1 : Nat) (bs : List (Int × List Int)) (A2 : Option Addr) (c2 : Nat) (us : List (Int × Int × List Int)) (sm : List Int) (A : Option Addr) (c : Nat) (l : List Int) (ns : List ByteArray) : List Wdt := [w14 n A1 c1 bs, w4 A2 c2 us sm, w5 A c l] ++ ns.map w7
theorem fr_all (ws : List Wdt) (h : ∀ x ∈ ws, 1 ≤ x.2.1 ∧ x.2.1 ≤ 31 ∧ x.2.2.length ≤ 8000) : ∀ j ∈ js ws, FrOk j := by
  intro j hj
  obtain ⟨x, hx, rfl⟩ := List.mem_map.1 hj
  have := h x hx
  exact ⟨this.1, this.2.1, by omega⟩
theorem encs_len (ws : List Wdt) (h : ∀ x ∈ ws, 1 ≤ x.2.1 ∧ x.2.1 ≤ 31 ∧ x.2.2.length ≤ 8000) : (encs1 (js ws)).length ≤ (ws.map fun x => x.2.2.length + 4).sum := by
  induction ws with
  | nil => exact Nat.le_refl _
  | cons x t ih =>
    have h1 := ih (fun y hy => h y (List.mem_cons_of_mem _ hy))
    have h2 := h x List.mem_cons_self
    have h3 := enc1_len x.2 ⟨h2.1, h2.2.1, by omega⟩
    show (enc1 x.2.1 x.2.2 ++ encs1 (js t)).length ≤ _
    rw [List.length_append, List.map_cons, List.sum_cons]
    omega
theorem sum_7 (ns : List ByteArray) (h : ∀ x ∈ ns, x.size ≤ 200) : ((ns.map w7).map fun x => x.2.2.length + 4).sum ≤ 304 * ns.length := by
  induction ns with
  | nil => exact Nat.le_refl _
  | cons x t ih =>
    have h1 := ih (fun y hy => h y (List.mem_cons_of_mem _ hy))
    have h2 := len_7 x (h x List.mem_cons_self)
    rw [List.map_cons, List.map_cons, List.sum_cons, List.length_cons]
    omega
/-- The words' bytes in all, and each word's frame. -/
theorem all_len (n : Nat) (A1 : Option Addr) (c1 : Nat) (bs : List (Int × List Int)) (A2 : Option Addr) (c2 : Nat) (us : List (Int × Int × List Int)) (sm : List Int) (A : Option Addr) (c : Nat) (l : List Int) (A3 : Option Addr) (c3 : Nat) (ns : List ByteArray)
    (hbs : ∀ b ∈ bs, Blk b) (hbl : bs.length = (n + 3) / 4) (hn : n ≤ 500) (hok : AllOk us) (hw : tws us ≤ 501) (hs : sm.length = 32) (hl : l.length ≤ 500) (hm : ns.length ≤ 10) (hns : ∀ x ∈ ns, x.size ≤ 200) :
    (∀ j ∈ js (words n A1 c1 bs A2 c2 us sm A c l ns ++ [w3 A3 c3 ns]), FrOk j) ∧ (encs1 (js (words n A1 c1 bs A2 c2 us sm A c l ns ++ [w3 A3 c3 ns]))).length ≤ 20000 := by
  have h14 := len_14 n A1 c1 bs hbs hbl hn
  have h4 := len_4 A2 c2 us sm hok hw hs
  have h5 := len_5 A c l hl
  have h3 := len_3 A3 c3 ns hm hns
  have key : ∀ x ∈ words n A1 c1 bs A2 c2 us sm A c l ns ++ [w3 A3 c3 ns], 1 ≤ x.2.1 ∧ x.2.1 ≤ 31 ∧ x.2.2.length ≤ 8000 := by
    intro x hx
    rcases List.mem_append.1 hx with hx | hx
    · rcases List.mem_append.1 hx with hx | hx
      · rcases List.mem_cons.1 hx with rfl | hx
        · exact ⟨(show 1 ≤ 14 by decide), (show 14 ≤ 31 by decide), by omega⟩
        · rcases List.mem_cons.1 hx with rfl | hx
          · exact ⟨(show 1 ≤ 4 by decide), (show 4 ≤ 31 by decide), by omega⟩
          · rw [List.mem_singleton.1 hx]
            exact ⟨(show 1 ≤ 5 by decide), (show 5 ≤ 31 by decide), by omega⟩
      · obtain ⟨y, hy, rfl⟩ := List.mem_map.1 hx
        have := len_7 y (hns y hy)
        exact ⟨(show 1 ≤ 7 by decide), (show 7 ≤ 31 by decide), by omega⟩
    · rw [List.mem_singleton.1 hx]
      exact ⟨(show 1 ≤ 3 by decide), (show 3 ≤ 31 by decide), by omega⟩
  refine ⟨fr_all _ key, Nat.le_trans (encs_len _ key) ?_⟩
  have h7 := sum_7 ns hns
  unfold words
  rw [List.map_append, List.map_append, List.sum_append, List.sum_append]
  simp only [List.map_cons, List.map_nil, List.sum_cons, List.sum_nil]
  omega
end Go.Proofs.YtgoephcembgmcaaDoor.Wd
namespace Go.Proofs.YtgoephcembgmcaaDoor.Er
open Go.RowKit Go.Extern.Stop Go.Stop Go.Extern Rg
/-! errors.As at the target *api.Errno, of a *api.Fault. Types: 24 Errno, 95 *Fault, 111 *Errno, 45 error, 197 rtype. -/
theorem vOf111 (t : Addr) (w : World) : (callFunc 72 #[.iface 111 (.pointer (some t))]).run Tryd.prog w = .ok (.value (.agg #[.pointer (some ⟨9, 111, none⟩), .pointer (some ⟨w.heap.size, 0, none⟩), .int .u64 150])) (w.alloc (.cells #[.pointer (some t)] 111)) := by kernel_rfl
theorem vOf24 (n : Int) (w : World) : (callFunc 72 #[.iface 24 (.int .i64 n)]).run Tryd.prog w = .ok (.value (.agg #[.pointer (some ⟨9, 24, none⟩), .pointer (some ⟨w.heap.size, 0, none⟩), .int .u64 130])) (w.alloc (.cells #[.int .i64 n] 24)) := by kernel_rfl
theorem ty111 (a : Addr) (w : World) : (callFunc 73 #[.agg #[.pointer (some ⟨9, 111, none⟩), .pointer (some a), .int .u64 150]]).run Tryd.prog w = .ok (.value (.iface 197 (.agg #[.pointer (some ⟨9, 111, none⟩)]))) w := by kernel_rfl
theorem methK (h : Value) (w : World) : (Go.method 389 197 (.agg #[h]) "Kind").run Tryd.prog w = .ok (163, h) w := by kernel_rfl
theorem methE (h : Value) (w : World) : (Go.method 389 197 (.agg #[h]) "Elem").run Tryd.prog w = .ok (179, .agg #[h]) w := by kernel_rfl
theorem methI (h : Value) (w : World) : (Go.method 389 197 (.agg #[h]) "Implements").run Tryd.prog w = .ok (180, .agg #[h]) w := by kernel_rfl
theorem methA (h : Value) (w : World) : (Go.method 389 197 (.agg #[h]) "AssignableTo").run Tryd.prog w = .ok (177, .agg #[h]) w := by kernel_rfl
theorem kind111 (w : World) : (callFunc 163 #[.pointer (some ⟨9, 111, none⟩)]).run Tryd.prog w = .ok (.value (.int .u8 22)) w := by kernel_rfl
theorem kind24 (w : World) : (callFunc 163 #[.pointer (some ⟨9, 24, none⟩)]).run Tryd.prog w = .ok (.value (.int .u8 2)) w := by kernel_rfl
theorem elem111 (w : World) : (callFunc 179 #[.agg #[.pointer (some ⟨9, 111, none⟩)]]).run Tryd.prog w = .ok (.value (.iface 197 (.agg #[.pointer (some ⟨9, 24, none⟩)]))) w := by kernel_rfl
theorem impl24 (w : World) : (callFunc 180 #[.agg #[.pointer (some ⟨9, 24, none⟩)], .iface 197 (.agg #[.pointer (some ⟨9, 45, none⟩)])]).run Tryd.prog w = .ok (.value (.bool true)) w := by kernel_rfl
theorem tyOf95 (v : Value) (w : World) : (callFunc 69 #[.iface 95 v]).run Tryd.prog w = .ok (.value (.iface 197 (.agg #[.pointer (some ⟨9, 95, none⟩)]))) w := by kernel_rfl
theorem asg95 (w : World) : (callFunc 177 #[.agg #[.pointer (some ⟨9, 95, none⟩)], .iface 197 (.agg #[.pointer (some ⟨9, 24, none⟩)])]).run Tryd.prog w = .ok (.value (.bool false)) w := by kernel_rfl
theorem asg24 (w : World) : (callFunc 177 #[.agg #[.pointer (some ⟨9, 24, none⟩)], .iface 197 (.agg #[.pointer (some ⟨9, 24, none⟩)])]).run Tryd.prog w = .ok (.value (.bool true)) w := by kernel_rfl
theorem noAs95 (v : Value) (xT : TypeId) (w : World) : (Instr.typeAssert (.iface 95 v) xT 208 true).run Tryd.prog w = .ok (.tuple #[.nilIface, .bool false]) w := run_typeAssert_lacksB Tryd.underlying208 (by kernel_rfl) (by kernel_rfl) v xT w
theorem parts111 (a : Addr) (w : World) : (ReflectliteValue.parts (.agg #[.pointer (some ⟨9, 111, none⟩), .pointer (some a), .int .u64 150])).run Tryd.prog w = .ok (some (111, a, 150)) w := by kernel_rfl
theorem parts24 (a : Addr) (w : World) : (ReflectliteValue.parts (.agg #[.pointer (some ⟨9, 24, none⟩), .pointer (some a), .int .u64 130])).run Tryd.prog w = .ok (some (24, a, 130)) w := by kernel_rfl
theorem parts24a (a : Addr) (w : World) : (ReflectliteValue.parts (.agg #[.pointer (some ⟨9, 24, none⟩), .pointer (some a), .int .u64 386])).run Tryd.prog w = .ok (some (24, a, 386)) w := by kernel_rfl
theorem rlm (z : Sem Value) (f : TypeId → Addr → Nat → Nat → Sem Value) (v : Value) :
    ReflectliteValue.method z f #[v] = (do match ← ReflectliteValue.parts v with | none => z | some (t, a, fl) => f t a fl (fl % 32)) := rfl
theorem isNil111 (a p : Addr) (W : World) (ha : W.cell? a = some (.pointer (some p))) :
    (callFunc 74 #[.agg #[.pointer (some ⟨9, 111, none⟩), .pointer (some a), .int .u64 150]]).run Tryd.prog W = .ok (.value (.bool false)) W := by
  have h := @run_callFunc_extern Tryd.prog 74 _ (ReflectliteValue.method (ReflectliteValue.valueError "reflectlite.Value.IsNil" 0) ReflectliteValue.isNil) Tryd.func74 (by kernel_rfl) (by kernel_rfl) (by kernel_rfl) (by kernel_rfl)
  rw [h, rlm]
  simp only [Sem.run_bind, parts111, Result.andThen]
  simp [ReflectliteValue.isNil, loadVar, isAgg, underlying, Tryd.underlying111, ha, Result.andThen]
theorem elemOf111 (w : World) : (Rtype.elem? 111).run Tryd.prog w = .ok (some 24) w := by kernel_rfl
theorem mk24 (p : Addr) (w : World) : (ReflectliteValue.mk 24 p ReflectliteValue.flagAddr).run Tryd.prog w = .ok (.agg #[.pointer (some ⟨9, 24, none⟩), .pointer (some p), .int .u64 386]) w := by kernel_rfl
theorem elemV111 (a p : Addr) (W : World) (ha : W.cell? a = some (.pointer (some p))) :
    (callFunc 94 #[.agg #[.pointer (some ⟨9, 111, none⟩), .pointer (some a), .int .u64 150]]).run Tryd.prog W = .ok (.value (.agg #[.pointer (some ⟨9, 24, none⟩), .pointer (some p), .int .u64 386])) W := by
  have h := @run_callFunc_extern Tryd.prog 94 _ (ReflectliteValue.method (ReflectliteValue.valueError "reflectlite.Value.Elem" 0) ReflectliteValue.elem) Tryd.func94 (by kernel_rfl) (by kernel_rfl) (by kernel_rfl) (by kernel_rfl)
  rw [h, rlm]
  simp only [Sem.run_bind, parts111, Result.andThen]
  simp [ReflectliteValue.elem, loadVar, isAgg, underlying, Tryd.underlying111, ha, Result.andThen, elemOf111, mk24]
theorem direct24 (w : World) : (Rtype.directlyAssignable 24 24).run Tryd.prog w = .ok true w := by kernel_rfl
theorem rls (v x : Value) : ReflectliteValue.set #[v, x] = (do
    let (some (dst, a, fl), some (src, b, _)) := (← ReflectliteValue.parts v, ← ReflectliteValue.parts x)
      | unsupported (.noEntry "extern/(internal/reflectlite.Value).Set.zeroValue")
    if fl / ReflectliteValue.flagAddr % 2 == 0 then unsupported (.noEntry "extern/(internal/reflectlite.Value).Set.unaddressable")
    let val ← loadVar src b
    if ← Rtype.directlyAssignable dst src then storeVar dst a val
    else if ← Rtype.implements dst src then
      if (← Rtype.kind src) == 20 then
        match val with
        | .nilIface => unsupported (.noEntry "extern/reflectlite: a nil value of one interface type handed on as a value of another")
        | _ => storeVar dst a val
      else storeVar dst a (.iface src val)
    else panicString ("reflectlite.Set: value of type " ++ (← Rtype.spelt src) ++ " is not assignable to type " ++ (← Rtype.spelt dst))
    pure (.tuple #[])) := rfl
theorem set24 (ta b : Addr) (n : Int) (old : Value) (W : World) (hb : W.cell? b = some (.int .i64 n)) (ht : W.cell? ta = some old) (hf : W.frozen? ta = false) :
    (callFunc 95 #[.agg #[.pointer (some ⟨9, 24, none⟩), .pointer (some ta), .int .u64 386], .agg #[.pointer (some ⟨9, 24, none⟩), .pointer (some b), .int .u64 130]]).run Tryd.prog W = .ok (.value (.tuple #[])) (W.setCell ta (.int .i64 n)) := by
  have h := @run_callFunc_extern Tryd.prog 95 _ ReflectliteValue.set Tryd.func95 (by kernel_rfl) (by kernel_rfl) (by kernel_rfl) (by kernel_rfl)
  rw [h, rls]
  simp only [Sem.run_bind, parts24a, parts24, Result.andThen]
  simp [ReflectliteValue.flagAddr, loadVar, isAgg, underlying, Tryd.underlying24, hb, Result.andThen, direct24, storeVar, Value.cells, storeCells, Addr.add]
  rw [run_store Tryd.prog W ta _ _ (by rfl)]
  simp [ht, hf]
end Go.Proofs.YtgoephcembgmcaaDoor.Er
namespace Go.Proofs.YtgoephcembgmcaaDoor.Er
open Go.RowKit Go.Extern.Stop Go.Stop Go.Extern Go.Proofs.YtgoephcembgmcaaDoorW.PrintWords Rg
set_option maxHeartbeats 4000000 in
set_option maxRecDepth 100000 in
theorem number_fault (f : Nat) (at_ n : Int) (w : World) (hf : w.heap[f]? = some (.cells #[.int .i64 at_, .int .i64 n] 98 (0, 0))) (hg : w.cell? ⟨0, 0, none⟩ = some (.iface 197 (.agg #[.pointer (some ⟨9, 45, none⟩)]))) :
    Calls Tryd.prog 10 #[.iface 95 (.pointer (some ⟨f, 0, none⟩))] w fun e w' => e = .returned (.int .i64 n) ∧ Below w.heap.size w w' := by
  have h72 := vOf111
  have h72b := vOf24
  have h73 := ty111
  have mK := methK
  have mE := methE
  have mI := methI
  have mA := methA
  have mU := methU
  have k111 := kind111
  have k24 := kind24
  have e111 := elem111
  have i24 := impl24
  have t95 := tyOf95
  have t24 := call69
  have a95 := asg95
  have a24 := asg24
  have nA := noAs95
  have hU := hasUnwrap95
  have hu98 := Tryd.underlying98
  have hlt : 0 < w.heap.size := by
    rcases Nat.eq_zero_or_pos w.heap.size with h0 | h
    · simp [World.cell?, h0] at hg
    · exact h
  have hfl := blk_lt hf
  have c1 : (((w.alloc (.cells #[.int .i64 0] 24)).alloc (.cells #[.pointer (some ⟨w.heap.size, 0, none⟩)] 111)).alloc (.cells #[.pointer (some ⟨9, 111, none⟩), .pointer (some ⟨w.heap.size + 1, 0, none⟩), .int .u64 150] 160)).cell? ⟨w.heap.size + 1, 0, none⟩ = some (.pointer (some ⟨w.heap.size, 0, none⟩)) := by
    rw [World.cell?_alloc_lt _ _ ⟨w.heap.size + 1, 0, none⟩ (by simp)]
    exact cell_of_row _ _ 0 #[.pointer (some ⟨w.heap.size, 0, none⟩)] 111 (0, 0) (heap_alloc2_new w _ _)
  have n74 := isNil111 ⟨w.heap.size + 1, 0, none⟩ ⟨w.heap.size, 0, none⟩ (((w.alloc (.cells #[.int .i64 0] 24)).alloc (.cells #[.pointer (some ⟨w.heap.size, 0, none⟩)] 111)).alloc (.cells #[.pointer (some ⟨9, 111, none⟩), .pointer (some ⟨w.heap.size + 1, 0, none⟩), .int .u64 150] 160)) c1
  have hg2 : (((w.alloc (.cells #[.int .i64 0] 24)).alloc (.cells #[.pointer (some ⟨w.heap.size, 0, none⟩)] 111)).alloc (.cells #[.pointer (some ⟨9, 111, none⟩), .pointer (some ⟨w.heap.size + 1, 0, none⟩), .int .u64 150] 160)).cell? ⟨0, 0, none⟩ = some (.iface 197 (.agg #[.pointer (some ⟨9, 45, none⟩)])) := by
    rw [World.cell?_alloc_lt _ _ ⟨0, 0, none⟩ (by simp), World.cell?_alloc_lt _ _ ⟨0, 0, none⟩ (by simp), World.cell?_alloc_lt _ _ ⟨0, 0, none⟩ hlt]
    exact hg
  have c2 : ((((w.alloc (.cells #[.int .i64 0] 24)).alloc (.cells #[.pointer (some ⟨w.heap.size, 0, none⟩)] 111)).alloc (.cells #[.pointer (some ⟨9, 111, none⟩), .pointer (some ⟨w.heap.size + 1, 0, none⟩), .int .u64 150] 160)).alloc (.cells #[.pointer (some ⟨9, 111, none⟩), .pointer (some ⟨w.heap.size + 1, 0, none⟩), .int .u64 150] 160)).cell? ⟨w.heap.size + 1, 0, none⟩ = some (.pointer (some ⟨w.heap.size, 0, none⟩)) := by
    rw [World.cell?_alloc_lt _ _ ⟨w.heap.size + 1, 0, none⟩ (by simp)]
    exact c1
  have el := elemV111 ⟨w.heap.size + 1, 0, none⟩ ⟨w.heap.size, 0, none⟩ ((((w.alloc (.cells #[.int .i64 0] 24)).alloc (.cells #[.pointer (some ⟨w.heap.size, 0, none⟩)] 111)).alloc (.cells #[.pointer (some ⟨9, 111, none⟩), .pointer (some ⟨w.heap.size + 1, 0, none⟩), .int .u64 150] 160)).alloc (.cells #[.pointer (some ⟨9, 111, none⟩), .pointer (some ⟨w.heap.size + 1, 0, none⟩), .int .u64 150] 160)) c2
  have hF : ((((w.alloc (.cells #[.int .i64 0] 24)).alloc (.cells #[.pointer (some ⟨w.heap.size, 0, none⟩)] 111)).alloc (.cells #[.pointer (some ⟨9, 111, none⟩), .pointer (some ⟨w.heap.size + 1, 0, none⟩), .int .u64 150] 160)).alloc (.cells #[.pointer (some ⟨9, 111, none⟩), .pointer (some ⟨w.heap.size + 1, 0, none⟩), .int .u64 150] 160)).heap[f]? = some (.cells #[.int .i64 at_, .int .i64 n] 98 (0, 0)) := blk_alloc (blk_alloc (blk_alloc (blk_alloc hf _) _) _) _
  have hc0 := cell_of_row _ f 0 _ 98 (0, 0) hF
  have hc1 := cell_of_row _ f 1 _ 98 (0, 0) hF
  have v0 : (((((w.alloc (.cells #[.int .i64 0] 24)).alloc (.cells #[.pointer (some ⟨w.heap.size, 0, none⟩)] 111)).alloc (.cells #[.pointer (some ⟨9, 111, none⟩), .pointer (some ⟨w.heap.size + 1, 0, none⟩), .int .u64 150] 160)).alloc (.cells #[.pointer (some ⟨9, 111, none⟩), .pointer (some ⟨w.heap.size + 1, 0, none⟩), .int .u64 150] 160)).alloc (.cells #[.int .i64 n] 24)).heap[w.heap.size]? = some (.cells #[.int .i64 0] 24 (0, 0)) := blk_alloc (blk_alloc (blk_alloc (blk_alloc (blk_new w _) _) _) _) _
  have v4 : (((((w.alloc (.cells #[.int .i64 0] 24)).alloc (.cells #[.pointer (some ⟨w.heap.size, 0, none⟩)] 111)).alloc (.cells #[.pointer (some ⟨9, 111, none⟩), .pointer (some ⟨w.heap.size + 1, 0, none⟩), .int .u64 150] 160)).alloc (.cells #[.pointer (some ⟨9, 111, none⟩), .pointer (some ⟨w.heap.size + 1, 0, none⟩), .int .u64 150] 160)).alloc (.cells #[.int .i64 n] 24)).heap[w.heap.size + 1 + 1 + 1 + 1]? = some (.cells #[.int .i64 n] 24 (0, 0)) := by
    have h := blk_new ((((w.alloc (.cells #[.int .i64 0] 24)).alloc (.cells #[.pointer (some ⟨w.heap.size, 0, none⟩)] 111)).alloc (.cells #[.pointer (some ⟨9, 111, none⟩), .pointer (some ⟨w.heap.size + 1, 0, none⟩), .int .u64 150] 160)).alloc (.cells #[.pointer (some ⟨9, 111, none⟩), .pointer (some ⟨w.heap.size + 1, 0, none⟩), .int .u64 150] 160)) (.cells #[.int .i64 n] 24)
    simpa using h
  have st := set24 ⟨w.heap.size, 0, none⟩ ⟨w.heap.size + 1 + 1 + 1 + 1, 0, none⟩ n (.int .i64 0) (((((w.alloc (.cells #[.int .i64 0] 24)).alloc (.cells #[.pointer (some ⟨w.heap.size, 0, none⟩)] 111)).alloc (.cells #[.pointer (some ⟨9, 111, none⟩), .pointer (some ⟨w.heap.size + 1, 0, none⟩), .int .u64 150] 160)).alloc (.cells #[.pointer (some ⟨9, 111, none⟩), .pointer (some ⟨w.heap.size + 1, 0, none⟩), .int .u64 150] 160)).alloc (.cells #[.int .i64 n] 24)) (cell_of_row _ _ 0 _ 24 (0, 0) v4) (cell_of_row _ _ 0 _ 24 (0, 0) v0) (blk_frozen v0 0)
  clear v4 hF hf hfl c1 c2
  go_enter Tryd.func10, Tryd.ntmps10
  go_wp2
  refine wp_loop_rounds 2 ?_
  rw [rounds_succ]
  go_wp2
  rw [rounds_succ]
  go_wp2
  go_ret
  refine ⟨rfl, ?_⟩
  exact below_alloc (below_alloc (below_alloc (below_alloc (below_alloc (Below.refl _ _) _) _) _) _) _
end Go.Proofs.YtgoephcembgmcaaDoor.Er
