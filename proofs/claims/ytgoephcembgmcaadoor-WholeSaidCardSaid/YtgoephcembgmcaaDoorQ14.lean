import Derived.Test.YtgoephcembgmcaaDoorQ13
set_option linter.unusedSimpArgs false
set_option linter.unusedVariables false
namespace Go.Proofs.YtgoephcembgmcaaDoor.Wd
open Go.RowKit Go.Proofs.YtgoephcembgmcaaDoorW.PrintWords Go.Proofs.YtgoephcembgmcaaDoorW.PrintLast Wk FrM Fr Bl Tk Sh Er Rg
open WkM (w64 Bytes)
def T3_9 : Bool × List (List Nat × List Nat) := (true, [([], []), ([], []), ([1], [1]), ([], []), ([2, 3], [2, 3]), ([0, 4, 4], [0, 4]), ([5], [5]), ([6], [6]), ([6], [6]), ([], []), ([9, 7, 5, 0, 1, 2, 3, 4, 5, 6, 7, 9], [7, 9]), ([8, 10, 0, 1, 2, 3, 4, 5, 6, 7, 8, 9, 10], [8])])
def BT3_9 : List Nat := [0, 0, 2, 0, 14, 31, 63, 127, 127, 0, 767, 2047]
theorem tabT3_9 : rtab .any (opsOf Tryd.f3 9) = T3_9 := by kernel_rfl
theorem bitsT3_9 : waitsOk T3_9.2 BT3_9 = true := by kernel_rfl
def T3_33 : Bool × List (List Nat × List Nat) := (true, [([], []), ([0], [0]), ([1], [1]), ([2], [2]), ([2], [2]), ([4, 2], [2, 4]), ([3, 5, 2], [2, 3, 5]), ([2, 6], [2, 6]), ([7, 2], [7]), ([8], [8]), ([9, 8], [8, 9]), ([8], [8]), ([8], [8]), ([11, 12, 8], [8, 11, 12]), ([13, 8], [8, 13]), ([14, 8], [8, 14]), ([10, 15, 8], [8, 10, 15]), ([8, 16], [8, 16]), ([17, 8], [17]), ([18], [18]), ([19, 18], [18, 19]), ([18], [18]), ([18], [18]), ([21, 22, 18], [18, 21, 22]), ([23, 18], [18, 23]), ([24, 18], [18, 24]), ([20, 25, 18], [18, 20, 25]), ([18, 26], [18, 26]), ([27, 18], [27]), ([28], [28]), ([29, 28], [28, 29]), ([28], [28]), ([28], [28]), ([31, 32, 28], [28, 31, 32]), ([33, 28], [28, 33]), ([34, 28], [28, 34]), ([30, 35, 28], [28, 30, 35]), ([28, 36], [28, 36]), ([37, 28], [37]), ([38], [38]), ([39, 38], [38, 39]), ([40, 38], [38, 40]), ([38], [38]), ([38], [38]), ([42, 43, 38], [38, 42, 43]), ([44, 38], [38, 44]), ([45, 38], [38, 45]), ([46, 38], [38, 46]), ([41, 47, 38], [38, 41, 47]), ([38, 48], [38, 48]), ([49, 38], [49]), ([50], [50]), ([51, 50], [50, 51]), ([52, 50], [50, 52]), ([50], [50]), ([50], [50]), ([54, 55, 50], [50, 54, 55]), ([56, 50], [50, 56]), ([57, 50], [50, 57]), ([58, 50], [50, 58]), ([53, 59, 50], [50, 53, 59]), ([50, 60], [50, 60]), ([61, 50], [61]), ([62], [62]), ([63, 62], [62, 63]), ([64, 62], [62, 64]), ([65, 62], [62, 65]), ([62], [62]), ([62], [62]), ([67, 68, 62], [62, 67, 68]), ([69, 62], [62, 69]), ([70, 62], [62, 70]), ([71, 62], [62, 71]), ([72, 62], [62, 72]), ([66, 73, 62], [62, 66, 73]), ([62, 74], [62, 74]), ([75, 62], [75]), ([76], [76]), ([77, 76], [76, 77]), ([78, 76], [76, 78]), ([76], [76]), ([76], [76]), ([80, 81, 76], [76, 80, 81]), ([82, 76], [76, 82]), ([83, 76], [76, 83]), ([84, 76], [76, 84]), ([79, 85, 76], [76, 79, 85]), ([76, 86], [76, 86])])
def BT3_33 : List Nat := [0, 1, 3, 7, 7, 23, 63, 127, 255, 511, 1023, 511, 511, 6655, 14847, 31231, 65535, 131071, 262143, 524287, 1048575, 524287, 524287, 6815743, 15204351, 31981567, 67108863, 134217727, 268435455, 536870911, 1073741823, 536870911, 536870911, 6979321855, 15569256447, 32749125631, 68719476735, 137438953471, 274877906943, 549755813887, 1099511627775, 2199023255551, 549755813887, 549755813887, 13743895347199, 31336081391615, 66520453480447, 136889197658111, 281474976710655, 562949953421311, 1125899906842623, 2251799813685247, 4503599627370495, 9007199254740991, 2251799813685247, 2251799813685247, 56294995342131199, 128352589380059135, 272467777455915007, 560698153607626751, 1152921504606846975, 2305843009213693951, 4611686018427387903, 9223372036854775807, 18446744073709551615, 36893488147419103231, 73786976294838206463, 9223372036854775807, 9223372036854775807, 451945229805884014591, 1042241040164589666303, 2222832660882000969727, 4584015902316823576575, 9306382385186468790271, 18889465931478580854783, 37778931862957161709567, 75557863725914323419135, 151115727451828646838271, 302231454903657293676543, 604462909807314587353087, 151115727451828646838271, 151115727451828646838271, 3777893186295716170956799, 8613596464754232869781503, 18285003021671266267430911, 37627816135505333062729727, 77371252455336267181195263, 154742504910672534362390527]
theorem tabT3_33 : rtab .any (opsOf Tryd.f3 33) = T3_33 := by kernel_rfl
theorem bitsT3_33 : waitsOk T3_33.2 BT3_33 = true := by kernel_rfl

set_option maxHeartbeats 8000000 in
set_option maxRecDepth 100000 in
theorem law_any (A : Option Addr) (c : Nat) (l : List Int) (A0 : Option Addr) (c0 : Nat) (ns : List ByteArray) (piece : Int) (w : World) (hr : Kd.C (Kd.int .u8) w A l.length l) (hl : Bytes l) (hc : l.length ≤ c) (hn : Kd.C Kd.string w A0 ns.length ns)
    (hg : w.cell? ⟨0, 0, none⟩ = some (.iface 197 (.agg #[.pointer (some ⟨9, 45, none⟩)]))) :
    Calls Tryd.prog 3 #[.slice A l.length c, .slice A0 ns.length c0, .int .i64 piece] w fun e w' => e = .returned (.bool true) ∧ Below w.heap.size w w' := by
  have HR := hide hr
  have HL := hide hl
  have HC := hide hc
  have HN := hide hn
  have HG := hide hg
  obtain ⟨N, hN⟩ : ∃ N, N = l.length := ⟨_, rfl⟩
  obtain ⟨M, hM⟩ : ∃ M, M = ns.length := ⟨_, rfl⟩
  rw [← hN, ← hM]
  have HNL := hide hN
  have HML := hide hM
  clear hr hl hc hn hg hN hM
  go_enter Tryd.func3, Tryd.ntmps3
  simp only [List.append_eq, List.cons_append, List.nil_append]
  go_wp2_with (first | refine wpList_build_is rfl 38 _ rfl w11.1.toArray built38_11' ?_ | refine wpList_lit38 rfl (.tmp 27) rfl w11.1 w11_ok.1 rfl ?_)
  refine (wbytes_ok (some ⟨w.heap.size, 0, none⟩) 1 [w11] (w.alloc (.cells w11.1.toArray 38)) (wds1 w) (fun x hx => by rw [List.mem_singleton.1 hx]; exact said_11 _) (fun x hx => by rw [List.mem_singleton.1 hx]; exact ⟨by decide, by decide, by decide⟩) (by rw [js11]; decide) (by decide)).mono ?_
  rw [js11]
  rintro e w1 ⟨A1, c1, rfl, hO1, hB1⟩
  have B1 := hide (below_step (below_alloc (Below.refl _ _) _) hB1)
  have kc : (convert 22 9 (.slice A1 2 c1)).run Tryd.prog w1 = .ok (.string { data := #[88, 0] }) w1 := Kd.C_string Tryd.underlying22 Tryd.underlying5 Tryd.underlying9 (Kd.R_reads' hO1).2.2
  clear hO1 hB1
  by_cases q1 : 500 < (N : Int)
  · go_wp2
    go_ret
    exact ⟨rfl, unhide B1⟩
  by_cases q2 : 10 < (M : Int)
  · go_wp2
    go_ret
    exact ⟨rfl, unhide B1⟩
  by_cases q3 : piece < 1
  · go_wp2
    go_ret
    exact ⟨rfl, unhide B1⟩
  by_cases q4 : 5000 < piece
  · go_wp2
    go_ret
    exact ⟨rfl, unhide B1⟩
  go_wp2_with fail
  clear kc
  rename ((((N : Int) ≤ 500 ∧ (M : Int) ≤ 10) ∧ 1 ≤ piece) ∧ piece ≤ 5000) => hx_
  clear hx_
  obtain ⟨p, rfl⟩ := Int.eq_ofNat_of_zero_le (show 0 ≤ piece by omega)
  have HP : Hid (1 ≤ p ∧ p ≤ 5000) := by show _ ∧ _; omega
  have HN5 : Hid (N ≤ 500) := by show _ ≤ _; omega
  have HM1 : Hid (M ≤ 10) := by show _ ≤ _; omega
  clear q1 q2 q3 q4
  refine (make_ok_m A c N l w1 (unhide HNL) (Kd.C_below (unhide HR) (unhide B1)) (unhide HL) (unhide HC) (unhide HN5)).mono ?_
  rintro e w2 ⟨A2, c2, m, bs, rfl, hC2, hbs, hbl, hm, hB2⟩
  have SG3 : Hid (Sg (w2.alloc (.cells #[.int .i64 4, .int .i64 8, .int .i64 (N : Int), .slice A2 m c2] 33)) w2.heap.size N (.slice A2 m c2)) := sg_of
  have B3 : Hid (Below w.heap.size w (w2.alloc (.cells #[.int .i64 4, .int .i64 8, .int .i64 (N : Int), .slice A2 m c2] 33))) := below_alloc (below_step (unhide B1) hB2) _
  have BK3 : Hid (BkC (w2.alloc (.cells #[.int .i64 4, .int .i64 8, .int .i64 (N : Int), .slice A2 m c2] 33)) A2 bs) := hC2.alloc _
  have HBS := hide hbs
  have HBL := hide hbl
  have HMM := hide hm
  clear hC2 hbs hbl hm hB2 B1
  go_wp2
  obtain ⟨g3, hg3⟩ : ∃ z, z = w2.heap.size := ⟨_, rfl⟩
  rw [← hg3] at SG3 ⊢
  generalize w2.alloc (.cells #[.int .i64 4, .int .i64 8, .int .i64 (N : Int), .slice A2 m c2] 33) = w3 at SG3 B3 BK3 ⊢
  clear hg3
  have SD : Hid (Sg w3.drew g3 N (.slice A2 m c2)) := unhide SG3
  have BD := hide (below_drew (unhide B3))
  have BKB : Hid (BkC w3.drew A2 bs) := unhide BK3
  clear SG3 B3 BK3
  refine start_ (n := 12) (S := fun w' => Below w3.drew.heap.size w3.drew w') (ds := [10]) (bt 12 0) (by kernel_rfl) rfl (by kernel_rfl) (Below.refl _ _) (fun hHeld => ?_)
  refine with_tabW tabT3_9 bitsT3_9 (fun HT_ HW_ => ?_)
  have HRB := hide (Kd.C_below (unhide HR) (unhide BD))
  generalize w3.drew = wb at SD BD BKB HRB hHeld ⊢
  have NB0 : Hid (Below wb.heap.size wb wb) := Below.refl _ _
  clear hHeld
  have hHeld : Below wb.heap.size wb wb := Below.refl _ _
  refine take_ (i := 0) (N := some 63) (v := ?_) (a' := ?_) (bt 12 1) rfl rfl (take_ofW HT_.out HW_.out (by kernel_rfl)) (fun _ _ _ h => h) (Or.inl ⟨by rfl, ?_⟩) hHeld ?_ ?_
  rotate_left
  · rintro w' h1_
    obtain ⟨_, _, _, _⟩ := box4f (blk_below (unhide SD) h1_)
    go_simp
    with_reducible rfl
  rotate_left
  · simp only [putAll, Act.put, List.setIfInBounds_toArray, List.set_cons_zero, List.set_cons_succ, i64_w, i32_w]
    rfl
  refine pure_ (i := 3) (N := some 66) (v := ?_) (a' := ?_) (bt 12 9) rfl rfl (any_of HT_.out (by kernel_rfl)) (fun _ _ _ h => h) (Or.inl ⟨by rfl, ?_⟩) ?_ ?_
  rotate_left
  · intro w'
    go_simp
    with_reducible rfl
  rotate_left
  · simp only [putAll, Act.put, List.setIfInBounds_toArray, List.set_cons_zero, List.set_cons_succ, i64_w, i32_w]
    rfl
  refine join_ (σ := Option Addr × Nat × Nat × List (Int × Int × List Int) × List Int × Nat × Addr × Nat × Nat) 2 (bt 12 1023) (fun s => [(64, .slice (some ⟨s.2.2.2.2.2.1, 0, none⟩) 1 1), (65, .slice (some ⟨s.2.2.2.2.2.1, 0, none⟩) 1 1), (67, .slice (some s.2.2.2.2.2.2.1) (N + 1) s.2.2.2.2.2.2.2.1), (68, .tuple #[.agg (tcl (.slice s.1 s.2.2.1 s.2.1) 32 s.2.2.2.2.1).toArray, .int .i64 0]), (62, .tuple #[.agg (tcl (.slice s.1 s.2.2.1 s.2.1) 32 s.2.2.2.2.1).toArray, .int .i64 0]), (69, .agg (tcl (.slice s.1 s.2.2.1 s.2.1) 32 s.2.2.2.2.1).toArray), (70, .int .i64 0), (10, .pointer (some ⟨s.2.2.2.2.2.2.2.2, 0, none⟩))]) (fun s w' => Told wb w' s.1 s.2.1 s.2.2.1 s.2.2.2.1 s.2.2.2.2.1 s.2.2.2.2.2.2.2.2) ?_ (fun hcont => ?_)
  rotate_left
  · refine two_ (i := 1) (j := 9) (Ni := some 64) (Nj := some 10) (bt 12 11) (bt 12 521) rfl rfl rfl rfl (two_of HT_.out (by kernel_rfl)) (by decide) (by decide) (fun K hK => ?_) (fun K hK => ?_)
    · refine value_ (v := .slice (some ⟨wb.heap.size, 0, none⟩) 1 1) (w1 := wb.alloc (.cells (bys [120]) 5)) (wanted_none rfl) rfl ?hrun ?_
      case hrun =>
        first | (go_simp; done) | (go_simp; rfl)
      have r_ : Hid ((wb.alloc (.cells (bys [120]) 5)).heap[wb.heap.size]? = some (.cells (bys [120]) 5 (0, 0))) := blk_new _ _
      have b_ : Hid (Below wb.heap.size wb (wb.alloc (.cells (bys [120]) 5))) := below_alloc (unhide NB0) _
      obtain ⟨gx, hgx⟩ : ∃ z, z = wb.heap.size := ⟨_, rfl⟩
      have GX : Hid (wb.heap.size ≤ gx) := by show _ ≤ _; rw [hgx]; exact (unhide NB0).size
      rw [← hgx] at r_ ⊢
      generalize wb.alloc (.cells (bys [120]) 5) = wv1 at r_ b_ ⊢
      have R1 := r_
      have NB1 := b_
      clear hgx r_ b_
      clear hHeld
      refine hK.out _ _ (unhide NB1) (fun hHeld => ?_)
      clear hK K
      refine norm_ (a' := ?_) ?_ ?_
      rotate_left
      · show Act.put _ (some 64) _ = _
        simp only [putAll, Act.put, List.setIfInBounds_toArray, List.set_cons_zero, List.set_cons_succ, i64_w, i32_w]
        rfl
      refine two_ (i := 2) (j := 9) (Ni := some 65) (Nj := some 10) (bt 12 15) (bt 12 523) rfl rfl rfl rfl (two_of HT_.out (by kernel_rfl)) (by decide) (by decide) (fun K hK => ?_) (fun K hK => ?_)
      · obtain ⟨wv2, hcv, r_, b_, n_⟩ := conv_at wv1 gx (bys [120]) 1 1 (unhide R1)
        refine value_ (v := .slice (some ⟨gx, 0, none⟩) 1 1) (w1 := wv2) (wanted_none rfl) rfl ?hrun ?_
        case hrun =>
          exact exec_conv22 rfl rfl hcv
        have R2 := hide r_
        have NB2 : Hid (Below wb.heap.size wb wv2) := (unhide NB1).trans (b_ _ (unhide GX))
        clear hcv r_ b_ n_
        clear hHeld
        refine hK.out _ _ (unhide NB2) (fun hHeld => ?_)
        clear hK K
        refine norm_ (a' := ?_) ?_ ?_
        rotate_left
        · show Act.put _ (some 65) _ = _
          simp only [putAll, Act.put, List.setIfInBounds_toArray, List.set_cons_zero, List.set_cons_succ, i64_w, i32_w]
          rfl
        refine two_ (i := 4) (j := 9) (Ni := some 67) (Nj := some 10) (bt 12 31) (bt 12 527) rfl rfl rfl rfl (two_of HT_.out (by kernel_rfl)) (by decide) (by decide) (fun K hK => ?_) (fun K hK => ?_)
        · obtain ⟨ad1, c4, wv3, hrun4, hC4, hc4, hb4⟩ := app_run wv2 ⟨gx, 0, none⟩ [120] A c l (row_C (unhide R2) (by decide)) (Kd.C_below (unhide HRB) (unhide NB2)) (by decide) (by rw [← unhide HNL]; have := unhide HN5; omega)
          have NB3 : Hid (Below wb.heap.size wb wv3) := below_step (unhide NB2) hb4
          obtain ⟨L, hL⟩ : ∃ z, z = [120] ++ l := ⟨_, rfl⟩
          have hLb : Bytes L := by rw [hL]; exact WkM.Bytes.append (by intro x hx; rw [List.mem_singleton.1 hx]; omega) (unhide HL)
          have hLl : L.length = N + 1 := by rw [hL, List.length_append, List.length_singleton, ← unhide HNL]; omega
          rw [← hL] at hrun4 hC4 hc4
          rw [hLl, ← unhide HNL] at hrun4
          have C4 := hide hC4
          have CC4 := hide hc4
          have HLB := hide hLb
          have HLL := hide hLl
          clear hC4 hc4 hLb hLl hL hb4
          refine value_ (v := .slice (some ad1) (N + 1) c4) (w1 := wv3) (wanted_none rfl) rfl ?hrun ?_
          case hrun =>
            exact exec_append rfl rfl rfl rfl hrun4
          clear hrun4
          clear hHeld
          refine hK.out _ _ (unhide NB3) (fun hHeld => ?_)
          clear hK K
          refine norm_ (a' := ?_) ?_ ?_
          rotate_left
          · show Act.put _ (some 67) _ = _
            simp only [putAll, Act.put, List.setIfInBounds_toArray, List.set_cons_zero, List.set_cons_succ, i64_w, i32_w]
            rfl
          refine two_ (i := 5) (j := 9) (Ni := some 68) (Nj := some 10) (bt 12 63) (bt 12 543) rfl rfl rfl rfl (two_of HT_.out (by kernel_rfl)) (by decide) (by decide) (fun K hK => ?_) (fun K hK => ?_)
          · refine goes_ Tryd.func7 (by kernel_rfl) rfl #[sgV N (.slice A2 m c2), .slice (some ad1) (N + 1) c4, .int .i64 32] (by rfl) rfl rfl (by (try simp only [List.map_toArray, List.map_cons, List.map_nil]); first | done | rfl) ?_
            refine (tell_ok_m A2 c2 N m (N + 1) bs ad1 c4 L wv3 (unhide HBL) (unhide HLL) ((unhide BKB).below (unhide NB3)) (unhide HBS) (unhide HMM) (unhide HN5) (unhide C4) (unhide HLB) (unhide CC4) (by have := unhide HN5; omega)).mono ?_
            rintro e wv4 ⟨A5, c5, K5, us, sm, rfl, hK5, hsm, hT5, hok5, htw5, hb5⟩
            refine ⟨_, rfl, ?_⟩
            have NB4 : Hid (Below wb.heap.size wb wv4) := below_step (unhide NB3) hb5
            have T5 := hide (Kd.S_lower hT5 (unhide NB3).size)
            have OK5 := hide hok5
            have TW5 := hide htw5
            have HK5 := hide hK5
            have HSM := hide hsm
            clear hT5 hok5 htw5 hK5 hsm hb5
            clear hHeld
            refine hK.out _ _ (unhide NB4) (fun hHeld => ?_)
            clear hK K
            refine norm_ (a' := ?_) ?_ ?_
            rotate_left
            · show Act.put _ (some 68) _ = _
              simp only [putAll, Act.put, List.setIfInBounds_toArray, List.set_cons_zero, List.set_cons_succ, i64_w, i32_w]
              rfl
            refine pure_ (i := 6) (N := some 62) (v := ?_) (a' := ?_) (bt 12 127) rfl rfl (any_of HT_.out (by kernel_rfl)) (fun _ _ _ h => h) (Or.inl ⟨by rfl, ?_⟩) ?_ ?_
            rotate_left
            · intro w'
              go_simp
              with_reducible rfl
            rotate_left
            · simp only [putAll, Act.put, List.setIfInBounds_toArray, List.set_cons_zero, List.set_cons_succ, i64_w, i32_w]
              rfl
            refine pure_ (i := 7) (N := some 69) (v := ?_) (a' := ?_) (bt 12 255) rfl rfl (any_of HT_.out (by kernel_rfl)) (fun _ _ _ h => h) (Or.inl ⟨by rfl, ?_⟩) ?_ ?_
            rotate_left
            · intro w'
              go_simp
              with_reducible rfl
            rotate_left
            · simp only [putAll, Act.put, List.setIfInBounds_toArray, List.set_cons_zero, List.set_cons_succ, i64_w, i32_w]
              rfl
            refine pure_ (i := 8) (N := some 70) (v := ?_) (a' := ?_) (bt 12 511) rfl rfl (any_of HT_.out (by kernel_rfl)) (fun _ _ _ h => h) (Or.inl ⟨by rfl, ?_⟩) ?_ ?_
            rotate_left
            · intro w'
              go_simp
              with_reducible rfl
            rotate_left
            · simp only [putAll, Act.put, List.setIfInBounds_toArray, List.set_cons_zero, List.set_cons_succ, i64_w, i32_w]
              rfl
            refine one_ (i := 9) (N := some 10) (bt 12 1023) rfl rfl (one_of HT_.out (by kernel_rfl)) (by decide) (fun K hK => ?_)
            refine value_ (v := .pointer (some ⟨wv4.heap.size, 0, none⟩)) (w1 := wv4.alloc (.cells (tcl (.slice none 0 0) 0 (List.replicate 32 0)).toArray 36)) (wanted_none rfl) rfl ?hrun ?_
            case hrun =>
              first | (go_simp; done) | (go_simp; rfl)
            have g_ : Hid ((wv4.alloc (.cells (tcl (.slice none 0 0) 0 (List.replicate 32 0)).toArray 36)).heap[wv4.heap.size]? = some (.cells (tcl (.slice none 0 0) 0 (List.replicate 32 0)).toArray 36 (0, 0))) := blk_new _ _
            have b_ : Hid (Below wb.heap.size wb (wv4.alloc (.cells (tcl (.slice none 0 0) 0 (List.replicate 32 0)).toArray 36))) := below_alloc (unhide NB4) _
            have t_ := hide (Kd.S_below (unhide T5) (below_alloc (Below.refl wv4.heap.size wv4) (.cells (tcl (.slice none 0 0) 0 (List.replicate 32 0)).toArray 36)))
            obtain ⟨gt, hgt⟩ : ∃ z, z = wv4.heap.size := ⟨_, rfl⟩
            have GT : Hid (wb.heap.size ≤ gt) := by show _ ≤ _; rw [hgt]; exact (unhide NB4).size
            rw [← hgt] at g_ ⊢
            generalize wv4.alloc (.cells (tcl (.slice none 0 0) 0 (List.replicate 32 0)).toArray 36) = wv5 at g_ b_ t_ ⊢
            have G9 := g_
            have NB5 := b_
            have T5 := t_
            clear hgt
            clear hHeld
            refine hK.out _ _ (unhide NB5) (fun hHeld => ?_)
            clear hK K
            refine norm_ (a' := ?_) ?_ ?_
            rotate_left
            · show Act.put _ (some 10) _ = _
              simp only [putAll, Act.put, List.setIfInBounds_toArray, List.set_cons_zero, List.set_cons_succ, i64_w, i32_w]
              rfl
            refine norm_ ?_ (hcont ⟨A5, c5, K5, us, sm, gx, ad1, c4, gt⟩ _ ⟨unhide NB5, unhide T5, unhide OK5, unhide TW5, unhide HK5, unhide HSM, unhide G9, unhide GT⟩)
            simp only [putAll, Act.put, List.setIfInBounds_toArray, List.set_cons_zero, List.set_cons_succ, i64_w, i32_w]
            all_goals rfl
          · refine value_ (v := .pointer (some ⟨wv3.heap.size, 0, none⟩)) (w1 := wv3.alloc (.cells (tcl (.slice none 0 0) 0 (List.replicate 32 0)).toArray 36)) (wanted_none rfl) rfl ?hrun ?_
            case hrun =>
              first | (go_simp; done) | (go_simp; rfl)
            have g_ : Hid ((wv3.alloc (.cells (tcl (.slice none 0 0) 0 (List.replicate 32 0)).toArray 36)).heap[wv3.heap.size]? = some (.cells (tcl (.slice none 0 0) 0 (List.replicate 32 0)).toArray 36 (0, 0))) := blk_new _ _
            have b_ : Hid (Below wb.heap.size wb (wv3.alloc (.cells (tcl (.slice none 0 0) 0 (List.replicate 32 0)).toArray 36))) := below_alloc (unhide NB3) _
            have c_ := hide (Kd.C_alloc (unhide C4) (.cells (tcl (.slice none 0 0) 0 (List.replicate 32 0)).toArray 36))
            obtain ⟨gt, hgt⟩ : ∃ z, z = wv3.heap.size := ⟨_, rfl⟩
            have GT : Hid (wb.heap.size ≤ gt) := by show _ ≤ _; rw [hgt]; exact (unhide NB3).size
            rw [← hgt] at g_ ⊢
            generalize wv3.alloc (.cells (tcl (.slice none 0 0) 0 (List.replicate 32 0)).toArray 36) = wv4 at g_ b_ c_ ⊢
            have G9 := g_
            have NB4 := b_
            have C4 := c_
            clear hgt
            clear hHeld
            refine hK.out _ _ (unhide NB4) (fun hHeld => ?_)
            clear hK K
            refine norm_ (a' := ?_) ?_ ?_
            rotate_left
            · show Act.put _ (some 10) _ = _
              simp only [putAll, Act.put, List.setIfInBounds_toArray, List.set_cons_zero, List.set_cons_succ, i64_w, i32_w]
              rfl
            refine one_ (i := 5) (N := some 68) (bt 12 575) rfl rfl (one_of HT_.out (by kernel_rfl)) (by decide) (fun K hK => ?_)
            refine goes_ Tryd.func7 (by kernel_rfl) rfl #[sgV N (.slice A2 m c2), .slice (some ad1) (N + 1) c4, .int .i64 32] (by rfl) rfl rfl (by (try simp only [List.map_toArray, List.map_cons, List.map_nil]); first | done | rfl) ?_
            refine (tell_ok_m A2 c2 N m (N + 1) bs ad1 c4 L wv4 (unhide HBL) (unhide HLL) ((unhide BKB).below (unhide NB4)) (unhide HBS) (unhide HMM) (unhide HN5) (unhide C4) (unhide HLB) (unhide CC4) (by have := unhide HN5; omega)).mono ?_
            rintro e wv5 ⟨A5, c5, K5, us, sm, rfl, hK5, hsm, hT5, hok5, htw5, hb5⟩
            refine ⟨_, rfl, ?_⟩
            have NB5 : Hid (Below wb.heap.size wb wv5) := below_step (unhide NB4) hb5
            have G9 := hide (blk_below (unhide G9) hb5)
            have T5 := hide (Kd.S_lower hT5 (unhide NB4).size)
            have OK5 := hide hok5
            have TW5 := hide htw5
            have HK5 := hide hK5
            have HSM := hide hsm
            clear hT5 hok5 htw5 hK5 hsm hb5
            clear hHeld
            refine hK.out _ _ (unhide NB5) (fun hHeld => ?_)
            clear hK K
            refine norm_ (a' := ?_) ?_ ?_
            rotate_left
            · show Act.put _ (some 68) _ = _
              simp only [putAll, Act.put, List.setIfInBounds_toArray, List.set_cons_zero, List.set_cons_succ, i64_w, i32_w]
              rfl
            refine pure_ (i := 6) (N := some 62) (v := ?_) (a' := ?_) (bt 12 639) rfl rfl (any_of HT_.out (by kernel_rfl)) (fun _ _ _ h => h) (Or.inl ⟨by rfl, ?_⟩) ?_ ?_
            rotate_left
            · intro w'
              go_simp
              with_reducible rfl
            rotate_left
            · simp only [putAll, Act.put, List.setIfInBounds_toArray, List.set_cons_zero, List.set_cons_succ, i64_w, i32_w]
              rfl
            refine pure_ (i := 7) (N := some 69) (v := ?_) (a' := ?_) (bt 12 767) rfl rfl (any_of HT_.out (by kernel_rfl)) (fun _ _ _ h => h) (Or.inl ⟨by rfl, ?_⟩) ?_ ?_
            rotate_left
            · intro w'
              go_simp
              with_reducible rfl
            rotate_left
            · simp only [putAll, Act.put, List.setIfInBounds_toArray, List.set_cons_zero, List.set_cons_succ, i64_w, i32_w]
              rfl
            refine pure_ (i := 8) (N := some 70) (v := ?_) (a' := ?_) (bt 12 1023) rfl rfl (any_of HT_.out (by kernel_rfl)) (fun _ _ _ h => h) (Or.inl ⟨by rfl, ?_⟩) ?_ ?_
            rotate_left
            · intro w'
              go_simp
              with_reducible rfl
            rotate_left
            · simp only [putAll, Act.put, List.setIfInBounds_toArray, List.set_cons_zero, List.set_cons_succ, i64_w, i32_w]
              rfl
            refine norm_ ?_ (hcont ⟨A5, c5, K5, us, sm, gx, ad1, c4, gt⟩ _ ⟨unhide NB5, unhide T5, unhide OK5, unhide TW5, unhide HK5, unhide HSM, unhide G9, unhide GT⟩)
            simp only [putAll, Act.put, List.setIfInBounds_toArray, List.set_cons_zero, List.set_cons_succ, i64_w, i32_w]
            all_goals rfl
        · refine value_ (v := .pointer (some ⟨wv2.heap.size, 0, none⟩)) (w1 := wv2.alloc (.cells (tcl (.slice none 0 0) 0 (List.replicate 32 0)).toArray 36)) (wanted_none rfl) rfl ?hrun ?_
          case hrun =>
            first | (go_simp; done) | (go_simp; rfl)
          have g_ : Hid ((wv2.alloc (.cells (tcl (.slice none 0 0) 0 (List.replicate 32 0)).toArray 36)).heap[wv2.heap.size]? = some (.cells (tcl (.slice none 0 0) 0 (List.replicate 32 0)).toArray 36 (0, 0))) := blk_new _ _
          have b_ : Hid (Below wb.heap.size wb (wv2.alloc (.cells (tcl (.slice none 0 0) 0 (List.replicate 32 0)).toArray 36))) := below_alloc (unhide NB2) _
          have r_ : Hid ((wv2.alloc (.cells (tcl (.slice none 0 0) 0 (List.replicate 32 0)).toArray 36)).heap[gx]? = _) := blk_alloc (unhide R2) _
          obtain ⟨gt, hgt⟩ : ∃ z, z = wv2.heap.size := ⟨_, rfl⟩
          have GT : Hid (wb.heap.size ≤ gt) := by show _ ≤ _; rw [hgt]; exact (unhide NB2).size
          rw [← hgt] at g_ ⊢
          generalize wv2.alloc (.cells (tcl (.slice none 0 0) 0 (List.replicate 32 0)).toArray 36) = wv3 at g_ b_ r_ ⊢
          have G9 := g_
          have NB3 := b_
          have R3 := r_
          clear hgt
          clear hHeld
          refine hK.out _ _ (unhide NB3) (fun hHeld => ?_)
          clear hK K
          refine norm_ (a' := ?_) ?_ ?_
          rotate_left
          · show Act.put _ (some 10) _ = _
            simp only [putAll, Act.put, List.setIfInBounds_toArray, List.set_cons_zero, List.set_cons_succ, i64_w, i32_w]
            rfl
          refine one_ (i := 4) (N := some 67) (bt 12 543) rfl rfl (one_of HT_.out (by kernel_rfl)) (by decide) (fun K hK => ?_)
          obtain ⟨ad1, c4, wv4, hrun4, hC4, hc4, hb4⟩ := app_run wv3 ⟨gx, 0, none⟩ [120] A c l (row_C (unhide R3) (by decide)) (Kd.C_below (unhide HRB) (unhide NB3)) (by decide) (by rw [← unhide HNL]; have := unhide HN5; omega)
          have NB4 : Hid (Below wb.heap.size wb wv4) := below_step (unhide NB3) hb4
          have G9 := hide (blk_below (unhide G9) hb4)
          obtain ⟨L, hL⟩ : ∃ z, z = [120] ++ l := ⟨_, rfl⟩
          have hLb : Bytes L := by rw [hL]; exact WkM.Bytes.append (by intro x hx; rw [List.mem_singleton.1 hx]; omega) (unhide HL)
          have hLl : L.length = N + 1 := by rw [hL, List.length_append, List.length_singleton, ← unhide HNL]; omega
          rw [← hL] at hrun4 hC4 hc4
          rw [hLl, ← unhide HNL] at hrun4
          have C4 := hide hC4
          have CC4 := hide hc4
          have HLB := hide hLb
          have HLL := hide hLl
          clear hC4 hc4 hLb hLl hL hb4
          refine value_ (v := .slice (some ad1) (N + 1) c4) (w1 := wv4) (wanted_none rfl) rfl ?hrun ?_
          case hrun =>
            exact exec_append rfl rfl rfl rfl hrun4
          clear hrun4
          clear hHeld
          refine hK.out _ _ (unhide NB4) (fun hHeld => ?_)
          clear hK K
          refine norm_ (a' := ?_) ?_ ?_
          rotate_left
          · show Act.put _ (some 67) _ = _
            simp only [putAll, Act.put, List.setIfInBounds_toArray, List.set_cons_zero, List.set_cons_succ, i64_w, i32_w]
            rfl
          refine one_ (i := 5) (N := some 68) (bt 12 575) rfl rfl (one_of HT_.out (by kernel_rfl)) (by decide) (fun K hK => ?_)
          refine goes_ Tryd.func7 (by kernel_rfl) rfl #[sgV N (.slice A2 m c2), .slice (some ad1) (N + 1) c4, .int .i64 32] (by rfl) rfl rfl (by (try simp only [List.map_toArray, List.map_cons, List.map_nil]); first | done | rfl) ?_
          refine (tell_ok_m A2 c2 N m (N + 1) bs ad1 c4 L wv4 (unhide HBL) (unhide HLL) ((unhide BKB).below (unhide NB4)) (unhide HBS) (unhide HMM) (unhide HN5) (unhide C4) (unhide HLB) (unhide CC4) (by have := unhide HN5; omega)).mono ?_
          rintro e wv5 ⟨A5, c5, K5, us, sm, rfl, hK5, hsm, hT5, hok5, htw5, hb5⟩
          refine ⟨_, rfl, ?_⟩
          have NB5 : Hid (Below wb.heap.size wb wv5) := below_step (unhide NB4) hb5
          have G9 := hide (blk_below (unhide G9) hb5)
          have T5 := hide (Kd.S_lower hT5 (unhide NB4).size)
          have OK5 := hide hok5
          have TW5 := hide htw5
          have HK5 := hide hK5
          have HSM := hide hsm
          clear hT5 hok5 htw5 hK5 hsm hb5
          clear hHeld
          refine hK.out _ _ (unhide NB5) (fun hHeld => ?_)
          clear hK K
          refine norm_ (a' := ?_) ?_ ?_
          rotate_left
          · show Act.put _ (some 68) _ = _
            simp only [putAll, Act.put, List.setIfInBounds_toArray, List.set_cons_zero, List.set_cons_succ, i64_w, i32_w]
            rfl
          refine pure_ (i := 6) (N := some 62) (v := ?_) (a' := ?_) (bt 12 639) rfl rfl (any_of HT_.out (by kernel_rfl)) (fun _ _ _ h => h) (Or.inl ⟨by rfl, ?_⟩) ?_ ?_
          rotate_left
          · intro w'
            go_simp
            with_reducible rfl
          rotate_left
          · simp only [putAll, Act.put, List.setIfInBounds_toArray, List.set_cons_zero, List.set_cons_succ, i64_w, i32_w]
            rfl
          refine pure_ (i := 7) (N := some 69) (v := ?_) (a' := ?_) (bt 12 767) rfl rfl (any_of HT_.out (by kernel_rfl)) (fun _ _ _ h => h) (Or.inl ⟨by rfl, ?_⟩) ?_ ?_
          rotate_left
          · intro w'
            go_simp
            with_reducible rfl
          rotate_left
          · simp only [putAll, Act.put, List.setIfInBounds_toArray, List.set_cons_zero, List.set_cons_succ, i64_w, i32_w]
            rfl
          refine pure_ (i := 8) (N := some 70) (v := ?_) (a' := ?_) (bt 12 1023) rfl rfl (any_of HT_.out (by kernel_rfl)) (fun _ _ _ h => h) (Or.inl ⟨by rfl, ?_⟩) ?_ ?_
          rotate_left
          · intro w'
            go_simp
            with_reducible rfl
          rotate_left
          · simp only [putAll, Act.put, List.setIfInBounds_toArray, List.set_cons_zero, List.set_cons_succ, i64_w, i32_w]
            rfl
          refine norm_ ?_ (hcont ⟨A5, c5, K5, us, sm, gx, ad1, c4, gt⟩ _ ⟨unhide NB5, unhide T5, unhide OK5, unhide TW5, unhide HK5, unhide HSM, unhide G9, unhide GT⟩)
          simp only [putAll, Act.put, List.setIfInBounds_toArray, List.set_cons_zero, List.set_cons_succ, i64_w, i32_w]
          all_goals rfl
      · refine value_ (v := .pointer (some ⟨wv1.heap.size, 0, none⟩)) (w1 := wv1.alloc (.cells (tcl (.slice none 0 0) 0 (List.replicate 32 0)).toArray 36)) (wanted_none rfl) rfl ?hrun ?_
        case hrun =>
          first | (go_simp; done) | (go_simp; rfl)
        have g_ : Hid ((wv1.alloc (.cells (tcl (.slice none 0 0) 0 (List.replicate 32 0)).toArray 36)).heap[wv1.heap.size]? = some (.cells (tcl (.slice none 0 0) 0 (List.replicate 32 0)).toArray 36 (0, 0))) := blk_new _ _
        have b_ : Hid (Below wb.heap.size wb (wv1.alloc (.cells (tcl (.slice none 0 0) 0 (List.replicate 32 0)).toArray 36))) := below_alloc (unhide NB1) _
        have r_ : Hid ((wv1.alloc (.cells (tcl (.slice none 0 0) 0 (List.replicate 32 0)).toArray 36)).heap[gx]? = _) := blk_alloc (unhide R1) _
        obtain ⟨gt, hgt⟩ : ∃ z, z = wv1.heap.size := ⟨_, rfl⟩
        have GT : Hid (wb.heap.size ≤ gt) := by show _ ≤ _; rw [hgt]; exact (unhide NB1).size
        rw [← hgt] at g_ ⊢
        generalize wv1.alloc (.cells (tcl (.slice none 0 0) 0 (List.replicate 32 0)).toArray 36) = wv2 at g_ b_ r_ ⊢
        have G9 := g_
        have NB2 := b_
        have R2 := r_
        clear hgt
        clear hHeld
        refine hK.out _ _ (unhide NB2) (fun hHeld => ?_)
        clear hK K
        refine norm_ (a' := ?_) ?_ ?_
        rotate_left
        · show Act.put _ (some 10) _ = _
          simp only [putAll, Act.put, List.setIfInBounds_toArray, List.set_cons_zero, List.set_cons_succ, i64_w, i32_w]
          rfl
        refine one_ (i := 2) (N := some 65) (bt 12 527) rfl rfl (one_of HT_.out (by kernel_rfl)) (by decide) (fun K hK => ?_)
        obtain ⟨wv3, hcv, r_, b_, n_⟩ := conv_at wv2 gx (bys [120]) 1 1 (unhide R2)
        refine value_ (v := .slice (some ⟨gx, 0, none⟩) 1 1) (w1 := wv3) (wanted_none rfl) rfl ?hrun ?_
        case hrun =>
          exact exec_conv22 rfl rfl hcv
        have R3 := hide r_
        have NB3 : Hid (Below wb.heap.size wb wv3) := (unhide NB2).trans (b_ _ (unhide GX))
        have G9 : Hid (wv3.heap[gt]? = _) := (n_ gt (types_ne (unhide R2) (unhide G9) (by decide))).trans (unhide G9)
        clear hcv r_ b_ n_
        clear hHeld
        refine hK.out _ _ (unhide NB3) (fun hHeld => ?_)
        clear hK K
        refine norm_ (a' := ?_) ?_ ?_
        rotate_left
        · show Act.put _ (some 65) _ = _
          simp only [putAll, Act.put, List.setIfInBounds_toArray, List.set_cons_zero, List.set_cons_succ, i64_w, i32_w]
          rfl
        refine one_ (i := 4) (N := some 67) (bt 12 543) rfl rfl (one_of HT_.out (by kernel_rfl)) (by decide) (fun K hK => ?_)
        obtain ⟨ad1, c4, wv4, hrun4, hC4, hc4, hb4⟩ := app_run wv3 ⟨gx, 0, none⟩ [120] A c l (row_C (unhide R3) (by decide)) (Kd.C_below (unhide HRB) (unhide NB3)) (by decide) (by rw [← unhide HNL]; have := unhide HN5; omega)
        have NB4 : Hid (Below wb.heap.size wb wv4) := below_step (unhide NB3) hb4
        have G9 := hide (blk_below (unhide G9) hb4)
        obtain ⟨L, hL⟩ : ∃ z, z = [120] ++ l := ⟨_, rfl⟩
        have hLb : Bytes L := by rw [hL]; exact WkM.Bytes.append (by intro x hx; rw [List.mem_singleton.1 hx]; omega) (unhide HL)
        have hLl : L.length = N + 1 := by rw [hL, List.length_append, List.length_singleton, ← unhide HNL]; omega
        rw [← hL] at hrun4 hC4 hc4
        rw [hLl, ← unhide HNL] at hrun4
        have C4 := hide hC4
        have CC4 := hide hc4
        have HLB := hide hLb
        have HLL := hide hLl
        clear hC4 hc4 hLb hLl hL hb4
        refine value_ (v := .slice (some ad1) (N + 1) c4) (w1 := wv4) (wanted_none rfl) rfl ?hrun ?_
        case hrun =>
          exact exec_append rfl rfl rfl rfl hrun4
        clear hrun4
        clear hHeld
        refine hK.out _ _ (unhide NB4) (fun hHeld => ?_)
        clear hK K
        refine norm_ (a' := ?_) ?_ ?_
        rotate_left
        · show Act.put _ (some 67) _ = _
          simp only [putAll, Act.put, List.setIfInBounds_toArray, List.set_cons_zero, List.set_cons_succ, i64_w, i32_w]
          rfl
        refine one_ (i := 5) (N := some 68) (bt 12 575) rfl rfl (one_of HT_.out (by kernel_rfl)) (by decide) (fun K hK => ?_)
        refine goes_ Tryd.func7 (by kernel_rfl) rfl #[sgV N (.slice A2 m c2), .slice (some ad1) (N + 1) c4, .int .i64 32] (by rfl) rfl rfl (by (try simp only [List.map_toArray, List.map_cons, List.map_nil]); first | done | rfl) ?_
        refine (tell_ok_m A2 c2 N m (N + 1) bs ad1 c4 L wv4 (unhide HBL) (unhide HLL) ((unhide BKB).below (unhide NB4)) (unhide HBS) (unhide HMM) (unhide HN5) (unhide C4) (unhide HLB) (unhide CC4) (by have := unhide HN5; omega)).mono ?_
        rintro e wv5 ⟨A5, c5, K5, us, sm, rfl, hK5, hsm, hT5, hok5, htw5, hb5⟩
        refine ⟨_, rfl, ?_⟩
        have NB5 : Hid (Below wb.heap.size wb wv5) := below_step (unhide NB4) hb5
        have G9 := hide (blk_below (unhide G9) hb5)
        have T5 := hide (Kd.S_lower hT5 (unhide NB4).size)
        have OK5 := hide hok5
        have TW5 := hide htw5
        have HK5 := hide hK5
        have HSM := hide hsm
        clear hT5 hok5 htw5 hK5 hsm hb5
        clear hHeld
        refine hK.out _ _ (unhide NB5) (fun hHeld => ?_)
        clear hK K
        refine norm_ (a' := ?_) ?_ ?_
        rotate_left
        · show Act.put _ (some 68) _ = _
          simp only [putAll, Act.put, List.setIfInBounds_toArray, List.set_cons_zero, List.set_cons_succ, i64_w, i32_w]
          rfl
        refine pure_ (i := 6) (N := some 62) (v := ?_) (a' := ?_) (bt 12 639) rfl rfl (any_of HT_.out (by kernel_rfl)) (fun _ _ _ h => h) (Or.inl ⟨by rfl, ?_⟩) ?_ ?_
        rotate_left
        · intro w'
          go_simp
          with_reducible rfl
        rotate_left
        · simp only [putAll, Act.put, List.setIfInBounds_toArray, List.set_cons_zero, List.set_cons_succ, i64_w, i32_w]
          rfl
        refine pure_ (i := 7) (N := some 69) (v := ?_) (a' := ?_) (bt 12 767) rfl rfl (any_of HT_.out (by kernel_rfl)) (fun _ _ _ h => h) (Or.inl ⟨by rfl, ?_⟩) ?_ ?_
        rotate_left
        · intro w'
          go_simp
          with_reducible rfl
        rotate_left
        · simp only [putAll, Act.put, List.setIfInBounds_toArray, List.set_cons_zero, List.set_cons_succ, i64_w, i32_w]
          rfl
        refine pure_ (i := 8) (N := some 70) (v := ?_) (a' := ?_) (bt 12 1023) rfl rfl (any_of HT_.out (by kernel_rfl)) (fun _ _ _ h => h) (Or.inl ⟨by rfl, ?_⟩) ?_ ?_
        rotate_left
        · intro w'
          go_simp
          with_reducible rfl
        rotate_left
        · simp only [putAll, Act.put, List.setIfInBounds_toArray, List.set_cons_zero, List.set_cons_succ, i64_w, i32_w]
          rfl
        refine norm_ ?_ (hcont ⟨A5, c5, K5, us, sm, gx, ad1, c4, gt⟩ _ ⟨unhide NB5, unhide T5, unhide OK5, unhide TW5, unhide HK5, unhide HSM, unhide G9, unhide GT⟩)
        simp only [putAll, Act.put, List.setIfInBounds_toArray, List.set_cons_zero, List.set_cons_succ, i64_w, i32_w]
        all_goals rfl
    · refine value_ (v := .pointer (some ⟨wb.heap.size, 0, none⟩)) (w1 := wb.alloc (.cells (tcl (.slice none 0 0) 0 (List.replicate 32 0)).toArray 36)) (wanted_none rfl) rfl ?hrun ?_
      case hrun =>
        first | (go_simp; done) | (go_simp; rfl)
      have g_ : Hid ((wb.alloc (.cells (tcl (.slice none 0 0) 0 (List.replicate 32 0)).toArray 36)).heap[wb.heap.size]? = some (.cells (tcl (.slice none 0 0) 0 (List.replicate 32 0)).toArray 36 (0, 0))) := blk_new _ _
      have b_ : Hid (Below wb.heap.size wb (wb.alloc (.cells (tcl (.slice none 0 0) 0 (List.replicate 32 0)).toArray 36))) := below_alloc (unhide NB0) _
      obtain ⟨gt, hgt⟩ : ∃ z, z = wb.heap.size := ⟨_, rfl⟩
      have GT : Hid (wb.heap.size ≤ gt) := by show _ ≤ _; rw [hgt]; exact (unhide NB0).size
      rw [← hgt] at g_ ⊢
      generalize wb.alloc (.cells (tcl (.slice none 0 0) 0 (List.replicate 32 0)).toArray 36) = wv1 at g_ b_ ⊢
      have G9 := g_
      have NB1 := b_
      clear hgt
      clear hHeld
      refine hK.out _ _ (unhide NB1) (fun hHeld => ?_)
      clear hK K
      refine norm_ (a' := ?_) ?_ ?_
      rotate_left
      · show Act.put _ (some 10) _ = _
        simp only [putAll, Act.put, List.setIfInBounds_toArray, List.set_cons_zero, List.set_cons_succ, i64_w, i32_w]
        rfl
      refine one_ (i := 1) (N := some 64) (bt 12 523) rfl rfl (one_of HT_.out (by kernel_rfl)) (by decide) (fun K hK => ?_)
      refine value_ (v := .slice (some ⟨wv1.heap.size, 0, none⟩) 1 1) (w1 := wv1.alloc (.cells (bys [120]) 5)) (wanted_none rfl) rfl ?hrun ?_
      case hrun =>
        first | (go_simp; done) | (go_simp; rfl)
      have r_ : Hid ((wv1.alloc (.cells (bys [120]) 5)).heap[wv1.heap.size]? = some (.cells (bys [120]) 5 (0, 0))) := blk_new _ _
      have b_ : Hid (Below wb.heap.size wb (wv1.alloc (.cells (bys [120]) 5))) := below_alloc (unhide NB1) _
      obtain ⟨gx, hgx⟩ : ∃ z, z = wv1.heap.size := ⟨_, rfl⟩
      have GX : Hid (wb.heap.size ≤ gx) := by show _ ≤ _; rw [hgx]; exact (unhide NB1).size
      rw [← hgx] at r_ ⊢
      have g_ : Hid ((wv1.alloc (.cells (bys [120]) 5)).heap[gt]? = _) := blk_alloc (unhide G9) _
      generalize wv1.alloc (.cells (bys [120]) 5) = wv2 at r_ b_ g_ ⊢
      have R2 := r_
      have NB2 := b_
      have G9 := g_
      clear hgx r_ b_
      clear hHeld
      refine hK.out _ _ (unhide NB2) (fun hHeld => ?_)
      clear hK K
      refine norm_ (a' := ?_) ?_ ?_
      rotate_left
      · show Act.put _ (some 64) _ = _
        simp only [putAll, Act.put, List.setIfInBounds_toArray, List.set_cons_zero, List.set_cons_succ, i64_w, i32_w]
        rfl
      refine one_ (i := 2) (N := some 65) (bt 12 527) rfl rfl (one_of HT_.out (by kernel_rfl)) (by decide) (fun K hK => ?_)
      obtain ⟨wv3, hcv, r_, b_, n_⟩ := conv_at wv2 gx (bys [120]) 1 1 (unhide R2)
      refine value_ (v := .slice (some ⟨gx, 0, none⟩) 1 1) (w1 := wv3) (wanted_none rfl) rfl ?hrun ?_
      case hrun =>
        exact exec_conv22 rfl rfl hcv
      have R3 := hide r_
      have NB3 : Hid (Below wb.heap.size wb wv3) := (unhide NB2).trans (b_ _ (unhide GX))
      have G9 : Hid (wv3.heap[gt]? = _) := (n_ gt (types_ne (unhide R2) (unhide G9) (by decide))).trans (unhide G9)
      clear hcv r_ b_ n_
      clear hHeld
      refine hK.out _ _ (unhide NB3) (fun hHeld => ?_)
      clear hK K
      refine norm_ (a' := ?_) ?_ ?_
      rotate_left
      · show Act.put _ (some 65) _ = _
        simp only [putAll, Act.put, List.setIfInBounds_toArray, List.set_cons_zero, List.set_cons_succ, i64_w, i32_w]
        rfl
      refine one_ (i := 4) (N := some 67) (bt 12 543) rfl rfl (one_of HT_.out (by kernel_rfl)) (by decide) (fun K hK => ?_)
      obtain ⟨ad1, c4, wv4, hrun4, hC4, hc4, hb4⟩ := app_run wv3 ⟨gx, 0, none⟩ [120] A c l (row_C (unhide R3) (by decide)) (Kd.C_below (unhide HRB) (unhide NB3)) (by decide) (by rw [← unhide HNL]; have := unhide HN5; omega)
      have NB4 : Hid (Below wb.heap.size wb wv4) := below_step (unhide NB3) hb4
      have G9 := hide (blk_below (unhide G9) hb4)
      obtain ⟨L, hL⟩ : ∃ z, z = [120] ++ l := ⟨_, rfl⟩
      have hLb : Bytes L := by rw [hL]; exact WkM.Bytes.append (by intro x hx; rw [List.mem_singleton.1 hx]; omega) (unhide HL)
      have hLl : L.length = N + 1 := by rw [hL, List.length_append, List.length_singleton, ← unhide HNL]; omega
      rw [← hL] at hrun4 hC4 hc4
      rw [hLl, ← unhide HNL] at hrun4
      have C4 := hide hC4
      have CC4 := hide hc4
      have HLB := hide hLb
      have HLL := hide hLl
      clear hC4 hc4 hLb hLl hL hb4
      refine value_ (v := .slice (some ad1) (N + 1) c4) (w1 := wv4) (wanted_none rfl) rfl ?hrun ?_
      case hrun =>
        exact exec_append rfl rfl rfl rfl hrun4
      clear hrun4
      clear hHeld
      refine hK.out _ _ (unhide NB4) (fun hHeld => ?_)
      clear hK K
      refine norm_ (a' := ?_) ?_ ?_
      rotate_left
      · show Act.put _ (some 67) _ = _
        simp only [putAll, Act.put, List.setIfInBounds_toArray, List.set_cons_zero, List.set_cons_succ, i64_w, i32_w]
        rfl
      refine one_ (i := 5) (N := some 68) (bt 12 575) rfl rfl (one_of HT_.out (by kernel_rfl)) (by decide) (fun K hK => ?_)
      refine goes_ Tryd.func7 (by kernel_rfl) rfl #[sgV N (.slice A2 m c2), .slice (some ad1) (N + 1) c4, .int .i64 32] (by rfl) rfl rfl (by (try simp only [List.map_toArray, List.map_cons, List.map_nil]); first | done | rfl) ?_
      refine (tell_ok_m A2 c2 N m (N + 1) bs ad1 c4 L wv4 (unhide HBL) (unhide HLL) ((unhide BKB).below (unhide NB4)) (unhide HBS) (unhide HMM) (unhide HN5) (unhide C4) (unhide HLB) (unhide CC4) (by have := unhide HN5; omega)).mono ?_
      rintro e wv5 ⟨A5, c5, K5, us, sm, rfl, hK5, hsm, hT5, hok5, htw5, hb5⟩
      refine ⟨_, rfl, ?_⟩
      have NB5 : Hid (Below wb.heap.size wb wv5) := below_step (unhide NB4) hb5
      have G9 := hide (blk_below (unhide G9) hb5)
      have T5 := hide (Kd.S_lower hT5 (unhide NB4).size)
      have OK5 := hide hok5
      have TW5 := hide htw5
      have HK5 := hide hK5
      have HSM := hide hsm
      clear hT5 hok5 htw5 hK5 hsm hb5
      clear hHeld
      refine hK.out _ _ (unhide NB5) (fun hHeld => ?_)
      clear hK K
      refine norm_ (a' := ?_) ?_ ?_
      rotate_left
      · show Act.put _ (some 68) _ = _
        simp only [putAll, Act.put, List.setIfInBounds_toArray, List.set_cons_zero, List.set_cons_succ, i64_w, i32_w]
        rfl
      refine pure_ (i := 6) (N := some 62) (v := ?_) (a' := ?_) (bt 12 639) rfl rfl (any_of HT_.out (by kernel_rfl)) (fun _ _ _ h => h) (Or.inl ⟨by rfl, ?_⟩) ?_ ?_
      rotate_left
      · intro w'
        go_simp
        with_reducible rfl
      rotate_left
      · simp only [putAll, Act.put, List.setIfInBounds_toArray, List.set_cons_zero, List.set_cons_succ, i64_w, i32_w]
        rfl
      refine pure_ (i := 7) (N := some 69) (v := ?_) (a' := ?_) (bt 12 767) rfl rfl (any_of HT_.out (by kernel_rfl)) (fun _ _ _ h => h) (Or.inl ⟨by rfl, ?_⟩) ?_ ?_
      rotate_left
      · intro w'
        go_simp
        with_reducible rfl
      rotate_left
      · simp only [putAll, Act.put, List.setIfInBounds_toArray, List.set_cons_zero, List.set_cons_succ, i64_w, i32_w]
        rfl
      refine pure_ (i := 8) (N := some 70) (v := ?_) (a' := ?_) (bt 12 1023) rfl rfl (any_of HT_.out (by kernel_rfl)) (fun _ _ _ h => h) (Or.inl ⟨by rfl, ?_⟩) ?_ ?_
      rotate_left
      · intro w'
        go_simp
        with_reducible rfl
      rotate_left
      · simp only [putAll, Act.put, List.setIfInBounds_toArray, List.set_cons_zero, List.set_cons_succ, i64_w, i32_w]
        rfl
      refine norm_ ?_ (hcont ⟨A5, c5, K5, us, sm, gx, ad1, c4, gt⟩ _ ⟨unhide NB5, unhide T5, unhide OK5, unhide TW5, unhide HK5, unhide HSM, unhide G9, unhide GT⟩)
      simp only [putAll, Act.put, List.setIfInBounds_toArray, List.set_cons_zero, List.set_cons_succ, i64_w, i32_w]
      all_goals rfl
  rintro ⟨A5, c5, K5, us, sm, gx, ad1, c4, gt⟩ w5 hF
  refine norm_ (a' := ?_) ?_ ?_
  rotate_left
  · simp only [putAll, Act.put, List.setIfInBounds_toArray, List.set_cons_zero, List.set_cons_succ, i64_w, i32_w]
    rfl
  have hHeld : Below wb.heap.size wb w5 := hF.1
  have TD : Hid (Told wb w5 A5 c5 K5 us sm gt) := hF
  clear hF
  have h32 := (unhide TD).2.2.2.2.2.1
  have SZ36 : Hid ((Tryd.prog.info? 36).map (·.size) = some (tcl (.slice A5 K5 c5) 32 sm).toArray.size) := by show _ = _; rw [List.size_toArray, tcl_len _ _ _ h32]; exact size36
  have SO36 : Hid ((tcl (.slice none 0 0) 0 (List.replicate 32 0)).toArray.size = (tcl (.slice A5 K5 c5) 32 sm).toArray.size) := by show _ = _; rw [List.size_toArray, List.size_toArray, tcl_len _ _ _ h32]; rfl
  refine last_ (i := 10) (N := none) (bt 12 2047) rfl rfl (one_of HT_.out (by kernel_rfl)) (by decide) (fun K hK => ?_)
  refine skip_ (w1 := w5.setRow gt (tcl (.slice A5 K5 c5) 32 sm).toArray) (wanted_none rfl) rfl ?hrun ?_
  case hrun =>
    exact exec_store_row rfl gt _ rfl rfl 36 _ (unhide TD).2.2.2.2.2.2.1 (unhide SZ36) (unhide SO36) (all_oneCell_toArray (tcl_one _ _ _ _ _))
  refine hK.out _ _ ?_
  clear hK K
  refine pure_ (i := 11) (N := some 8) (v := ?_) (a' := ?_) (bt 12 4095) rfl rfl (any_of HT_.out (by kernel_rfl)) (fun _ _ _ h => h) (Or.inl ⟨by rfl, ?_⟩) ?_ ?_
  rotate_left
  · intro w'
    go_simp
    with_reducible rfl
  rotate_left
  · simp only [putAll, Act.put, List.setIfInBounds_toArray, List.set_cons_zero, List.set_cons_succ, i64_w, i32_w]
    rfl
  refine done_ (done_of HT_.out (by kernel_rfl)) ?_
  clear HT_ HW_ hHeld
  have g6_ : (w5.setRow gt (tcl (.slice A5 K5 c5) 32 sm).toArray).heap[gt]? = some (.cells (tcl (.slice A5 K5 c5) 32 sm).toArray 36 (0, 0)) := setRow_heap _ _ _ _ 36 _ (unhide TD).2.2.2.2.2.2.1
  have b6_ : Below wb.heap.size wb (w5.setRow gt (tcl (.slice A5 K5 c5) 32 sm).toArray) := below_setRow (unhide TD).1 (unhide TD).2.2.2.2.2.2.2 _
  have t6_ : TkC (w5.setRow gt (tcl (.slice A5 K5 c5) 32 sm).toArray) A5 us := TkC.of_S (Kd.S_step (Kd.S_types (unhide TD).2.1 (unhide TD).2.2.2.2.2.2.1 tk36) (fun k hk _ => setRow_other w5 gt k _ hk.2))
  have hok6 := (unhide TD).2.2.1
  have htw6 := (unhide TD).2.2.2.1
  have hK6 := (unhide TD).2.2.2.2.1
  generalize w5.setRow gt (tcl (.slice A5 K5 c5) 32 sm).toArray = w6 at g6_ b6_ t6_ ⊢
  have S6 := hide (blk_below (unhide SD) b6_)
  have BK6 : Hid (BkC w6 A2 bs) := (unhide BKB).below b6_
  have R6 := hide (Kd.C_below (unhide HRB) b6_)
  have B6 := hide (below_step (unhide BD) b6_)
  have N6 := hide (Kd.C_below (unhide HN) (unhide B6))
  have G6 := hide g6_
  have T6 := hide t6_
  have OK6 := hide hok6
  have TW6 := hide htw6
  have HK6 := hide hK6
  have H32 := hide h32
  clear g6_ b6_ t6_ hok6 htw6 hK6 h32 TD SZ36 SO36 SD BD BKB HRB NB0
  obtain ⟨x14, h14⟩ : ∃ z, z = Wd.w14 N A2 c2 bs := ⟨_, rfl⟩
  obtain ⟨x4, h4⟩ : ∃ z, z = Wd.w4 A5 c5 us sm := ⟨_, rfl⟩
  obtain ⟨x5, h5⟩ : ∃ z, z = Wd.w5 A c l := ⟨_, rfl⟩
  have f14 : Hid (Tryd.prog.built 38 [(0, .int .i64 14), (1, .int .i64 3), (7, sgV N (.slice A2 m c2))] = some x14.1.toArray) := by
    show _ = _
    rw [h14, ← unhide HBL]
    exact b38_14 _ _ _ _
  have f4 : Hid (Tryd.prog.built 38 [(0, .int .i64 4), (1, .int .i64 4), (8, .agg (tcl (.slice A5 K5 c5) 32 sm).toArray)] = some x4.1.toArray) := by
    show _ = _
    rw [h4, ← unhide HK6]
    exact b38_4 _ _ _ _ (unhide H32)
  have f5 : Hid (Tryd.prog.built 38 [(0, .int .i64 5), (1, .int .i64 5), (6, .slice A N c)] = some x5.1.toArray) := by
    show _ = _
    rw [h5, unhide HNL]
    exact b38_5 _ _ _
  have k14 : Hid (x14.1.length = 91 ∧ ∀ u ∈ x14.1, u.oneCell' = true) := by rw [h14]; exact w14_ok _ _ _ _
  have k4 : Hid (x4.1.length = 91 ∧ ∀ u ∈ x4.1, u.oneCell' = true) := by rw [h4]; exact w4_ok _ _ _ _ (unhide H32)
  have k5 : Hid (x5.1.length = 91 ∧ ∀ u ∈ x5.1, u.oneCell' = true) := by rw [h5]; exact w5_ok _ _ _
  have SZ36 : Hid ((Tryd.prog.info? 36).map (·.size) = some (tcl (.slice A5 K5 c5) 32 sm).toArray.size) := by show _ = _; rw [List.size_toArray, tcl_len _ _ _ (unhide H32)]; exact size36
  have Q7 : Hid (wdK.R 38 (w6.alloc (.cells (x14.1 ++ (x4.1 ++ x5.1)).toArray 38)) w6.heap.size (fun _ => True) (.slice (some ⟨w6.heap.size, 0, none⟩) 3 3) [x14, x4, x5]) := by show wdK.R _ _ _ _ _ _; rw [← List.append_assoc]; exact lit_R w6 w6.heap.size x14 x4 x5 (unhide k14).1 (unhide k4).1 (unhide k5).1 (unhide k14).2 (unhide k4).2 (unhide k5).2 (Nat.le_refl _)
  have B7 : Hid (Below w6.heap.size w6 (w6.alloc (.cells (x14.1 ++ (x4.1 ++ x5.1)).toArray 38))) := below_alloc (Below.refl _ _) _
  have W0 : Hid ([x14, x4, x5] = words N A2 c2 bs A5 c5 us sm A c l (ns.take 0)) := by show _ = _; rw [h14, h4, h5]; rfl
  clear h14 h4 h5
  obtain ⟨y0_, y1_, y2_, y3_⟩ := box4f (unhide S6)
  go_wp2_with (first | refine wpList_load_row rfl 36 (.tmp 10) rfl gt rfl 36 _ (0, 0) _ (unhide G6) Tryd.underlying36 rfl (unhide SZ36) ?_ | (refine wpList_build3 rfl 38 0 1 7 _ _ (.tmp 73) rfl (.int .i64 14) (.int .i64 3) (sgV N (.slice A2 m c2)) rfl rfl rfl x14.1.toArray ?_ ?_; focus exact unhide f14) | (refine wpList_build3 rfl 38 0 1 8 _ _ (.tmp 75) rfl (.int .i64 4) (.int .i64 4) (.agg (tcl (.slice A5 K5 c5) 32 sm).toArray) rfl rfl rfl x4.1.toArray ?_ ?_; focus exact unhide f4) | (refine wpList_build3 rfl 38 0 1 6 _ _ (.tmp 77) rfl (.int .i64 5) (.int .i64 5) (.slice A N c) rfl rfl rfl x5.1.toArray ?_ ?_; focus exact unhide f5) | refine wpList_lit38_3 rfl (.tmp 74) (.tmp 76) (.tmp 78) rfl x14.1 x4.1 x5.1 (unhide k14).1 (unhide k4).1 (unhide k5).1 rfl rfl rfl ?_)
  generalize w6.alloc (.cells (x14.1 ++ (x4.1 ++ x5.1)).toArray 38) = wL at Q7 B7 ⊢
  rw [unhide W0] at Q7
  clear y0_ y1_ y2_ y3_ W0 f14 f4 f5 k14 k4 k5 SZ36
  go_loopg [11, 82] M (fun kq v11 v82 wr => ∃ (i : Nat) (A7 : Option Addr) (c7 : Nat), v82 = .int .i64 (i : Int) ∧ v11 = .slice A7 (3 + i) c7 ∧ Hid (i + kq = M) ∧ Hid (wdK.R 38 wr w6.heap.size (fun _ => True) (.slice A7 (3 + i) c7) (words N A2 c2 bs A5 c5 us sm A c l (ns.take i))) ∧ Hid (∀ x ∈ ns.take i, x.size ≤ 200) ∧ Hid (Below w6.heap.size w6 wr))
  case atStart => exact ⟨0, _, _, rfl, rfl, Nat.zero_add _, Q7, (by intro x hx; cases hx), B7⟩
  case round =>
    obtain ⟨i, A7, c7, rfl, rfl, HI, HQ, HS, HB⟩ := hrel
    by_cases hlt : i < M
    · have hiM := unhide HM1
      obtain ⟨ad0, rfl, hcell⟩ := Kd.at_string (Kd.C_below (unhide N6) (unhide HB)) (i : Int) (by omega) (by have := unhide HML; omega)
      rw [Int.toNat_natCast] at hcell
      obtain ⟨s, hs⟩ : ∃ s, s = rdOf ByteArray.empty ns (i : Int) := ⟨_, rfl⟩
      have hsi : ns[i]? = some s := by
        have hin : i < ns.length := by have := unhide HML; omega
        rw [hs]
        unfold rdOf
        rw [Int.toNat_natCast, List.getD_eq_getElem?_getD, List.getElem?_eq_getElem hin]
        rfl
      rw [← hs] at hcell
      have d1 : (i : Int) < (M : Int) := by omega
      have HLT := hide hlt
      have HSI := hide hsi
      have e1 : wrap64 ((i : Int) + 1) = ((i + 1 : Nat) : Int) := by rw [w64 _ (by omega) (by omega)]; omega
      have E1 := hide e1
      clear hlt hsi hs hiM e1
      by_cases q5 : 200 < (s.size : Int)
      · go_wp2
        go_ret
        exact ⟨rfl, below_step (unhide B6) (unhide HB)⟩
      have HS2 : Hid (s.size ≤ 200) := by show _ ≤ _; omega
      go_wp2_with (first | (refine Go.Proofs.YtgoephcembgmcaaDoor.Bl.wpList_build2 rfl 38 0 2 _ (.tmp 90) rfl (.int .i64 7) (.string s) rfl rfl (Wd.w7 s).1.toArray ?_ ?_; focus exact b38_7 s) | refine wpList_lit38 rfl (.tmp 91) rfl (Wd.w7 s).1 (w7_ok s).1 rfl ?_ | (at_builtin; refine unhide ?_))
      refine hide ?_
      refine Kd.R_append wdK (w0 := w6) w6.heap.size rfl (.tmp 89) (.tmp 92) 43 38 (.agg Tryd.zeroCells38) 240 rfl Tryd.underlying43 info38 rfl (by decide) (by decide) (.slice A7 (3 + i) c7) (words N A2 c2 bs A5 c5 us sm A c l (ns.take i)) (Wd.w7 s) (Wd.w7 s).1 (fun _ => True) (fun _ => False) rfl rfl (wdK_M (Wd.w7 s) (w7_ok s).1 (w7_ok s).2) (fun k h => h.elim) (fun _ _ => trivial) (unhide HQ) (unhide HB) (unhide HB).size (by have := unhide HI; have := unhide HM1; rw [words_len, List.length_take]; omega) ?_
      intro v8 w8 hR8 hB8 hg8 hat8
      rw [words_snoc _ _ _ _ _ _ _ _ _ _ _ (unhide HSI)] at hR8
      obtain ⟨A8, c8, hv8⟩ := Kd.R_slice hR8
      have hl8 : (words N A2 c2 bs A5 c5 us sm A c l (ns.take (i + 1))).length = 3 + (i + 1) := by
        have := unhide HLT; have := unhide HML
        rw [words_len, List.length_take]; omega
      rw [hl8] at hv8
      subst hv8
      have Q8 := hide hR8
      have B8 := hide hB8
      clear hR8 hB8 hg8 hat8 hl8
      go_wp2
      go_roundg (gk - 1)
      case measure => have := unhide HI; have := unhide HLT; omega
      case rel =>
        exact ⟨i + 1, A8, c8, by first | exact congrArg (Value.int .i64) (unhide E1) | exact congrArg (Value.int .i64) (by omega), rfl, by have := unhide HI; have := unhide HLT; show _ = _; omega, Q8, (by
          intro x hx
          rw [List.take_add_one, unhide HSI] at hx
          rcases List.mem_append.1 hx with hx | hx
          · exact (unhide HS) x hx
          · have hx2 : x = s := by simpa using hx
            rw [hx2]
            exact unhide HS2), B8⟩
    · have hiM : i = M := by have := unhide HI; omega
      subst hiM
      have HTK : ns.take i = ns := List.take_of_length_le (by have := unhide HML; omega)
      rw [HTK] at HQ HS
      have d1 : ¬ (i : Int) < (i : Int) := by omega
      have f3 : Hid (Tryd.prog.built 38 [(0, .int .i64 3), (3, .slice A0 i c0)] = some (Wd.w3 A0 c0 ns).1.toArray) := by
        show _ = _
        rw [unhide HML]
        exact b38_3 _ _ _
      clear HTK hlt
      go_wp2_with (first | (refine Go.Proofs.YtgoephcembgmcaaDoor.Bl.wpList_build2 rfl 38 0 3 _ (.tmp 96) rfl (.int .i64 3) (.slice A0 i c0) rfl rfl (Wd.w3 A0 c0 ns).1.toArray ?_ ?_; focus exact unhide f3) | refine wpList_lit38 rfl (.tmp 97) rfl (Wd.w3 A0 c0 ns).1 (w3_ok A0 c0 ns).1 rfl ?_ | (at_builtin; refine unhide ?_))
      refine hide ?_
      refine Kd.R_append wdK (w0 := w6) w6.heap.size rfl (.tmp 95) (.tmp 98) 43 38 (.agg Tryd.zeroCells38) 240 rfl Tryd.underlying43 info38 rfl (by decide) (by decide) (.slice A7 (3 + i) c7) (words N A2 c2 bs A5 c5 us sm A c l ns) (Wd.w3 A0 c0 ns) (Wd.w3 A0 c0 ns).1 (fun _ => True) (fun _ => False) rfl rfl (wdK_M _ (w3_ok A0 c0 ns).1 (w3_ok A0 c0 ns).2) (fun k h => h.elim) (fun _ _ => trivial) (unhide HQ) (unhide HB) (unhide HB).size (by have := unhide HML; have := unhide HM1; rw [words_len]; omega) ?_
      intro v8 w8 hR8 hB8 hg8 hat8
      obtain ⟨A8, c8, hv8⟩ := Kd.R_slice hR8
      obtain ⟨ws, hws⟩ : ∃ z, z = words N A2 c2 bs A5 c5 us sm A c l ns ++ [Wd.w3 A0 c0 ns] := ⟨_, rfl⟩
      have hwl4 : ws.length = 4 + i := by rw [hws, List.length_append, words_len, List.length_singleton, ← unhide HML]; omega
      obtain ⟨tt, htt⟩ : ∃ z, z = ws.length := ⟨_, rfl⟩
      have hwl : ws.length = tt := htt.symm
      have hil : 4 ≤ tt ∧ tt ≤ 14 := by have := unhide HM1; omega
      rw [← hws] at hR8 hv8
      rw [hwl] at hv8
      subst hv8
      have hbs := unhide HBS
      have hbl : bs.length = (N + 3) / 4 := by rw [unhide HBL, unhide HMM]
      have hN5 := unhide HN5
      have hlN : l.length ≤ 500 := by rw [← unhide HNL]; exact hN5
      have hnM : ns.length ≤ 10 := by rw [← unhide HML]; exact unhide HM1
      have hsay : ∀ x ∈ ws, FrameAt w8 x.1 x.2.1 x.2.2 ∧ Heard w8 x := by
        intro x hx
        rw [hws] at hx
        have mv : ∀ y : Wdt, FrameAt w6 y.1 y.2.1 y.2.2 ∧ Heard w6 y → FrameAt w8 y.1 y.2.1 y.2.2 ∧ Heard w8 y := fun y h => ⟨h.1.up hB8, h.2.up hB8⟩
        rcases List.mem_append.1 hx with hx | hx
        · rcases List.mem_append.1 hx with hx | hx
          · rcases List.mem_cons.1 hx with rfl | hx
            · exact mv _ ⟨said_14 w6 N A2 c2 bs (unhide BK6) hbs hbl hN5, heard_14 w6 N A2 c2 bs hbs hbl hN5⟩
            · rcases List.mem_cons.1 hx with rfl | hx
              · exact mv _ ⟨said_4 w6 A5 c5 us sm (unhide T6) (unhide OK6) (unhide TW6) (unhide H32), heard_4 w6 A5 c5 us sm (unhide OK6) (unhide TW6) (unhide H32)⟩
              · rw [List.mem_singleton.1 hx]
                exact mv _ ⟨said_5 w6 A c l (unhide R6) (unhide HC) hlN, heard_5 w6 A c l (unhide R6) hlN⟩
          · obtain ⟨y, hy, rfl⟩ := List.mem_map.1 hx
            exact mv _ ⟨said_7 w6 y ((unhide HS) y hy), heard_7 w6 y ((unhide HS) y hy)⟩
        · rw [List.mem_singleton.1 hx]
          exact mv _ ⟨said_3 w6 A0 c0 ns (unhide N6) hnM (unhide HS), heard_3 w6 A0 c0 ns hnM (unhide HS)⟩
      obtain ⟨hfr, hel⟩ := all_len N A2 c2 bs A5 c5 us sm A c l A0 c0 ns hbs hbl hN5 (unhide OK6) (unhide TW6) (unhide H32) hlN hnM (unhide HS)
      rw [← hws] at hfr hel
      have B8 := hide (below_step (unhide B6) hB8)
      have Q8 := hide hR8
      have HSAY := hide hsay
      have HFR := hide hfr
      have HEL := hide hel
      have HWL := hide hwl
      have HIL := hide hil
      clear hbs hbl hN5 hlN hnM hsay hfr hel hR8 hB8 hg8 hat8 hwl hws hwl4 htt hil HQ HB HS f3 S6 G6 BK6 R6 N6 T6 B6 OK6 TW6 HK6 H32 HI d1
      go_wp2_with fail
      refine (wbytes_ok_m A8 c8 tt ws w8 (unhide HWL) (WdC.of_R (unhide Q8)) (fun x hx => (unhide HSAY x hx).1) (unhide HFR) (by have := unhide HEL; omega) (by have := unhide HIL; omega)).mono ?_
      rintro e w9 ⟨A9, c9, NB, rfl, hNB, hnc, hC9, hb9⟩
      obtain ⟨b, hbb⟩ : ∃ z, z = encs1 (js ws) := ⟨_, rfl⟩
      rw [← hbb] at hNB hC9
      have WC9 := hide ((WdC.of_R (unhide Q8)).below hb9)
      have HRD : Hid (∀ x ∈ ws, Heard w9 x) := fun x hx => ((unhide HSAY) x hx).2.up hb9
      have B9 := hide (below_step (unhide B8) hb9)
      have C9 := hide hC9
      have HNB := hide hNB
      have HNC := hide hnc
      have HBB := hide hbb
      have HNBL : Hid (NB ≤ 20000) := by show _ ≤ _; rw [hNB, hbb]; exact unhide HEL
      clear hNB hnc hC9 hb9 hbb Q8 HSAY B8 HEL
      go_wp2
      have F0 : Hid (Fr.Fd (w9.alloc (.cells #[.slice none 0 0, .int .i64 0, .nilIface] 47)) w9.heap.size (.slice none 0 0) 0) := blk_new _ _
      have I0 : Hid (Below w9.heap.size w9 (w9.alloc (.cells #[.slice none 0 0, .int .i64 0, .nilIface] 47))) := below_alloc (Below.refl _ _) _
      obtain ⟨g, hgg⟩ : ∃ z, z = w9.heap.size := ⟨_, rfl⟩
      have HGG := hide hgg
      rw [← hgg] at F0 ⊢
      generalize w9.alloc (.cells #[.slice none 0 0, .int .i64 0, .nilIface] 47) = w10 at F0 I0 ⊢
      clear hgg
      go_loopg [15, 16] NB (fun kq v15 v16 wr => ∃ (a k : Nat) (A10 : Option Addr) (n10 c10 : Nat) (r10 : Int) (rest : List Int), v15 = .int .i64 (k : Int) ∧ v16 = .int .i64 (a : Int) ∧ Hid (kq = NB - a ∧ a ≤ NB + 5000 ∧ k ≤ ws.length) ∧ Hid (encs1 ((js ws).drop k) = rest ++ b.drop a ∧ Begin rest ∧ (b.drop a = [] → k = ws.length ∧ rest = [])) ∧ Hid (Fr.Fd wr g (.slice A10 n10 c10) r10 ∧ Own wr w9.heap.size (.slice A10 n10 c10) rest) ∧ Hid (Below w9.heap.size w9 wr))
      case atStart =>
        refine ⟨0, 0, none, 0, 0, 0, [], rfl, rfl, ⟨rfl, Nat.zero_le _, Nat.zero_le _⟩, ⟨?_, .inl rfl, fun h => ?_⟩, ⟨unhide F0, Kd.R_nil _ _ _ _ _⟩, I0⟩
        · rw [List.drop_zero, List.drop_zero, unhide HBB]; rfl
        · exact absurd (by rw [List.drop_zero, unhide HBB] at h; exact h) (encs_pos (by have := unhide HWL; have := unhide HIL; omega))
      case round =>
        obtain ⟨a, k, A10, n10, c10, r10, rest, rfl, rfl, HA, HE, HF, HB⟩ := hrel
        by_cases hlt : a < NB
        · have d1 : (a : Int) < (NB : Int) := by omega
          obtain ⟨q, hq⟩ : ∃ q : Nat, q = min (a + p) NB := ⟨_, rfl⟩
          obtain ⟨ap, hap⟩ : ∃ ap : Nat, ap = a + p := ⟨_, rfl⟩
          have hpp := unhide HP
          have hnbl := unhide HNBL
          have e1 : wrap64 ((a : Int) + (p : Int)) = (ap : Int) := by rw [w64 _ (by omega) (by omega)]; omega
          have hmin : (if NB < ap then (NB : Int) else (ap : Int)) = (q : Int) := by split <;> omega
          obtain ⟨A11, hcut, hcr, hcl⟩ := mid_any A9 c9 b a q (by rw [← unhide HNB]; exact unhide HNC) (by omega) (by rw [← unhide HNB]; omega)
          rw [← unhide HNB] at hcut
          obtain ⟨m, rest', hm, hcat, hbeg, hnext, hend⟩ := piece_cut (L := (js ws).drop k) (q := q) (fun j hj => (unhide HFR) j (List.mem_of_mem_drop hj)) (unhide HE).1 (by omega)
          obtain ⟨C, hC⟩ : ∃ z, z = (b.take q).drop a := ⟨_, rfl⟩
          obtain ⟨NC, hNC⟩ : ∃ z, z = ((b.take q).drop a).length := ⟨_, rfl⟩
          rw [← hNC] at hcut hcl
          have hcr' : ∀ w', Below w9.heap.size wr w' → Kd.C (Kd.int .u8) w' A11 NC C := fun w' h => by
            have h2 := hcr w' (Kd.C_below (unhide C9) ((unhide HB).trans h))
            rw [← hC] at h2
            rw [hNC, ← hC]
            exact h2
          rw [← hC] at hcat
          have hCl : C.length ≤ NB := by rw [hC, List.length_drop, List.length_take, ← unhide HNB]; omega
          have hrl : rest.length ≤ 30000 := by
            have h1 := congrArg List.length (unhide HE).1
            rw [List.length_append] at h1
            have h2 := encs1_drop (js ws) k
            rw [← unhide HBB, ← unhide HNB] at h2
            omega
          have hjl : (js ws).length = tt := by unfold js; rw [List.length_map]; exact unhide HWL
          have hmk : k + m ≤ tt := by rw [List.length_drop, hjl] at hm; have := (unhide HA).2.2; have := unhide HWL; omega
          have htl : (((js ws).drop k).take m).length = m := by rw [List.length_take, List.length_drop, hjl]; omega
          have HQ := hide hq
          have HAP := hide hap
          have HE1 := hide e1
          have HMIN := hide hmin
          have HCUT := hide hcut
          have HCR := hide hcr'
          have HCL := hide hcl
          have HCAT := hide hcat
          have HBEG := hide hbeg
          have HNEXT := hide hnext
          have HEND := hide hend
          have HCLN := hide hCl
          have HRL := hide hrl
          have HMK := hide hmk
          have HTL := hide htl
          have HJL := hide hjl
          have HLT := hide hlt
          clear hpp hnbl hcr hm hC hNC hcr' hcl hcat hbeg hnext hend hCl hrl hmk htl hjl hlt hq hap
          go_wp2_with fail
          refine (add_ok_m g w9.heap.size A11 NC (c9 - a) rest C A10 n10 c10 r10 (((js ws).drop k).take m) m rest' _ (unhide HTL) (unhide HF).1 (unhide HF).2 ((unhide HCR) _ (Below.refl _ _)) (unhide HCAT) (fun j hj => (unhide HFR) j (List.mem_of_mem_drop (List.mem_of_mem_take hj))) (unhide HBEG) (by rw [List.length_append]; have := unhide HCLN; have := unhide HRL; have := unhide HNBL; omega) (by have := unhide HTL; have := unhide HMK; have := unhide HIL; omega) (by rw [unhide HGG]; exact Nat.le_refl _) (unhide HCL)).mono ?_
          rintro e wI ⟨A12, c12, rfl, hT, ⟨A13, n13, c13, r13, hF13, hO13⟩, hBI⟩
          have TI := hide hT
          have FI : Hid (Fr.Fd wI g (.slice A13 n13 c13) r13 ∧ Own wI w9.heap.size (.slice A13 n13 c13) rest') := ⟨hF13, hO13⟩
          have BI := hide ((unhide HB).trans hBI)
          clear hT hF13 hO13 hBI HF HB HCR HCUT hcut hmin e1 HMIN HE1
          go_wp2
          obtain ⟨gk1, h_⟩ : ∃ k, k = gk := ⟨_, rfl⟩
          subst h_
          obtain ⟨wr1, h_⟩ : ∃ k, k = wr := ⟨_, rfl⟩
          subst h_
          clear d1
          go_loopg [15, 125] m (fun kq v15 v125 wr => ∃ (y nn : Nat), v125 = .int .i64 (y : Int) ∧ v15 = .int .i64 (nn : Int) ∧ Hid (y + kq = m ∧ nn = k + y) ∧ Hid (Below wI.heap.size wI wr))
          case atStart => exact ⟨0, k, rfl, rfl, ⟨Nat.zero_add _, rfl⟩, Below.refl _ _⟩
          case round =>
            obtain ⟨y, nn, rfl, rfl, HY, HBJ⟩ := hrel
            by_cases hlt : y < m
            · have hym := unhide HY
              have hmk := unhide HMK
              have hnt : nn < tt := by omega
              obtain ⟨x, hx⟩ : ∃ x, ws[nn]? = some x := ⟨_, List.getElem?_eq_getElem (by have := unhide HWL; omega)⟩
              have hjx : (((js ws).drop k).take m)[y]? = some x.2 := by
                rw [List.getElem?_take, if_pos hlt, List.getElem?_drop, ← hym.2]
                unfold js
                rw [List.getElem?_map, hx]
                rfl
              have hux : ((((js ws).drop k).take m).map frv)[y]? = some (frv x.2) := by rw [List.getElem?_map, hjx]; rfl
              obtain ⟨gf, rfl, hrow⟩ := (unhide TI) (by rw [List.length_map, unhide HTL]; omega)
              obtain ⟨A14, c14, hl14, ⟨g0, g1, g2⟩, hC14⟩ := hrow y _ hux
              have hmem := List.mem_of_getElem? hx
              obtain ⟨xc, xk, xD⟩ := x
              have g0' := pw_cell_below (unhide HBJ) g0
              have g1' := pw_cell_below (unhide HBJ) g1
              have g2' := pw_cell_below (unhide HBJ) g2
              simp only [frv] at g0' g1' g2' hl14 hC14
              obtain ⟨ll, hll⟩ : ∃ z, z = xD.length := ⟨_, rfl⟩
              rw [← hll] at g2'
              have d1 : (y : Int) < (m : Int) := by omega
              have d2 : (nn : Int) < (tt : Int) := by omega
              have e1 : wrap64 ((y : Int) + 1) = ((y + 1 : Nat) : Int) := by have := unhide HIL; rw [w64 _ (by omega) (by omega)]; omega
              have e2 : wrap64 ((nn : Int) + 1) = ((nn + 1 : Nat) : Int) := by have := unhide HIL; rw [w64 _ (by omega) (by omega)]; omega
              have hB12 := below_alloc (below_step (unhide BI) (unhide HBJ)) (.cells #[.int .i64 (xk : Int), .int .i64 0, .slice A14 ll c14] 51)
              have hC12 := Kd.C_alloc (Kd.C_below hC14 (unhide HBJ)) (.cells #[.int .i64 (xk : Int), .int .i64 0, .slice A14 ll c14] 51)
              have HB12 := hide hB12
              have HC12 := hide hC12
              have HX := hide hx
              have HLL := hide hll
              have HL14 := hide hl14
              have HMEM := hide hmem
              have HD2 := hide d2
              have E1 := hide e1
              have E2 := hide e2
              have HLT2 := hide hlt
              clear hym hmk hnt hx hjx hux hrow g0 g1 g2 hC14 hmem hl14 hll e1 e2 hB12 hC12 d2 hlt
              go_wp2_with fail
              refine (heard_m ((unhide HRD) _ (unhide HMEM)) A14 c14 xk ll _ rfl (unhide HLL) (unhide HB12) (unhide HC12) (by rw [unhide HLL]; exact unhide HL14)).mono ?_
              rintro e w12 ⟨cs', rfl, hlike, h91, hone, hb12⟩
              have SZ := hide (show (Tryd.prog.info? 38).map (·.size) = some cs'.toArray.size by rw [List.size_toArray, h91]; exact size38)
              have SO := hide (show Tryd.zeroCells38.size = cs'.toArray.size from (show Tryd.zeroCells38.size = 91 by kernel_rfl).trans (by rw [List.size_toArray, h91]))
              have ONE := hide (all_oneCell_toArray hone)
              have hb13 : Below wr.heap.size wr (w12.alloc (.cells cs'.toArray 38)) := below_alloc (below_step (below_alloc (Below.refl _ _) _) hb12) _
              have hcmp : ∃ G8, A8 = some ⟨G8, 0, none⟩ ∧ Cmp (w12.alloc (.cells cs'.toArray 38)) w12.heap.size G8 (nn * 91) := by
                obtain ⟨G8, hG8, hrr⟩ := (unhide WC9).below (below_step (unhide BI) (below_step (unhide HBJ) hb13)) (by have := unhide HWL; have := unhide HIL; omega)
                obtain ⟨k_, n_, name_, z1, z2, z3, z4, z5, z6, z7, z8, y1, y2, y3, y4, y5, y6, y7, y8, y9, y10, y11, y12, ys_, u0, u1, u2, u3, sm_, q1, q2, q3, q4, q5⟩ := hlike.out
                exact ⟨G8, hG8, cmp_of ⟨⟨k_, n_, name_, z1, z2, z3, z4, z5, z6, z7, z8, y1, y2, y3, y4, y5, y6, y7, y8, y9, y10, y11, y12, ys_, u0, u1, u2, u3, sm_, q1, q2, q3, Kd.C_alloc q4 _, Kd.C_alloc q5 _⟩⟩ (blk_new _ _) (hrr nn _ (unhide HX)).1⟩
              obtain ⟨G8, rfl, hcmp⟩ := hcmp
              have B13 := hide (below_step (unhide HBJ) hb13)
              have CMP := hide hcmp
              clear hb13 hcmp hlike h91 hone hb12 g0' g1' g2' HB12 HC12 HL14 HMEM HX HBJ
              go_wp2_with (refine wpList_store_row rfl 38 (.tmp 19) (.tmp 132) rfl w12.heap.size cs'.toArray rfl rfl 38 _ (blk_new w12 _) (unhide SZ) (unhide SO) (unhide ONE) ?_; rw [World.setRow_alloc_new])
              obtain ⟨gz, hgz⟩ : ∃ z, z = w12.heap.size := ⟨_, rfl⟩
              rw [← hgz] at CMP ⊢
              generalize w12.alloc (.cells cs'.toArray 38) = w13 at B13 CMP ⊢
              clear hgz SZ SO ONE
              obtain ⟨ck, cn, cname, P1, P1', P2, P2', P3, P3', n1, q1, q1', q2, q2', n3, q3, q3', ys, sm, hsm, hys, hys', ⟨m0, m1, m2, m3, m52, m56, m59⟩, ⟨l0, l1, l2, l3, l52, l56, l59⟩⟩ := (unhide CMP).out
              have kv1 : ∀ W, W = w13.drew → (convert 22 9 (.slice P2' ys.length q2')).run Tryd.prog W = .ok (.string (strOfNums ys)) W := fun W hW => by subst hW; exact Kd.C_string Tryd.underlying22 Tryd.underlying5 Tryd.underlying9 (Kd.C_drew hys')
              have kv2 : ∀ W, W = w13.drew → (convert 22 9 (.slice P2 ys.length q2)).run Tryd.prog W = .ok (.string (strOfNums ys)) W := fun W hW => by subst hW; exact Kd.C_string Tryd.underlying22 Tryd.underlying5 Tryd.underlying9 (Kd.C_drew hys)
              obtain ⟨yl, hyl⟩ : ∃ z, z = ys.length := ⟨_, rfl⟩
              rw [← hyl] at m52 l52 kv1 kv2
              obtain ⟨st, hst⟩ : ∃ z, z = strOfNums ys := ⟨_, rfl⟩
              rw [← hst] at kv1 kv2
              have nq := fun W => neq28 sm hsm W
              have h32 : (sm.map (Value.int .u8)).length = 32 := by rw [List.length_map, hsm]
              unfold bys at nq
              obtain ⟨sl, hsl⟩ : ∃ z, z = sm.map (Value.int .u8) := ⟨_, rfl⟩
              rw [← hsl] at nq m59 l59 h32
              have KV1 := hide kv1
              have KV2 := hide kv2
              have NQ := hide nq
              have M59 := hide m59
              have L59 := hide l59
              have H32 := hide (show (Tryd.prog.info? 28).map (·.size) = some sl.length by rw [h32]; exact size28)
              have dn : nn < tt := by have := unhide HD2; omega
              clear hyl hst hys hys' kv1 kv2 nq m59 l59 hsm hsl h32 CMP
              refine start_ (n := 88) (S := fun w' => w' = w13.drew) (ds := []) (bt 88 0) (by kernel_rfl) rfl (by kernel_rfl) rfl (fun hHeld => ?_)
              refine with_tabW tabT3_33 bitsT3_33 (fun HT_ HW_ => ?_)
              refine run_ [(0, 134), (1, 135), (2, 136), (3, 137), (4, 138), (5, 139)] ?_
              iterate 6 ((first | refine sp_ (v := ?_) (a' := ?_) HT_.out rfl rfl rfl (by kernel_rfl) (fun _ _ _ h => h) ?_ ?_ ?_ | refine sg_ (v := ?_) (a' := ?_) HT_.out rfl rfl (by kernel_rfl) (fun _ _ _ h => h) (by rfl) ?_ ?_ ?_); rotate_left; (· intro w'; go_simp; with_reducible rfl); rotate_left; (· simp only [Act.put, List.setIfInBounds_toArray, List.set_cons_zero, List.set_cons_succ, i64_w, i32_w]; rfl))
              refine rend_ ?_
              refine pure_ (i := 6) (N := some 140) (v := ?_) (a' := ?_) (bt 88 127) rfl rfl (any_of HT_.out (by kernel_rfl)) (fun _ _ _ h => h) (Or.inl ⟨by rfl, ?_⟩) ?_ ?_
              rotate_left
              · intro w'
                refine exec_geq_false (x := .tmp 137) (y := .tmp 139) (ho := ?_) (hx := ?_) (hy := ?_) (h := unhide HD2)
                all_goals rfl
              rotate_left
              · simp only [Act.put, List.setIfInBounds_toArray, List.set_cons_zero, List.set_cons_succ, i64_w, i32_w]
                rfl
              refine run_ [(7, 141), (8, 142), (9, 143)] ?_
              iterate 3 ((first | refine sp_ (v := ?_) (a' := ?_) HT_.out rfl rfl rfl (by kernel_rfl) (fun _ _ _ h => h) ?_ ?_ ?_ | refine sg_ (v := ?_) (a' := ?_) HT_.out rfl rfl (by kernel_rfl) (fun _ _ _ h => h) (by rfl) ?_ ?_ ?_); rotate_left; (· intro w'; go_simp; with_reducible rfl); rotate_left; (· simp only [Act.put, List.setIfInBounds_toArray, List.set_cons_zero, List.set_cons_succ, i64_w, i32_w]; rfl))
              refine rend_ ?_
              refine take_ (i := 10) (N := some 144) (v := ?_) (a' := ?_) (bt 88 2047) rfl rfl (take_ofW HT_.out HW_.out (by kernel_rfl)) (fun _ _ _ h => h) (Or.inl ⟨by rfl, ?_⟩) hHeld ?_ ?_
              rotate_left
              · rintro w' h1_
                subst h1_
                go_simp
                with_reducible rfl
              rotate_left
              · simp only [Act.put, List.setIfInBounds_toArray, List.set_cons_zero, List.set_cons_succ, i64_w, i32_w]
                rfl
              refine run_ [(11, 145), (12, 146), (13, 147), (14, 148)] ?_
              iterate 4 ((first | refine sp_ (v := ?_) (a' := ?_) HT_.out rfl rfl rfl (by kernel_rfl) (fun _ _ _ h => h) ?_ ?_ ?_ | refine sg_ (v := ?_) (a' := ?_) HT_.out rfl rfl (by kernel_rfl) (fun _ _ _ h => h) (by rfl) ?_ ?_ ?_); rotate_left; (· intro w'; go_simp; with_reducible rfl); rotate_left; (· simp only [Act.put, List.setIfInBounds_toArray, List.set_cons_zero, List.set_cons_succ, i64_w, i32_w]; rfl))
              refine rend_ ?_
              refine take_ (i := 15) (N := some 149) (v := ?_) (a' := ?_) (bt 88 65535) rfl rfl (take_ofW HT_.out HW_.out (by kernel_rfl)) (fun _ _ _ h => h) (Or.inl ⟨by rfl, ?_⟩) hHeld ?_ ?_
              rotate_left
              · rintro w' h1_
                subst h1_
                go_simp
                with_reducible rfl
              rotate_left
              · simp only [Act.put, List.setIfInBounds_toArray, List.set_cons_zero, List.set_cons_succ, i64_w, i32_w]
                rfl
              refine run_ [(16, 150), (17, 151), (18, 152), (19, 153)] ?_
              iterate 4 ((first | refine sp_ (v := ?_) (a' := ?_) HT_.out rfl rfl rfl (by kernel_rfl) (fun _ _ _ h => h) ?_ ?_ ?_ | refine sg_ (v := ?_) (a' := ?_) HT_.out rfl rfl (by kernel_rfl) (fun _ _ _ h => h) (by rfl) ?_ ?_ ?_); rotate_left; (· intro w'; go_simp; with_reducible rfl); rotate_left; (· simp only [Act.put, List.setIfInBounds_toArray, List.set_cons_zero, List.set_cons_succ, i64_w, i32_w]; rfl))
              refine rend_ ?_
              refine take_ (i := 20) (N := some 154) (v := ?_) (a' := ?_) (bt 88 2097151) rfl rfl (take_ofW HT_.out HW_.out (by kernel_rfl)) (fun _ _ _ h => h) (Or.inl ⟨by rfl, ?_⟩) hHeld ?_ ?_
              rotate_left
              · rintro w' h1_
                subst h1_
                go_simp
                with_reducible rfl
              rotate_left
              · simp only [Act.put, List.setIfInBounds_toArray, List.set_cons_zero, List.set_cons_succ, i64_w, i32_w]
                rfl
              refine run_ [(21, 155), (22, 156), (23, 157), (24, 158)] ?_
              iterate 4 ((first | refine sp_ (v := ?_) (a' := ?_) HT_.out rfl rfl rfl (by kernel_rfl) (fun _ _ _ h => h) ?_ ?_ ?_ | refine sg_ (v := ?_) (a' := ?_) HT_.out rfl rfl (by kernel_rfl) (fun _ _ _ h => h) (by rfl) ?_ ?_ ?_); rotate_left; (· intro w'; go_simp; with_reducible rfl); rotate_left; (· simp only [Act.put, List.setIfInBounds_toArray, List.set_cons_zero, List.set_cons_succ, i64_w, i32_w]; rfl))
              refine rend_ ?_
              refine take_ (i := 25) (N := some 159) (v := ?_) (a' := ?_) (bt 88 67108863) rfl rfl (take_ofW HT_.out HW_.out (by kernel_rfl)) (fun _ _ _ h => h) (Or.inl ⟨by rfl, ?_⟩) hHeld ?_ ?_
              rotate_left
              · rintro w' h1_
                subst h1_
                go_simp
                with_reducible rfl
              rotate_left
              · simp only [Act.put, List.setIfInBounds_toArray, List.set_cons_zero, List.set_cons_succ, i64_w, i32_w]
                rfl
              refine run_ [(26, 160), (27, 161), (28, 162), (29, 163)] ?_
              iterate 4 ((first | refine sp_ (v := ?_) (a' := ?_) HT_.out rfl rfl rfl (by kernel_rfl) (fun _ _ _ h => h) ?_ ?_ ?_ | refine sg_ (v := ?_) (a' := ?_) HT_.out rfl rfl (by kernel_rfl) (fun _ _ _ h => h) (by rfl) ?_ ?_ ?_); rotate_left; (· intro w'; go_simp; with_reducible rfl); rotate_left; (· simp only [Act.put, List.setIfInBounds_toArray, List.set_cons_zero, List.set_cons_succ, i64_w, i32_w]; rfl))
              refine rend_ ?_
              refine take_ (i := 30) (N := some 164) (v := ?_) (a' := ?_) (bt 88 2147483647) rfl rfl (take_ofW HT_.out HW_.out (by kernel_rfl)) (fun _ _ _ h => h) (Or.inl ⟨by rfl, ?_⟩) hHeld ?_ ?_
              rotate_left
              · rintro w' h1_
                subst h1_
                go_simp
                with_reducible rfl
              rotate_left
              · simp only [Act.put, List.setIfInBounds_toArray, List.set_cons_zero, List.set_cons_succ, i64_w, i32_w]
                rfl
              refine run_ [(31, 165), (32, 166), (33, 167), (34, 168)] ?_
              iterate 4 ((first | refine sp_ (v := ?_) (a' := ?_) HT_.out rfl rfl rfl (by kernel_rfl) (fun _ _ _ h => h) ?_ ?_ ?_ | refine sg_ (v := ?_) (a' := ?_) HT_.out rfl rfl (by kernel_rfl) (fun _ _ _ h => h) (by rfl) ?_ ?_ ?_); rotate_left; (· intro w'; go_simp; with_reducible rfl); rotate_left; (· simp only [Act.put, List.setIfInBounds_toArray, List.set_cons_zero, List.set_cons_succ, i64_w, i32_w]; rfl))
              refine rend_ ?_
              refine take_ (i := 35) (N := some 169) (v := ?_) (a' := ?_) (bt 88 68719476735) rfl rfl (take_ofW HT_.out HW_.out (by kernel_rfl)) (fun _ _ _ h => h) (Or.inl ⟨by rfl, ?_⟩) hHeld ?_ ?_
              rotate_left
              · rintro w' h1_
                subst h1_
                go_simp
                with_reducible rfl
              rotate_left
              · simp only [Act.put, List.setIfInBounds_toArray, List.set_cons_zero, List.set_cons_succ, i64_w, i32_w]
                rfl
              refine run_ [(36, 170), (37, 171), (38, 172), (39, 173)] ?_
              iterate 4 ((first | refine sp_ (v := ?_) (a' := ?_) HT_.out rfl rfl rfl (by kernel_rfl) (fun _ _ _ h => h) ?_ ?_ ?_ | refine sg_ (v := ?_) (a' := ?_) HT_.out rfl rfl (by kernel_rfl) (fun _ _ _ h => h) (by rfl) ?_ ?_ ?_); rotate_left; (· intro w'; go_simp; with_reducible rfl); rotate_left; (· simp only [Act.put, List.setIfInBounds_toArray, List.set_cons_zero, List.set_cons_succ, i64_w, i32_w]; rfl))
              refine rend_ ?_
              refine take_ (i := 40) (N := some 174) (v := ?_) (a' := ?_) (bt 88 2199023255551) rfl rfl (take_ofW HT_.out HW_.out (by kernel_rfl)) (fun _ _ _ h => h) (Or.inl ⟨by rfl, ?_⟩) hHeld ?_ ?_
              rotate_left
              · rintro w' h1_
                subst h1_
                go_simp
                with_reducible rfl
              rotate_left
              · simp only [Act.put, List.setIfInBounds_toArray, List.set_cons_zero, List.set_cons_succ, i64_w, i32_w]
                rfl
              refine take_ (i := 41) (N := some 175) (v := ?_) (a' := ?_) (bt 88 4398046511103) rfl rfl (take_ofW HT_.out HW_.out (by kernel_rfl)) (fun _ _ _ h => h) (Or.inl ⟨by rfl, ?_⟩) hHeld ?_ ?_
              rotate_left
              · rintro w' h1_
                refine exec_conv (x := .tmp 174) (u := .string st) ?_ ?_ ((unhide KV1) _ h1_)
                all_goals rfl
              rotate_left
              · simp only [Act.put, List.setIfInBounds_toArray, List.set_cons_zero, List.set_cons_succ, i64_w, i32_w]
                rfl
              refine run_ [(42, 176), (43, 177), (44, 178), (45, 179)] ?_
              iterate 4 ((first | refine sp_ (v := ?_) (a' := ?_) HT_.out rfl rfl rfl (by kernel_rfl) (fun _ _ _ h => h) ?_ ?_ ?_ | refine sg_ (v := ?_) (a' := ?_) HT_.out rfl rfl (by kernel_rfl) (fun _ _ _ h => h) (by rfl) ?_ ?_ ?_); rotate_left; (· intro w'; go_simp; with_reducible rfl); rotate_left; (· simp only [Act.put, List.setIfInBounds_toArray, List.set_cons_zero, List.set_cons_succ, i64_w, i32_w]; rfl))
              refine rend_ ?_
              refine take_ (i := 46) (N := some 180) (v := ?_) (a' := ?_) (bt 88 140737488355327) rfl rfl (take_ofW HT_.out HW_.out (by kernel_rfl)) (fun _ _ _ h => h) (Or.inl ⟨by rfl, ?_⟩) hHeld ?_ ?_
              rotate_left
              · rintro w' h1_
                subst h1_
                go_simp
                with_reducible rfl
              rotate_left
              · simp only [Act.put, List.setIfInBounds_toArray, List.set_cons_zero, List.set_cons_succ, i64_w, i32_w]
                rfl
              refine take_ (i := 47) (N := some 181) (v := ?_) (a' := ?_) (bt 88 281474976710655) rfl rfl (take_ofW HT_.out HW_.out (by kernel_rfl)) (fun _ _ _ h => h) (Or.inl ⟨by rfl, ?_⟩) hHeld ?_ ?_
              rotate_left
              · rintro w' h1_
                refine exec_conv (x := .tmp 180) (u := .string st) ?_ ?_ ((unhide KV2) _ h1_)
                all_goals rfl
              rotate_left
              · simp only [Act.put, List.setIfInBounds_toArray, List.set_cons_zero, List.set_cons_succ, i64_w, i32_w]
                rfl
              refine run_ [(48, 182), (49, 183), (50, 184), (51, 185)] ?_
              iterate 4 ((first | refine sp_ (v := ?_) (a' := ?_) HT_.out rfl rfl rfl (by kernel_rfl) (fun _ _ _ h => h) ?_ ?_ ?_ | refine sg_ (v := ?_) (a' := ?_) HT_.out rfl rfl (by kernel_rfl) (fun _ _ _ h => h) (by rfl) ?_ ?_ ?_); rotate_left; (· intro w'; go_simp; with_reducible rfl); rotate_left; (· simp only [Act.put, List.setIfInBounds_toArray, List.set_cons_zero, List.set_cons_succ, i64_w, i32_w]; rfl))
              refine rend_ ?_
              refine take_ (i := 52) (N := some 186) (v := ?_) (a' := ?_) (bt 88 9007199254740991) rfl rfl (take_ofW HT_.out HW_.out (by kernel_rfl)) (fun _ _ _ h => h) (Or.inl ⟨by rfl, ?_⟩) hHeld ?_ ?_
              rotate_left
              · rintro w' h1_
                subst h1_
                go_simp
                with_reducible rfl
              rotate_left
              · simp only [Act.put, List.setIfInBounds_toArray, List.set_cons_zero, List.set_cons_succ, i64_w, i32_w]
                rfl
              refine run_ [(53, 187), (54, 188), (55, 189), (56, 190), (57, 191)] ?_
              iterate 5 ((first | refine sp_ (v := ?_) (a' := ?_) HT_.out rfl rfl rfl (by kernel_rfl) (fun _ _ _ h => h) ?_ ?_ ?_ | refine sg_ (v := ?_) (a' := ?_) HT_.out rfl rfl (by kernel_rfl) (fun _ _ _ h => h) (by rfl) ?_ ?_ ?_); rotate_left; (· intro w'; go_simp; with_reducible rfl); rotate_left; (· simp only [Act.put, List.setIfInBounds_toArray, List.set_cons_zero, List.set_cons_succ, i64_w, i32_w]; rfl))
              refine rend_ ?_
              refine take_ (i := 58) (N := some 192) (v := ?_) (a' := ?_) (bt 88 576460752303423487) rfl rfl (take_ofW HT_.out HW_.out (by kernel_rfl)) (fun _ _ _ h => h) (Or.inl ⟨by rfl, ?_⟩) hHeld ?_ ?_
              rotate_left
              · rintro w' h1_
                subst h1_
                go_simp
                with_reducible rfl
              rotate_left
              · simp only [Act.put, List.setIfInBounds_toArray, List.set_cons_zero, List.set_cons_succ, i64_w, i32_w]
                rfl
              refine run_ [(59, 193), (60, 194), (61, 195), (62, 196), (63, 197), (64, 198)] ?_
              iterate 6 ((first | refine sp_ (v := ?_) (a' := ?_) HT_.out rfl rfl rfl (by kernel_rfl) (fun _ _ _ h => h) ?_ ?_ ?_ | refine sg_ (v := ?_) (a' := ?_) HT_.out rfl rfl (by kernel_rfl) (fun _ _ _ h => h) (by rfl) ?_ ?_ ?_); rotate_left; (· intro w'; go_simp; with_reducible rfl); rotate_left; (· simp only [Act.put, List.setIfInBounds_toArray, List.set_cons_zero, List.set_cons_succ, i64_w, i32_w]; rfl))
              refine rend_ ?_
              refine take_ (i := 65) (N := some 199) (v := ?_) (a' := ?_) (bt 88 73786976294838206463) rfl rfl (take_ofW HT_.out HW_.out (by kernel_rfl)) (fun _ _ _ h => h) (Or.inl ⟨by rfl, ?_⟩) hHeld ?_ ?_
              rotate_left
              · rintro w' h1_
                subst h1_
                go_simp
                with_reducible rfl
              rotate_left
              · simp only [Act.put, List.setIfInBounds_toArray, List.set_cons_zero, List.set_cons_succ, i64_w, i32_w]
                rfl
              refine run_ [(66, 200), (67, 201), (68, 202), (69, 203), (70, 204), (71, 205)] ?_
              iterate 6 ((first | refine sp_ (v := ?_) (a' := ?_) HT_.out rfl rfl rfl (by kernel_rfl) (fun _ _ _ h => h) ?_ ?_ ?_ | refine sg_ (v := ?_) (a' := ?_) HT_.out rfl rfl (by kernel_rfl) (fun _ _ _ h => h) (by rfl) ?_ ?_ ?_); rotate_left; (· intro w'; go_simp; with_reducible rfl); rotate_left; (· simp only [Act.put, List.setIfInBounds_toArray, List.set_cons_zero, List.set_cons_succ, i64_w, i32_w]; rfl))
              refine rend_ ?_
              refine take_ (i := 72) (N := some 206) (v := ?_) (a' := ?_) (bt 88 9444732965739290427391) rfl rfl (take_ofW HT_.out HW_.out (by kernel_rfl)) (fun _ _ _ h => h) (Or.inl ⟨by rfl, ?_⟩) hHeld ?_ ?_
              rotate_left
              · rintro w' h1_
                subst h1_
                go_simp
                with_reducible rfl
              rotate_left
              · simp only [Act.put, List.setIfInBounds_toArray, List.set_cons_zero, List.set_cons_succ, i64_w, i32_w]
                rfl
              refine run_ [(73, 207), (74, 208), (75, 209), (76, 210), (77, 211), (78, 212)] ?_
              iterate 6 ((first | refine sp_ (v := ?_) (a' := ?_) HT_.out rfl rfl rfl (by kernel_rfl) (fun _ _ _ h => h) ?_ ?_ ?_ | refine sg_ (v := ?_) (a' := ?_) HT_.out rfl rfl (by kernel_rfl) (fun _ _ _ h => h) (by rfl) ?_ ?_ ?_); rotate_left; (· intro w'; go_simp; with_reducible rfl); rotate_left; (· simp only [Act.put, List.setIfInBounds_toArray, List.set_cons_zero, List.set_cons_succ, i64_w, i32_w]; rfl))
              refine rend_ ?_
              refine take_ (i := 79) (N := some 213) (v := ?_) (a' := ?_) (bt 88 1208925819614629174706175) rfl rfl (take_ofW HT_.out HW_.out (by kernel_rfl)) (fun _ _ _ h => h) (Or.inl ⟨by rfl, ?_⟩) hHeld ?_ ?_
              rotate_left
              · rintro w' h1_
                subst h1_
                refine exec_load_mid (x := .tmp 212) ?_ gz 59 ?_ sl _ ((World.rangeAt_drew _ _ _ _).2 (unhide M59)) Tryd.underlying28 rfl (unhide H32)
                all_goals rfl
              rotate_left
              · simp only [Act.put, List.setIfInBounds_toArray, List.set_cons_zero, List.set_cons_succ, i64_w, i32_w]
                rfl
              refine run_ [(80, 214), (81, 215), (82, 216), (83, 217), (84, 218)] ?_
              iterate 5 ((first | refine sp_ (v := ?_) (a' := ?_) HT_.out rfl rfl rfl (by kernel_rfl) (fun _ _ _ h => h) ?_ ?_ ?_ | refine sg_ (v := ?_) (a' := ?_) HT_.out rfl rfl (by kernel_rfl) (fun _ _ _ h => h) (by rfl) ?_ ?_ ?_); rotate_left; (· intro w'; go_simp; with_reducible rfl); rotate_left; (· simp only [Act.put, List.setIfInBounds_toArray, List.set_cons_zero, List.set_cons_succ, i64_w, i32_w]; rfl))
              refine rend_ ?_
              refine take_ (i := 85) (N := some 219) (v := ?_) (a' := ?_) (bt 88 77371252455336267181195263) rfl rfl (take_ofW HT_.out HW_.out (by kernel_rfl)) (fun _ _ _ h => h) (Or.inl ⟨by rfl, ?_⟩) hHeld ?_ ?_
              rotate_left
              · rintro w' h1_
                subst h1_
                refine exec_load_mid (x := .tmp 218) ?_ G8 (nn * 91 + 59) ?_ sl _ ((World.rangeAt_drew _ _ _ _).2 (unhide L59)) Tryd.underlying28 rfl (unhide H32)
                all_goals rfl
              rotate_left
              · simp only [Act.put, List.setIfInBounds_toArray, List.set_cons_zero, List.set_cons_succ, i64_w, i32_w]
                rfl
              have nq := unhide NQ
              refine run_ [(86, 220), (87, 221)] ?_
              iterate 2 ((first | refine sp_ (v := ?_) (a' := ?_) HT_.out rfl rfl rfl (by kernel_rfl) (fun _ _ _ h => h) ?_ ?_ ?_ | refine sg_ (v := ?_) (a' := ?_) HT_.out rfl rfl (by kernel_rfl) (fun _ _ _ h => h) (by rfl) ?_ ?_ ?_); rotate_left; (· intro w'; go_simp; with_reducible rfl); rotate_left; (· simp only [Act.put, List.setIfInBounds_toArray, List.set_cons_zero, List.set_cons_succ, i64_w, i32_w]; rfl))
              refine rend_ ?_
              refine done_ (done_of HT_.out (by kernel_rfl)) ?_
              clear HT_ HW_ hHeld
              clear m0 m1 m2 m3 m52 m56 l0 l1 l2 l3 l52 l56 dn
              have B14 : Hid (Below wI.heap.size wI w13.drew) := below_drew (unhide B13)
              generalize w13.drew = w14 at B14 ⊢
              clear B13 KV1 KV2 NQ M59 L59 H32 nq
              go_wp2
              go_roundg (gk - 1)
              case measure => have := unhide HY; have := unhide HLT2; omega
              case rel => exact ⟨y + 1, nn + 1, by first | exact congrArg (Value.int .i64) (unhide E1) | exact congrArg (Value.int .i64) (by omega), by first | exact congrArg (Value.int .i64) (unhide E2) | exact congrArg (Value.int .i64) (by omega), by have := unhide HY; have := unhide HLT2; show _ ∧ _; omega, B14⟩
            · have hym : y = m := by have := unhide HY; omega
              have hnn : nn = k + m := by have := unhide HY; omega
              have d1 : ¬ (y : Int) < (m : Int) := by omega
              have e1 : wrap64 ((a : Int) + (p : Int)) = (ap : Int) := by have := unhide HP; have := unhide HLT; have := unhide HNBL; have := unhide HAP; rw [w64 _ (by omega) (by omega)]; omega
              have HNN := hide hnn
              have E1 := hide e1
              clear hym hnn hlt
              go_wp2
              go_roundg (NB - ap)
              case measure => have := unhide HP; have := unhide HLT; have := unhide HAP; have h := (unhide HA).1; omega
              case rel =>
                refine ⟨ap, nn, A13, n13, c13, r13, rest', rfl, by first | exact congrArg (Value.int .i64) (unhide E1) | exact congrArg (Value.int .i64) (by omega), ⟨rfl, by have := unhide HP; have := unhide HLT; have := unhide HAP; omega, by rw [unhide HWL]; have := unhide HMK; have := unhide HNN; omega⟩, ⟨?_, unhide HBEG, fun hd => ?_⟩, ⟨blk_below (unhide FI).1 (unhide HBJ), Kd.R_below (unhide FI).2 (unhide HBJ)⟩, below_step (unhide BI) (unhide HBJ)⟩
                · have hqd : b.drop ap = b.drop q := by
                    have h1 := unhide HQ
                    have h2 := unhide HAP
                    by_cases h3 : ap ≤ NB
                    · rw [show q = ap by omega]
                    · rw [List.drop_of_length_le (by rw [← unhide HNB]; omega), List.drop_of_length_le (by rw [← unhide HNB]; omega)]
                  rw [hqd, unhide HNN, ← List.drop_drop]
                  exact unhide HNEXT
                · have h1 : b.drop q = [] := List.drop_of_length_le (by
                    have h2 := List.drop_eq_nil_iff.1 hd
                    have h3 := unhide HQ
                    have h4 := unhide HAP
                    rw [← unhide HNB] at h2 ⊢
                    omega)
                  obtain ⟨h2, h3⟩ := (unhide HEND) h1
                  rw [List.length_drop, unhide HJL] at h2
                  exact ⟨by rw [unhide HNN, unhide HWL, h2]; have := (unhide HA).2.2; have := unhide HWL; omega, h3⟩
        · have hda : b.drop a = [] := List.drop_of_length_le (by rw [← unhide HNB]; omega)
          obtain ⟨hkl, hre⟩ := (unhide HE).2.2 hda
          have hkt : k = tt := by rw [hkl]; exact unhide HWL
          rw [hre] at HF
          have hn10 : n10 = 0 := (Kd.R_reads' (unhide HF).2).1
          subst hn10
          have d1 : ¬ (a : Int) < (NB : Int) := by omega
          have F15 : Hid (Fr.Fd ((wr.alloc (.cells #[.slice none 0 0, .int .i64 0, .nilIface] 47)).alloc (.cells (bys [88, 1, 120]) 5 (3, 4))) wr.heap.size (.slice none 0 0) 0) := blk_alloc (blk_new _ _) _
          have B15 : Hid (Below wr.heap.size wr ((wr.alloc (.cells #[.slice none 0 0, .int .i64 0, .nilIface] 47)).alloc (.cells (bys [88, 1, 120]) 5 (3, 4)))) := below_alloc (below_alloc (Below.refl _ _) _) _
          have C15 : Hid (Kd.C (Kd.int .u8) ((wr.alloc (.cells #[.slice none 0 0, .int .i64 0, .nilIface] 47)).alloc (.cells (bys [88, 1, 120]) 5 (3, 4))) (some ⟨wr.heap.size + 1, 0, none⟩) 3 [88, 1, 120]) := by
            have h := lit_C (wr.alloc (.cells #[.slice none 0 0, .int .i64 0, .nilIface] 47)) [88, 1, 120] (3, 4) (by decide)
            rw [World.size_alloc] at h
            exact h
          have kc := Lib.run_convert_bytes_const (P := Tryd.prog) (wr.alloc (.cells #[.slice none 0 0, .int .i64 0, .nilIface] 47)) 22 5 #[.int .u8 88, .int .u8 1, .int .u8 120] 3 3 Tryd.underlying22 Tryd.underlying5
          rw [World.size_alloc] at kc
          have FE := hide (unhide HF).1
          have BR := hide (below_step (unhide B9) (unhide HB))
          have HKT := hide hkt
          clear hda hkl hre hkt hlt HF HE HB HA
          go_wp2_with fail
          clear kc
          show Calls _ _ _ ((wr.alloc (.cells #[.slice none 0 0, .int .i64 0, .nilIface] 47)).alloc (.cells (bys [88, 1, 120]) 5 (3, 4))) _
          generalize (wr.alloc (.cells #[.slice none 0 0, .int .i64 0, .nilIface] 47)).alloc (.cells (bys [88, 1, 120]) 5 (3, 4)) = w15 at F15 B15 C15 ⊢
          refine (add_ok_m wr.heap.size wr.heap.size (some ⟨wr.heap.size + 1, 0, none⟩) 3 3 [] [88, 1, 120] none 0 0 0 [(11, [120])] 1 [] w15 rfl (unhide F15) (Kd.R_nil _ _ _ _ _) (unhide C15) js_bad (fun j hj => by rw [List.mem_singleton.1 hj]; exact ⟨by decide, by decide, by decide⟩) (.inl rfl) (by decide) (by decide) (Nat.le_refl _) (by decide)).mono ?_
          rintro e w16 ⟨A16, c16, rfl, hT16, -, hB16⟩
          have T16 := hide hT16
          have FE16 : Hid (Fr.Fd w16 g (.slice A10 0 c10) r10) := (hB16.block g (blk_lt (unhide FE))).trans (blk_below (unhide FE) (unhide B15))
          have B16 : Hid (Below w.heap.size w w16) := (below_step (unhide BR) (unhide B15)).trans (hB16.mono (unhide BR).size)
          clear hT16 hB16 FE F15 C15 B15 BR
          go_wp2
          go_loopg [229] 1 (fun kq v229 wr => ∃ (z : Nat), v229 = .int .i64 (z : Int) ∧ Hid (z + kq = 1) ∧ Hid (Below w16.heap.size w16 wr))
          case atStart => exact ⟨0, rfl, rfl, Below.refl _ _⟩
          case round =>
            obtain ⟨z, rfl, HZ, HBZ⟩ := hrel
            by_cases hz : z < 1
            · obtain rfl : z = 0 := by omega
              obtain ⟨gf, rfl, hrow⟩ := (unhide T16) (by decide)
              obtain ⟨A17, c17, hl17, ⟨g0, g1, g2⟩, hC17⟩ := hrow 0 _ rfl
              have g0' : wr.cell? ⟨gf, 0, none⟩ = some (.int .i64 11) := pw_cell_below (unhide HBZ) (by simpa [frv] using g0)
              have g1' : wr.cell? ⟨gf, 1, none⟩ = some (.int .i64 0) := pw_cell_below (unhide HBZ) (by simpa [frv] using g1)
              have g2' : wr.cell? ⟨gf, 2, none⟩ = some (.slice A17 1 c17) := pw_cell_below (unhide HBZ) (by simpa [frv] using g2)
              have HC17 := hide (Kd.C_alloc (Kd.C_below hC17 (unhide HBZ)) (.cells #[.int .i64 11, .int .i64 0, .slice A17 1 c17] 51))
              have HL17 := hide hl17
              clear hrow g0 g1 g2 hC17 hl17 hz
              go_wp2_with fail
              refine (wread_bad A17 c17 [120] _ rfl (unhide HC17) (unhide HL17)).mono ?_
              rintro e w17 ⟨f, at_, rfl, hf, hb17⟩
              have SZ : Hid ((Tryd.prog.info? 38).map (·.size) = some (wz 0).toArray.size) := size38
              have SO : Hid (Tryd.zeroCells38.size = (wz 0).toArray.size) := by show _ = _; kernel_rfl
              have ONE : Hid ((wz 0).toArray.all (·.oneCell') = true) := by show _ = _; kernel_rfl
              have hb18 : Below wr.heap.size wr (w17.alloc (.cells (wz 0).toArray 38)) := below_alloc (below_step (below_alloc (Below.refl _ _) _) hb17) _
              have B18 := hide (below_step (unhide HBZ) hb18)
              have F18 : Hid (Flt (w17.alloc (.cells (wz 0).toArray 38)) f at_ 31) := blk_alloc hf _
              clear hb18 hb17 hf g0' g1' g2' HC17 HL17 HBZ
              go_wp2_with (refine wpList_store_row rfl 38 (.tmp 24) (.tmp 236) rfl w17.heap.size (wz 0).toArray rfl rfl 38 _ (blk_new w17 _) (unhide SZ) (unhide SO) (unhide ONE) ?_; rw [World.setRow_alloc_new])
              generalize w17.alloc (.cells (wz 0).toArray 38) = w18 at B18 F18 ⊢
              refine (number_fault f at_ 31 w18 (unhide F18) (pw_cell_below (below_step (unhide B16) (unhide B18)) (unhide HG))).mono ?_
              rintro e w19 ⟨rfl, hb19⟩
              have B19 := hide (below_step (unhide B18) hb19)
              clear hb19 B18 F18 SZ SO ONE
              go_wp2
              go_roundg 0
              case measure => have := unhide HZ; omega
              case rel => exact ⟨1, rfl, rfl, unhide B19⟩
            · have d1 : ¬ (z : Int) < 1 := by omega
              have hkt := unhide HKT
              subst hkt
              have FEE := blk_below (unhide FE16) (unhide HBZ)
              have BE := below_step (unhide B16) (unhide HBZ)
              clear hz
              go_wp2_with fail
              refine (feed_end g A10 c10 r10 _ FEE).mono ?_
              rintro e w20 ⟨rfl, rfl⟩
              go_wp2
              go_ret
              exact ⟨rfl, BE⟩
end Go.Proofs.YtgoephcembgmcaaDoor.Wd
