import Derived.Test.YtjdkeicjhmdcfaaWk2
set_option linter.unusedSimpArgs false
set_option linter.unusedVariables false
namespace Go.Proofs.Ytjdkeicjhmdcfaa.WkOf
open Go.RowKit Go.Proofs.YtjdkeicjhmdcfaaW.PrintWords Go.Proofs.YtjdkeicjhmdcfaaW.PrintLast Go.Proofs.YtjdkeicjhmdcfaaW.PrintMore Go.Proofs.Ytjdkeicjhmdcfaa.WkM Go.Proofs.Ytjdkeicjhmdcfaa.Wk
attribute [local go_sem] max2_int min2_int max_two min_two

def T7_12 : Bool × List (List Nat × List Nat) := (true, [([], []), ([], []), ([1], [1]), ([0, 2], [0, 2]), ([3, 2], [3]), ([4], [4]), ([5, 4, 4], [4, 5]), ([6, 4], [4, 6]), ([4], [4]), ([8, 4], [4, 8]), ([9, 6, 4], [4, 9]), ([7, 10, 4], [4, 7, 10]), ([4, 11], [4, 11]), ([12, 10], [12]), ([13, 13], [13]), ([14, 14, 13], [13, 14]), ([15, 13], [13, 15]), ([13, 16], [13, 16]), ([17, 15, 0, 1, 2, 3, 4, 5, 6, 7, 8, 9, 10, 11, 12, 13, 14, 15, 16, 17], [17])])
def BT7_12 : List Nat := [0, 0, 2, 7, 15, 31, 63, 127, 31, 287, 895, 2047, 4095, 8191, 16383, 32767, 65535, 131071, 262143]
theorem tabT7_12 : rtab .any (opsOf Try.f7 12) = T7_12 := by kernel_rfl
theorem bitsT7_12 : waitsOk T7_12.2 BT7_12 = true := by kernel_rfl

theorem cut_any (A0 : Option Addr) (c0 : Nat) (l : List Int) (m : Nat) (w : World) (hr : Kd.C (Kd.int .u8) w A0 l.length l) (hc : l.length ≤ c0) (hm : m ≤ l.length) :
    (∀ W : World, (Instr.slice 23 (.slice A0 l.length c0) none (some (.int .i64 (m : Int))) none).run Try.prog W = .ok (.slice A0 (l.take m).length c0) W) ∧ Kd.C (Kd.int .u8) w A0 (l.take m).length (l.take m) ∧ (l.take m).length ≤ c0 := by
  obtain ⟨i0, hi, _, hsz, _⟩ := info_parts (show (Try.prog.info? 5).map (fun i => (i.zero, i.size, i.bytes)) = some (some (.int .u8 0), 1, 1) from by kernel_rfl)
  obtain ⟨h1, h2, h3⟩ := print_take_of (P := Try.prog) (Value.int .u8) 0 23 5 .i64 Try.underlying23 hi hsz A0 c0 l (m : Int) (by omega) (by omega) hc
  rw [Int.toNat_natCast] at h1 h2 h3
  exact ⟨h1, Kd.C_of_reads (h1 := fun _ => rfl) (h2 _ (Kd.reads_of_C hr)), h3⟩

theorem law_any (A0 : Option Addr) (c0 : Nat) (l : List Int) (w : World) (hr0 : Kd.C (Kd.int .u8) w A0 l.length l) (hc0 : l.length ≤ c0) (hl0 : Bytes l) :
    Calls Try.prog 7 #[.slice A0 l.length c0] w fun e w' => e = .returned (.bool true) ∧ Below w.heap.size w w' := by
  have hu53 := Try.underlying53
  obtain ⟨m, hm, hm1, hm2⟩ : ∃ m : Nat, (if 2000 < (l.length : Int) then 2000 else (l.length : Int)) = (m : Int) ∧ m ≤ l.length ∧ m ≤ 2000 := by
    by_cases h : 2000 < (l.length : Int)
    · exact ⟨2000, by rw [if_pos h]; rfl, by omega, by omega⟩
    · exact ⟨l.length, by rw [if_neg h], by omega, by omega⟩
  obtain ⟨hcut, hr, hc⟩ := cut_any A0 c0 l m w hr0 hc0 hm1
  have hl := hl0.take m
  have hn : (l.take m).length ≤ 2000 := by simp; omega
  generalize l.take m = b at hcut hr hc hl hn
  have HR := hide hr
  have HL := hide hl
  clear hr hl hr0 hl0
  go_enter Try.func7, Try.ntmps7
  go_wp2_with fail
  refine (rolls_any _).mono ?_
  rintro e w1 ⟨rfl, hb⟩
  have HB := hide hb
  clear hb
  go_wp2
  go_loopg [15] b.length (fun kq v15 wr => ∃ (i : Nat), v15 = .int .i64 (i : Int) ∧ Hid (i + kq = b.length) ∧ Hid (Box wr w1.heap.size (St (b.take i)) ∧ Below w.heap.size w wr))
  case atStart =>
    refine ⟨0, rfl, Nat.zero_add _, ?_, below_alloc (unhide HB) _⟩
    rw [List.take_zero, St_nil]
    exact blk_new _ _
  case round =>
    obtain ⟨i, rfl, HK, HREL⟩ := hrel
    obtain ⟨b1, hbel⟩ := unhide HREL
    have g1 : w.heap.size ≤ w1.heap.size := (unhide HB).size
    by_cases hlt : i < b.length
    · obtain ⟨⟨c10, c11, c12⟩, ⟨f10, f11, f12⟩, z1⟩ := box3 b1
      obtain ⟨ad, rfl, hx⟩ := Kd.at_int (unhide HR) (i : Int) (by omega) (by omega)
      replace hx := (hbel.cell (World.block_lt_of_cell? w _ hx)).trans hx
      rw [Int.toNat_natCast] at hx
      have B1 := hide b1
      have HB2 := hide hbel
      have HT := hide (take_snoc b i hlt)
      have e1 : (((b.take i ++ [rd b (i : Int)]).length : Int) != (i : Int) + 1) = false := by simp; omega
      clear b1 hbel HREL
      go_wp2_with fail
      refine (in_St (b.take i) (rd b (i : Int)) _ ((unhide HL).rd_ _)).mono ?_
      rintro e w2 ⟨rfl, hb⟩
      obtain ⟨⟨d10, d11, d12⟩, ⟨e10, e11, e12⟩, z2⟩ := box3 ((unhide B1).below hb)
      have N1 := hide ((unhide B1).below hb)
      have NB := hide (below_step (unhide HB2) hb)
      clear hb
      go_wp2_with fail
      refine (size_St (b.take i ++ [rd b (i : Int)]) _ (by simp; omega)).mono ?_
      rintro e w3 ⟨rfl, hb⟩
      have M1 := hide (Box.below ((unhide N1).put _) hb)
      have MB := hide (below_step (below_set (below_set (below_set (unhide NB) g1) g1) g1) hb)
      clear hb
      go_wp2
      go_roundg (gk - 1)
      case measure => have := unhide HK; omega
      case rel =>
        refine ⟨i + 1, by go_num, by have := unhide HK; show i + 1 + (gk - 1) = b.length; omega, ?_, unhide MB⟩
        rw [unhide HT]
        exact unhide M1
    · have e : b.take i = b := List.take_of_length_le (by omega)
      rw [e] at b1
      clear e HREL
      have P0 : Hid (Box wr.drew w1.heap.size (St b)) := b1
      have NB0 := hide (below_drew1 hbel)
      have C0 : Hid (Kd.C (Kd.int .u8) wr.drew A0 b.length b) := Kd.C_below (unhide HR) (below_drew1 hbel)
      have eqs := eq53
      have hw2 : wrap64 (val b) = val b := w64 _ (by unfold val; omega) (by unfold val; omega)
      have hw1 : IntKind.i64.wrap (val b) = val b := (i64_w _).trans hw2
      have hvn : (val [] == 0) = true := by decide +kernel
      clear b1 hbel
      go_wp2
      refine start_ (n := 19) (S := fun w' => Box w' w1.heap.size (St b) ∧ Kd.C (Kd.int .u8) w' A0 b.length b) (ds := []) #[false, false, false, false, false, false, false, false, false, false, false, false, false, false, false, false, false, false, false] (by kernel_rfl) rfl rfl ⟨unhide P0, unhide C0⟩ (fun hHeld => ?_)
      refine with_tabW tabT7_12 bitsT7_12 (fun HT_ HW_ => ?_)
      refine take_ (i := 0) (N := some 29) (v := ?_) (a' := ?_) #[true, false, false, false, false, false, false, false, false, false, false, false, false, false, false, false, false, false, false] rfl rfl (take_ofW HT_.out HW_.out (by kernel_rfl)) (fun _ _ _ h => h) (Or.inl ⟨by rfl, ?_⟩) hHeld ?_ ?_
      rotate_left
      · rintro w' ⟨h1_, h2_⟩
        obtain ⟨⟨_, _, _⟩, _, _⟩ := box3 h1_
        have hcv := Kd.C_string (P := Try.prog) (A := A0) (c := c0) Try.underlying23 Try.underlying5 Try.underlying9 h2_
        go_simp
        with_reducible rfl
      rotate_left
      · simp only [Act.put, List.setIfInBounds_toArray, List.set_cons_zero, List.set_cons_succ, i64_w, i32_w]
        rfl
      refine pure_ (i := 1) (N := some 30) (v := ?_) (a' := ?_) #[true, true, false, false, false, false, false, false, false, false, false, false, false, false, false, false, false, false, false] rfl rfl (any_of HT_.out (by kernel_rfl)) (fun _ _ _ h => h) (Or.inl ⟨by rfl, ?_⟩) ?_ ?_
      rotate_left
      · intro w'
        go_simp
        with_reducible rfl
      rotate_left
      · simp only [Act.put, List.setIfInBounds_toArray, List.set_cons_zero, List.set_cons_succ, i64_w, i32_w]
        rfl
      refine one_ (i := 2) (N := some 31) #[true, true, true, false, false, false, false, false, false, false, false, false, false, false, false, false, false, false, false] rfl rfl (one_of HT_.out (by kernel_rfl)) (by decide) (fun K hK => ?_)
      refine goes_ Try.func32 (by kernel_rfl) rfl #[.slice A0 b.length c0] (by rfl) rfl rfl (by (try simp only [List.map_toArray, List.map_cons, List.map_nil]); first | done | rfl) ?_
      refine (of_any A0 c0 b _ (unhide C0) hc (unhide HL) (by omega)).mono ?_
      rintro e w10 ⟨rfl, hb⟩
      refine ⟨_, rfl, ?_⟩
      have NB1 := hide (below_step (unhide NB0) hb)
      have P1 := hide ((unhide P0).below hb)
      have C1 := hide (Kd.C_below (unhide C0) hb)
      clear hb NB0 P0 C0
      refine hK.out _ _ ⟨unhide P1, unhide C1⟩ (fun hHeld => ?_)
      clear hK K
      refine norm_ (a' := ?_) ?_ ?_
      rotate_left
      · show Act.put _ (some 31) _ = _
        simp only [Act.put, List.setIfInBounds_toArray, List.set_cons_zero, List.set_cons_succ, i64_w, i32_w]
        rfl
      refine pure_ (i := 3) (N := some 32) (v := ?_) (a' := ?_) #[true, true, true, true, false, false, false, false, false, false, false, false, false, false, false, false, false, false, false] rfl rfl (any_of HT_.out (by kernel_rfl)) (fun _ _ _ h => h) (Or.inl ⟨by rfl, ?_⟩) ?_ ?_
      rotate_left
      · intro w'
        go_simp
        with_reducible rfl
      rotate_left
      · simp only [Act.put, List.setIfInBounds_toArray, List.set_cons_zero, List.set_cons_succ, i64_w, i32_w]
        rfl
      refine pure_ (i := 4) (N := some 33) (v := ?_) (a' := ?_) #[true, true, true, true, true, false, false, false, false, false, false, false, false, false, false, false, false, false, false] rfl rfl (any_of HT_.out (by kernel_rfl)) (fun _ _ _ h => h) (Or.inl ⟨by rfl, ?_⟩) ?_ ?_
      rotate_left
      · intro w'
        go_simp
        with_reducible rfl
      rotate_left
      · simp only [Act.put, List.setIfInBounds_toArray, List.set_cons_zero, List.set_cons_succ, i64_w, i32_w]
        rfl
      refine take_ (i := 5) (N := some 34) (v := ?_) (a' := ?_) #[true, true, true, true, true, true, false, false, false, false, false, false, false, false, false, false, false, false, false] rfl rfl (take_ofW HT_.out HW_.out (by kernel_rfl)) (fun _ _ _ h => h) (Or.inl ⟨by rfl, ?_⟩) hHeld ?_ ?_
      rotate_left
      · rintro w' ⟨h1_, h2_⟩
        obtain ⟨⟨_, _, _⟩, _, _⟩ := box3 h1_
        have hcv := Kd.C_string (P := Try.prog) (A := A0) (c := c0) Try.underlying23 Try.underlying5 Try.underlying9 h2_
        go_simp
        with_reducible rfl
      rotate_left
      · simp only [Act.put, List.setIfInBounds_toArray, List.set_cons_zero, List.set_cons_succ, i64_w, i32_w]
        rfl
      refine pure_ (i := 8) (N := some 37) (v := ?_) (a' := ?_) #[true, true, true, true, true, true, false, false, true, false, false, false, false, false, false, false, false, false, false] rfl rfl (any_of HT_.out (by kernel_rfl)) (fun _ _ _ h => h) (Or.inl ⟨by rfl, ?_⟩) ?_ ?_
      rotate_left
      · intro w'
        go_simp
        with_reducible rfl
      rotate_left
      · simp only [Act.put, List.setIfInBounds_toArray, List.set_cons_zero, List.set_cons_succ, i64_w, i32_w]
        rfl
      refine take_ (i := 9) (N := some 38) (v := ?_) (a' := ?_) #[true, true, true, true, true, true, false, false, true, true, false, false, false, false, false, false, false, false, false] rfl rfl (take_ofW HT_.out HW_.out (by kernel_rfl)) (fun _ _ _ h => h) (Or.inl ⟨by rfl, ?_⟩) hHeld ?_ ?_
      rotate_left
      · rintro w' ⟨h1_, h2_⟩
        obtain ⟨⟨_, _, _⟩, _, _⟩ := box3 h1_
        have hcv := Kd.C_string (P := Try.prog) (A := A0) (c := c0) Try.underlying23 Try.underlying5 Try.underlying9 h2_
        go_simp
        with_reducible rfl
      rotate_left
      · simp only [Act.put, List.setIfInBounds_toArray, List.set_cons_zero, List.set_cons_succ, i64_w, i32_w]
        rfl
      refine one_ (i := 6) (N := some 35) #[true, true, true, true, true, true, true, false, true, true, false, false, false, false, false, false, false, false, false] rfl rfl (one_of HT_.out (by kernel_rfl)) (by decide) (fun K hK => ?_)
      refine goes_ Try.func33 (by kernel_rfl) rfl #[.agg #[.int .u32 (St b).1, .int .u32 (St b).2.1, .int .u32 (St b).2.2]] (by rfl) rfl rfl (by (try simp only [List.map_toArray, List.map_cons, List.map_nil]); first | done | rfl) ?_
      refine (value_St b _).mono ?_
      rintro e w11 ⟨rfl, hb⟩
      refine ⟨_, rfl, ?_⟩
      have NB2 := hide (below_step (unhide NB1) hb)
      have P2 := hide ((unhide P1).below hb)
      have C2 := hide (Kd.C_below (unhide C1) hb)
      clear hb NB1 P1 C1
      refine hK.out _ _ ⟨unhide P2, unhide C2⟩ (fun hHeld => ?_)
      clear hK K
      refine norm_ (a' := ?_) ?_ ?_
      rotate_left
      · show Act.put _ (some 35) _ = _
        simp only [Act.put, List.setIfInBounds_toArray, List.set_cons_zero, List.set_cons_succ, i64_w, i32_w]
        rfl
      refine pure_ (i := 7) (N := some 36) (v := ?_) (a' := ?_) #[true, true, true, true, true, true, true, true, true, true, false, false, false, false, false, false, false, false, false] rfl rfl (any_of HT_.out (by kernel_rfl)) (fun _ _ _ h => h) (Or.inl ⟨by rfl, ?_⟩) ?_ ?_
      rotate_left
      · intro w'
        go_simp
        with_reducible rfl
      rotate_left
      · simp only [Act.put, List.setIfInBounds_toArray, List.set_cons_zero, List.set_cons_succ, i64_w, i32_w]
        rfl
      refine one_ (i := 10) (N := some 39) #[true, true, true, true, true, true, true, true, true, true, true, false, false, false, false, false, false, false, false] rfl rfl (one_of HT_.out (by kernel_rfl)) (by decide) (fun K hK => ?_)
      refine goes_ Try.func34 (by kernel_rfl) rfl #[.string (strOfNums b)] (by rfl) rfl rfl (by (try simp only [List.map_toArray, List.map_cons, List.map_nil]); first | done | rfl) ?_
      refine (ref_any (strOfNums b) _ (by rw [strOfNums_size]; exact hn)).mono ?_
      rintro e w13 ⟨rfl, rfl⟩
      refine ⟨_, rfl, ?_⟩
      rw [bytesOf_str (unhide HL)]
      refine hK.out _ _ ⟨unhide P2, unhide C2⟩ (fun hHeld => ?_)
      clear hK K
      refine norm_ (a' := ?_) ?_ ?_
      rotate_left
      · show Act.put _ (some 39) _ = _
        simp only [Act.put, List.setIfInBounds_toArray, List.set_cons_zero, List.set_cons_succ, i64_w, i32_w]
        rfl
      refine pure_ (i := 11) (N := some 40) (v := ?_) (a' := ?_) #[true, true, true, true, true, true, true, true, true, true, true, true, false, false, false, false, false, false, false] rfl rfl (any_of HT_.out (by kernel_rfl)) (fun _ _ _ h => h) (Or.inl ⟨by rfl, ?_⟩) ?_ ?_
      rotate_left
      · intro w'
        go_simp
        with_reducible rfl
      rotate_left
      · simp only [Act.put, List.setIfInBounds_toArray, List.set_cons_zero, List.set_cons_succ, i64_w, i32_w]
        rfl
      refine pure_ (i := 12) (N := some 41) (v := ?_) (a' := ?_) #[true, true, true, true, true, true, true, true, true, true, true, true, true, false, false, false, false, false, false] rfl rfl (any_of HT_.out (by kernel_rfl)) (fun _ _ _ h => h) (Or.inl ⟨by rfl, ?_⟩) ?_ ?_
      rotate_left
      · intro w'
        go_simp
        with_reducible rfl
      rotate_left
      · simp only [Act.put, List.setIfInBounds_toArray, List.set_cons_zero, List.set_cons_succ, i64_w, i32_w]
        rfl
      refine pure_ (i := 13) (N := some 42) (v := ?_) (a' := ?_) #[true, true, true, true, true, true, true, true, true, true, true, true, true, true, false, false, false, false, false] rfl rfl (any_of HT_.out (by kernel_rfl)) (fun _ _ _ h => h) (Or.inl ⟨by rfl, ?_⟩) ?_ ?_
      rotate_left
      · intro w'
        go_simp
        with_reducible rfl
      rotate_left
      · simp only [Act.put, List.setIfInBounds_toArray, List.set_cons_zero, List.set_cons_succ, i64_w, i32_w]
        rfl
      refine one_ (i := 14) (N := some 43) #[true, true, true, true, true, true, true, true, true, true, true, true, true, true, true, false, false, false, false] rfl rfl (one_of HT_.out (by kernel_rfl)) (by decide) (fun K hK => ?_)
      refine goes_ Try.func32 (by kernel_rfl) rfl #[.slice none 0 0] (by rfl) rfl rfl (by (try simp only [List.map_toArray, List.map_cons, List.map_nil]); first | done | rfl) ?_
      refine (of_any none 0 [] _ (Kd.C_nil _ _) (Nat.le_refl _) (by intro x hx; simp at hx) (by simp)).mono ?_
      rintro e w12 ⟨rfl, hb⟩
      refine ⟨_, rfl, ?_⟩
      have NB3 := hide (below_step (unhide NB2) hb)
      have P3 := hide ((unhide P2).below hb)
      have C3 := hide (Kd.C_below (unhide C2) hb)
      clear hb NB2 P2 C2
      refine hK.out _ _ ⟨unhide P3, unhide C3⟩ (fun hHeld => ?_)
      clear hK K
      refine norm_ (a' := ?_) ?_ ?_
      rotate_left
      · show Act.put _ (some 43) _ = _
        simp only [Act.put, List.setIfInBounds_toArray, List.set_cons_zero, List.set_cons_succ, i64_w, i32_w]
        rfl
      refine one_ (i := 15) (N := some 44) #[true, true, true, true, true, true, true, true, true, true, true, true, true, true, true, true, false, false, false] rfl rfl (one_of HT_.out (by kernel_rfl)) (by decide) (fun K hK => ?_)
      refine goes_ Try.func33 (by kernel_rfl) rfl #[.agg #[.int .u32 (St []).1, .int .u32 (St []).2.1, .int .u32 (St []).2.2]] (by rfl) rfl rfl (by (try simp only [List.map_toArray, List.map_cons, List.map_nil]); first | done | rfl) ?_
      refine (value_St [] _).mono ?_
      rintro e w13 ⟨rfl, hb⟩
      refine ⟨_, rfl, ?_⟩
      have NB4 := hide (below_step (unhide NB3) hb)
      have P4 := hide ((unhide P3).below hb)
      have C4 := hide (Kd.C_below (unhide C3) hb)
      clear hb NB3 P3 C3
      refine hK.out _ _ ⟨unhide P4, unhide C4⟩ (fun hHeld => ?_)
      clear hK K
      refine norm_ (a' := ?_) ?_ ?_
      rotate_left
      · show Act.put _ (some 44) _ = _
        simp only [Act.put, List.setIfInBounds_toArray, List.set_cons_zero, List.set_cons_succ, i64_w, i32_w]
        rfl
      refine pure_ (i := 16) (N := some 45) (v := ?_) (a' := ?_) #[true, true, true, true, true, true, true, true, true, true, true, true, true, true, true, true, true, false, false] rfl rfl (any_of HT_.out (by kernel_rfl)) (fun _ _ _ h => h) (Or.inl ⟨by rfl, ?_⟩) ?_ ?_
      rotate_left
      · intro w'
        go_simp
        with_reducible rfl
      rotate_left
      · simp only [Act.put, List.setIfInBounds_toArray, List.set_cons_zero, List.set_cons_succ, i64_w, i32_w]
        rfl
      refine pure_ (i := 17) (N := some 46) (v := ?_) (a' := ?_) #[true, true, true, true, true, true, true, true, true, true, true, true, true, true, true, true, true, true, false] rfl rfl (any_of HT_.out (by kernel_rfl)) (fun _ _ _ h => h) (Or.inl ⟨by rfl, ?_⟩) ?_ ?_
      rotate_left
      · intro w'
        go_simp
        with_reducible rfl
      rotate_left
      · simp only [Act.put, List.setIfInBounds_toArray, List.set_cons_zero, List.set_cons_succ, i64_w, i32_w]
        rfl
      refine pure_ (i := 18) (N := some 2) (v := ?_) (a' := ?_) #[true, true, true, true, true, true, true, true, true, true, true, true, true, true, true, true, true, true, true] rfl rfl (any_of HT_.out (by kernel_rfl)) (fun _ _ _ h => h) (Or.inl ⟨by rfl, ?_⟩) ?_ ?_
      rotate_left
      · intro w'
        go_simp
        with_reducible rfl
      rotate_left
      · simp only [Act.put, List.setIfInBounds_toArray, List.set_cons_zero, List.set_cons_succ, i64_w, i32_w]
        rfl
      refine done_ (done_of HT_.out (by kernel_rfl)) ?_
      go_wp2
      go_ret
      exact ⟨rfl, unhide NB4⟩

end Go.Proofs.Ytjdkeicjhmdcfaa.WkOf
