import Derived.Test.YtjdkeicjhmdcfaaWk3
set_option linter.unusedSimpArgs false
set_option linter.unusedVariables false
namespace Go.Proofs.Ytjdkeicjhmdcfaa.WkRol
open Go.RowKit Go.Proofs.YtjdkeicjhmdcfaaW.PrintWords Go.Proofs.YtjdkeicjhmdcfaaW.PrintLast Go.Proofs.YtjdkeicjhmdcfaaW.PrintMore Go.Proofs.Ytjdkeicjhmdcfaa.WkM Go.Proofs.Ytjdkeicjhmdcfaa.Wk
attribute [local go_sem] max2_int min2_int max_two min_two

def T8_10 : Bool × List (List Nat × List Nat) := (true, [([], []), ([], []), ([], []), ([1, 2], [1, 2]), ([3], [3]), ([], []), ([], []), ([], []), ([6, 7], [6, 7]), ([5, 8], [5, 8]), ([9], [9]), ([0, 4, 10], [0, 4, 10]), ([11, 11, 0, 1, 2, 3, 4, 5, 6, 7, 8, 9, 10, 11], [11])])
def BT8_10 : List Nat := [0, 0, 0, 6, 14, 0, 0, 0, 192, 480, 992, 2047, 4095]
theorem tabT8_10 : rtab .any (opsOf Try.f8 10) = T8_10 := by kernel_rfl
theorem bitsT8_10 : waitsOk T8_10.2 BT8_10 = true := by kernel_rfl
def T8_11 : Bool × List (List Nat × List Nat) := (true, [([], []), ([0], [0]), ([1], [1]), ([], []), ([], []), ([4], [4]), ([], []), ([6], [6]), ([], []), ([7, 8], [7, 8]), ([3, 5, 9], [3, 5, 9]), ([10], [10]), ([11, 1], [11]), ([2, 12], [2, 12]), ([13, 12], [13]), ([14], [14]), ([15, 14, 14], [14, 15]), ([14], [14]), ([16, 17, 14], [14, 16, 17]), ([14, 18], [14, 18])])
def BT8_11 : List Nat := [0, 1, 3, 0, 0, 16, 0, 64, 0, 448, 1016, 2040, 4091, 8191, 16383, 32767, 65535, 32767, 262143, 524287]
theorem tabT8_11 : rtab .any (opsOf Try.f8 11) = T8_11 := by kernel_rfl
theorem bitsT8_11 : waitsOk T8_11.2 BT8_11 = true := by kernel_rfl

/-- The window goes on by a byte. -/
theorem win (b : List Int) (i sz : Nat) (h0 : 0 < sz) (h : i + sz < b.length) :
    (b.drop i).take sz = rd b (i : Int) :: (b.drop (i + 1)).take (sz - 1) ∧ (b.take (i + 1 + sz)).drop (i + 1) = (b.drop (i + 1)).take (sz - 1) ++ [rd b ((i + sz : Nat) : Int)] ∧ ((b.take (i + 1 + sz)).drop (i + 1)).length = sz ∧ (b.drop (i + 1)).take sz = (b.take (i + 1 + sz)).drop (i + 1) := by
  obtain ⟨n, rfl⟩ : ∃ n, sz = n + 1 := ⟨sz - 1, by omega⟩
  have e : (b.drop (i + 1)).take (n + 1) = (b.take (i + 1 + (n + 1))).drop (i + 1) := by rw [List.drop_take, Nat.add_sub_cancel_left]
  refine ⟨by rw [drop_cons b i (by omega), List.take_succ_cons]; rfl, ?_, by simp; omega, e⟩
  rw [← e, take_snoc _ n (by simp; omega)]
  congr 2
  unfold Go.Proofs.YtjdkeicjhmdcfaaW.PrintWords.rd
  rw [List.getD_eq_getElem?_getD, List.getD_eq_getElem?_getD, List.getElem?_drop]
  congr 2
  omega

/-- Sizes that are no window: the answer is at once. -/
theorem law_not (A0 : Option Addr) (c0 : Nat) (l : List Int) (a1 : Int) (w : World) (hc0 : l.length ≤ c0) (hs : a1 < 1 ∨ (1 ≤ a1 ∧ a1 > ((l.take 300).length : Int))) :
    Calls Try.prog 8 #[.slice A0 l.length c0, .int .i64 a1] w fun e w' => e = .returned (.bool true) ∧ Below w.heap.size w w' := by
  obtain ⟨m, hm, hm1, hm2⟩ := min_as 300 (by omega) l.length
  obtain ⟨hcut, hr, hc⟩ := take_any A0 c0 l m hc0 hm1
  have hlen : (l.take m).length = (l.take 300).length := by simp only [List.length_take]; split at hm <;> omega
  rw [← hlen] at hs
  clear hlen hr
  generalize l.take m = b at hcut hc hs
  rcases hs with hs | ⟨hs1, hs2⟩
  · go_enter Try.func8, Try.ntmps8
    go_wp2_with fail
    refine (rolls_any _).mono ?_
    rintro e w1 ⟨rfl, hb⟩
    have HB := hide hb
    clear hb
    go_wp2
    go_ret
    exact ⟨rfl, unhide HB⟩
  · have n1 : ¬ a1 < 1 := by omega
    go_enter Try.func8, Try.ntmps8
    go_wp2_with fail
    refine (rolls_any _).mono ?_
    rintro e w1 ⟨rfl, hb⟩
    have HB := hide hb
    clear hb
    go_wp2
    go_ret
    exact ⟨rfl, unhide HB⟩

set_option maxHeartbeats 4000000 in
theorem law_yes (A0 : Option Addr) (c0 : Nat) (l : List Int) (sz : Nat) (w : World) (hr0 : Kd.C (Kd.int .u8) w A0 l.length l) (hc0 : l.length ≤ c0) (hl0 : Bytes l) (hs1 : 1 ≤ sz) (hs2 : sz ≤ (l.take 300).length) :
    Calls Try.prog 8 #[.slice A0 l.length c0, .int .i64 (sz : Int)] w fun e w' => e = .returned (.bool true) ∧ Below w.heap.size w w' := by
  have hu53 := Try.underlying53
  obtain ⟨m, hm, hm1, hm2⟩ := min_as 300 (by omega) l.length
  obtain ⟨hcut, hr, hc⟩ := take_any A0 c0 l m hc0 hm1
  replace hr := hr w hr0
  have hl := hl0.take m
  have hn : (l.take m).length ≤ 300 := by simp; omega
  have hs3 : sz ≤ (l.take m).length := by simp only [List.length_take] at hs2 ⊢; split at hm <;> omega
  generalize l.take m = b at hcut hr hc hl hn hs3
  obtain ⟨hcut2, hr2, hc2⟩ := take_any A0 c0 b sz hc hs3
  replace hr2 := hr2 w hr
  have hl2 := hl.take sz
  have hn2 : (b.take sz).length ≤ 100000 := by simp; omega
  have HT0 := hide (show (b.drop 0).take sz = b.take sz by rw [List.drop_zero])
  generalize b.take sz = b2 at hcut2 hr2 hc2 hl2 hn2 HT0
  have HR := hide hr
  have HL := hide hl
  have HR2 := hide hr2
  have HL2 := hide hl2
  have d1 : decide ((sz : Int) < 1) = false := by simp; omega
  have d2 : decide (b.length < sz) = false := by simp; omega
  have q6 : sz ≤ 301 := by omega
  clear hr hl hr0 hl0 hs2 hr2 hl2
  go_enter Try.func8, Try.ntmps8
  go_wp2_with fail
  refine (rolls_any _).mono ?_
  rintro e w1 ⟨rfl, hb⟩
  have HB := hide hb
  clear hb
  go_wp2_with fail
  refine (of_any A0 c0 b2 _ (Kd.C_below (unhide HR2) (unhide HB)) hc2 (unhide HL2) hn2).mono ?_
  rintro e w2 ⟨rfl, hb⟩
  have HB2 := hide (below_step (unhide HB) hb)
  clear hb HB
  go_wp2
  go_loopg [6] b.length (fun kq v6 wr => ∃ (i : Nat), v6 = .int .i64 (i : Int) ∧ Hid (i + sz + kq = b.length + sz) ∧ Hid (i + sz ≤ b.length) ∧ Hid (Box wr w2.heap.size (St ((b.drop i).take sz)) ∧ Below w.heap.size w wr))
  case atStart =>
    refine ⟨0, rfl, by show 0 + sz + b.length = b.length + sz; omega, by show 0 + sz ≤ b.length; omega, ?_, below_alloc (unhide HB2) _⟩
    rw [unhide HT0]
    exact blk_new _ _
  case round =>
    obtain ⟨i, rfl, HK, HI, HREL⟩ := hrel
    obtain ⟨b1, hbel⟩ := unhide HREL
    have g1 : w.heap.size ≤ w2.heap.size := (unhide HB2).size
    have hi := unhide HI
    by_cases hlt : i + sz < b.length
    · obtain ⟨hw1, hw2, hw3, hw4⟩ := win b i sz hs1 hlt
      rw [hw1] at b1
      obtain ⟨ad, rfl, hx⟩ := Kd.at_int (unhide HR) (i : Int) (by omega) (by omega)
      replace hx := (hbel.cell (World.block_lt_of_cell? w _ hx)).trans hx
      rw [Int.toNat_natCast] at hx
      obtain ⟨ad', e', hx'⟩ := Kd.at_int (unhide HR) ((i + sz : Nat) : Int) (by omega) (by omega)
      cases e'
      replace hx' := (hbel.cell (World.block_lt_of_cell? w _ hx')).trans hx'
      rw [Int.toNat_natCast] at hx'
      obtain ⟨A1, hcut1, hr1, hc1⟩ := mid_any (some ad) c0 b (i + 1) (i + 1 + sz) hc (by omega) (by omega)
      have ei : ((i + 1 : Nat) : Int) = (i : Int) + 1 := by omega
      have ei2 : ((i + 1 + sz : Nat) : Int) = (i : Int) + 1 + (sz : Int) := by omega
      rw [ei, ei2] at hcut1
      have HX1 := (unhide HL).rd_ (i : Int)
      have HX2 := (unhide HL).rd_ ((i + sz : Nat) : Int)
      have hlB := ((unhide HL).take (i + 1 + sz)).drop (i + 1)
      have HRO := hide (fun W : World => roll_St (rd b (i : Int)) (rd b ((i + sz : Nat) : Int)) ((b.drop (i + 1)).take (sz - 1)) W HX1 HX2 (by simp; omega))
      rw [← hw2, ← hw1] at HRO
      rw [← hw1] at b1
      generalize hy : (b.take (i + 1 + sz)).drop (i + 1) = y at hcut1 hr1 hc1 hlB hw2 hw3 hw4 HRO
      generalize hx0 : (b.drop i).take sz = x0 at b1 HRO
      generalize rd b (i : Int) = u1 at hx HRO
      generalize rd b ((i + sz : Nat) : Int) = u2 at hx' HRO
      have HZ := hide (fun W : World => size_St y W (by omega))
      rw [hw3] at HZ
      have HLY := hide hlB
      have HW4 := hide hw4
      have q1 : Sm ((i : Int) + 1) := by unfold Sm; omega
      have q2 : Sm ((i : Int) + (sz : Int)) := by unfold Sm; omega
      have q3 : Sm ((i : Int) + 1 + (sz : Int)) := by unfold Sm; omega
      have q4 : (strOfNums y).size ≤ 2000 := by rw [strOfNums_size]; omega
      have q5 : 0 ≤ (i : Int) + (sz : Int) := by omega
      have q7 : (i : Int) + (sz : Int) < (b.length : Int) := by omega
      have q8 : ((i : Int) + (sz : Int)).toNat = i + sz := by omega
      have q9 : i < b.length := by omega
      have P0 : Hid (Box wr.drew w2.heap.size (St x0)) := b1
      have NB0 := hide (below_drew1 hbel)
      have HX := hide hx
      have HX' := hide hx'
      have HC1 := hide hr1
      clear b1 hbel HREL hy hx0 hlB ei ei2 hx hx' hw1 hw2 hw3 hw4 HX1 HX2 hr1 hi
      have r2 := q2.w
      have r2' := q2.i
      go_wp2
      refine start_ (n := 13) (S := fun w' => Box w' w2.heap.size (St x0) ∧ w'.cell? (ad.add i) = some (.int .u8 u1) ∧ w'.cell? (ad.add (i + sz)) = some (.int .u8 u2)) (ds := [12]) #[false, false, false, false, false, false, false, false, false, false, false, false, false] (by kernel_rfl) rfl rfl ⟨unhide P0, unhide HX, unhide HX'⟩ (fun hHeld => ?_)
      refine with_tabW tabT8_10 bitsT8_10 (fun HT_ HW_ => ?_)
      refine take_ (i := 0) (N := some 34) (v := ?_) (a' := ?_) #[true, false, false, false, false, false, false, false, false, false, false, false, false] rfl rfl (take_ofW HT_.out HW_.out (by kernel_rfl)) (fun _ _ _ h => h) (Or.inl ⟨by rfl, ?_⟩) hHeld ?_ ?_
      rotate_left
      · rintro w' ⟨h1_, _, _⟩
        obtain ⟨⟨_, _, _⟩, _, _⟩ := box3 h1_
        go_simp
        with_reducible rfl
      rotate_left
      · simp only [Act.put, List.setIfInBounds_toArray, List.set_cons_zero, List.set_cons_succ, i64_w, i32_w]
        rfl
      refine pure_ (i := 1) (N := some 35) (v := ?_) (a' := ?_) #[true, true, false, false, false, false, false, false, false, false, false, false, false] rfl rfl (any_of HT_.out (by kernel_rfl)) (fun _ _ _ h => h) (Or.inl ⟨by rfl, ?_⟩) ?_ ?_
      rotate_left
      · intro w'
        go_simp
        with_reducible rfl
      rotate_left
      · simp only [Act.put, List.setIfInBounds_toArray, List.set_cons_zero, List.set_cons_succ, i64_w, i32_w]
        rfl
      refine pure_ (i := 2) (N := some 36) (v := ?_) (a' := ?_) #[true, true, true, false, false, false, false, false, false, false, false, false, false] rfl rfl (any_of HT_.out (by kernel_rfl)) (fun _ _ _ h => h) (Or.inl ⟨by rfl, ?_⟩) ?_ ?_
      rotate_left
      · intro w'
        go_simp
        with_reducible rfl
      rotate_left
      · simp only [Act.put, List.setIfInBounds_toArray, List.set_cons_zero, List.set_cons_succ, i64_w, i32_w]
        rfl
      refine pure_ (i := 3) (N := some 37) (v := ?_) (a' := ?_) #[true, true, true, true, false, false, false, false, false, false, false, false, false] rfl rfl (any_of HT_.out (by kernel_rfl)) (fun _ _ _ h => h) (Or.inl ⟨by rfl, ?_⟩) ?_ ?_
      rotate_left
      · intro w'
        go_simp
        with_reducible rfl
      rotate_left
      · simp only [Act.put, List.setIfInBounds_toArray, List.set_cons_zero, List.set_cons_succ, i64_w, i32_w]
        rfl
      refine take_ (i := 4) (N := some 38) (v := ?_) (a' := ?_) #[true, true, true, true, true, false, false, false, false, false, false, false, false] rfl rfl (take_ofW HT_.out HW_.out (by kernel_rfl)) (fun _ _ _ h => h) (Or.inl ⟨by rfl, ?_⟩) hHeld ?_ ?_
      rotate_left
      · rintro w' ⟨h1_, _, _⟩
        obtain ⟨⟨_, _, _⟩, _, _⟩ := box3 h1_
        go_simp
        with_reducible rfl
      rotate_left
      · simp only [Act.put, List.setIfInBounds_toArray, List.set_cons_zero, List.set_cons_succ, i64_w, i32_w]
        rfl
      refine pure_ (i := 5) (N := some 39) (v := ?_) (a' := ?_) #[true, true, true, true, true, true, false, false, false, false, false, false, false] rfl rfl (any_of HT_.out (by kernel_rfl)) (fun _ _ _ h => h) (Or.inl ⟨by rfl, ?_⟩) ?_ ?_
      rotate_left
      · intro w'
        go_simp
        with_reducible rfl
      rotate_left
      · simp only [Act.put, List.setIfInBounds_toArray, List.set_cons_zero, List.set_cons_succ, i64_w, i32_w]
        rfl
      refine pure_ (i := 6) (N := some 40) (v := ?_) (a' := ?_) #[true, true, true, true, true, true, true, false, false, false, false, false, false] rfl rfl (any_of HT_.out (by kernel_rfl)) (fun _ _ _ h => h) (Or.inl ⟨by rfl, ?_⟩) ?_ ?_
      rotate_left
      · intro w'
        go_simp
        with_reducible rfl
      rotate_left
      · simp only [Act.put, List.setIfInBounds_toArray, List.set_cons_zero, List.set_cons_succ, i64_w, i32_w]
        rfl
      refine pure_ (i := 7) (N := some 41) (v := ?_) (a' := ?_) #[true, true, true, true, true, true, true, true, false, false, false, false, false] rfl rfl (any_of HT_.out (by kernel_rfl)) (fun _ _ _ h => h) (Or.inl ⟨by rfl, ?_⟩) ?_ ?_
      rotate_left
      · intro w'
        go_simp
        with_reducible rfl
      rotate_left
      · simp only [Act.put, List.setIfInBounds_toArray, List.set_cons_zero, List.set_cons_succ, i64_w, i32_w]
        rfl
      refine pure_ (i := 8) (N := some 42) (v := ?_) (a' := ?_) #[true, true, true, true, true, true, true, true, true, false, false, false, false] rfl rfl (any_of HT_.out (by kernel_rfl)) (fun _ _ _ h => h) (Or.inl ⟨by rfl, ?_⟩) ?_ ?_
      rotate_left
      · intro w'
        go_simp
        with_reducible rfl
      rotate_left
      · simp only [Act.put, List.setIfInBounds_toArray, List.set_cons_zero, List.set_cons_succ, i64_w, i32_w]
        rfl
      refine pure_ (i := 9) (N := some 43) (v := ?_) (a' := ?_) #[true, true, true, true, true, true, true, true, true, true, false, false, false] rfl rfl (any_of HT_.out (by kernel_rfl)) (fun _ _ _ h => h) (Or.inl ⟨by rfl, ?_⟩) ?_ ?_
      rotate_left
      · intro w'
        go_simp
        with_reducible rfl
      rotate_left
      · simp only [Act.put, List.setIfInBounds_toArray, List.set_cons_zero, List.set_cons_succ, i64_w, i32_w]
        rfl
      refine take_ (i := 10) (N := some 44) (v := ?_) (a' := ?_) #[true, true, true, true, true, true, true, true, true, true, true, false, false] rfl rfl (take_ofW HT_.out HW_.out (by kernel_rfl)) (fun _ _ _ h => h) (Or.inl ⟨by rfl, ?_⟩) hHeld ?_ ?_
      rotate_left
      · rintro w' ⟨h1_, _, _⟩
        obtain ⟨⟨_, _, _⟩, _, _⟩ := box3 h1_
        go_simp
        with_reducible rfl
      rotate_left
      · simp only [Act.put, List.setIfInBounds_toArray, List.set_cons_zero, List.set_cons_succ, i64_w, i32_w]
        rfl
      refine one_ (i := 11) (N := some 45) #[true, true, true, true, true, true, true, true, true, true, true, true, false] rfl rfl (one_of HT_.out (by kernel_rfl)) (by decide) (fun K hK => ?_)
      refine goes_ Try.func35 (by kernel_rfl) rfl #[.agg #[.int .u32 (St x0).1, .int .u32 (St x0).2.1, .int .u32 (St x0).2.2], .int .u8 u1, .int .u8 u2] (by rfl) rfl rfl (by (try simp only [List.map_toArray, List.map_cons, List.map_nil]); first | done | rfl) ?_
      refine (unhide HRO _).mono ?_
      rintro e w10 ⟨rfl, hb⟩
      refine ⟨_, rfl, ?_⟩
      have NB1 := hide (below_step (unhide NB0) hb)
      have P1 := hide ((unhide P0).below hb)
      have D1 := (hb.cell (World.block_lt_of_cell? _ _ (unhide HX))).trans (unhide HX)
      have D2 := (hb.cell (World.block_lt_of_cell? _ _ (unhide HX'))).trans (unhide HX')
      clear hb NB0 P0
      refine hK.out _ _ ⟨unhide P1, D1, D2⟩ (fun hHeld => ?_)
      clear hK K
      refine norm_ (a' := ?_) ?_ ?_
      rotate_left
      · show Act.put _ (some 45) _ = _
        simp only [Act.put, List.setIfInBounds_toArray, List.set_cons_zero, List.set_cons_succ, i64_w, i32_w]
        rfl
      refine last_ (i := 12) (N := none) #[true, true, true, true, true, true, true, true, true, true, true, true, true] rfl rfl (one_of HT_.out (by kernel_rfl)) (by decide) (fun K hK => ?_)
      obtain ⟨⟨_, _, _⟩, ⟨_, _, _⟩, _⟩ := box3 (unhide P1)
      refine skip_ (w1 := ((w10.setCell ⟨w2.heap.size, 0, none⟩ (.int .u32 (St y).1)).setCell ⟨w2.heap.size, 1, none⟩ (.int .u32 (St y).2.1)).setCell ⟨w2.heap.size, 2, none⟩ (.int .u32 (St y).2.2)) (by rfl) rfl ?hrun ?_
      case hrun =>
        first | (go_simp; done) | (go_simp; rfl)
      refine hK.out _ _ ?_
      clear hK K
      refine done_ (done_of HT_.out (by kernel_rfl)) ?_
      have M0 := hide ((unhide P1).put (St y))
      have MB0 := hide (below_set (j := 2) (v := .int .u32 (St y).2.2) (below_set (j := 1) (v := .int .u32 (St y).2.1) (below_set (j := 0) (v := .int .u32 (St y).1) (unhide NB1) g1) g1) g1)
      clear P1 NB1 D1 D2
      generalize hgen : ((w10.setCell ⟨w2.heap.size, 0, none⟩ (.int .u32 (St y).1)).setCell ⟨w2.heap.size, 1, none⟩ (.int .u32 (St y).2.1)).setCell ⟨w2.heap.size, 2, none⟩ (.int .u32 (St y).2.2) = w4 at M0 MB0 ⊢
      clear hgen HX HX' r2 r2'
      replace M0 : Hid (Box w4.drew w2.heap.size (St y)) := unhide M0
      replace MB0 := hide (below_drew1 (unhide MB0))
      have C0 : Hid (Kd.C (Kd.int .u8) w4.drew A1 y.length y) := unhide HC1 _ (Kd.C_below (unhide HR) (unhide MB0))
      have k1 := q1.w
      have k1' := q1.i
      have k3 := q3.w
      have k3' := q3.i
      have k4 := (Sm.val y).w
      have k4' := (Sm.val y).i
      go_wp2
      refine start_ (n := 20) (S := fun w' => Box w' w2.heap.size (St y) ∧ Kd.C (Kd.int .u8) w' A1 y.length y) (ds := []) #[false, false, false, false, false, false, false, false, false, false, false, false, false, false, false, false, false, false, false, false] (by kernel_rfl) rfl rfl ⟨unhide M0, unhide C0⟩ (fun hHeld => ?_)
      refine with_tabW tabT8_11 bitsT8_11 (fun HT_ HW_ => ?_)
      refine take_ (i := 0) (N := some 46) (v := ?_) (a' := ?_) #[true, false, false, false, false, false, false, false, false, false, false, false, false, false, false, false, false, false, false, false] rfl rfl (take_ofW HT_.out HW_.out (by kernel_rfl)) (fun _ _ _ h => h) (Or.inl ⟨by rfl, ?_⟩) hHeld ?_ ?_
      rotate_left
      · rintro w' ⟨h1_, h2_⟩
        obtain ⟨⟨_, _, _⟩, _, _⟩ := box3 h1_
        have hcv := Kd.C_string (P := Try.prog) (A := A1) (c := c0 - (i + 1)) Try.underlying23 Try.underlying5 Try.underlying9 h2_
        go_simp
        with_reducible rfl
      rotate_left
      · simp only [Act.put, List.setIfInBounds_toArray, List.set_cons_zero, List.set_cons_succ, i64_w, i32_w]
        rfl
      refine pure_ (i := 3) (N := some 49) (v := ?_) (a' := ?_) #[true, false, false, true, false, false, false, false, false, false, false, false, false, false, false, false, false, false, false, false] rfl rfl (any_of HT_.out (by kernel_rfl)) (fun _ _ _ h => h) (Or.inl ⟨by rfl, ?_⟩) ?_ ?_
      rotate_left
      · intro w'
        go_simp
        with_reducible rfl
      rotate_left
      · simp only [Act.put, List.setIfInBounds_toArray, List.set_cons_zero, List.set_cons_succ, i64_w, i32_w]
        rfl
      refine pure_ (i := 4) (N := some 50) (v := ?_) (a' := ?_) #[true, false, false, true, true, false, false, false, false, false, false, false, false, false, false, false, false, false, false, false] rfl rfl (any_of HT_.out (by kernel_rfl)) (fun _ _ _ h => h) (Or.inl ⟨by rfl, ?_⟩) ?_ ?_
      rotate_left
      · intro w'
        go_simp
        with_reducible rfl
      rotate_left
      · simp only [Act.put, List.setIfInBounds_toArray, List.set_cons_zero, List.set_cons_succ, i64_w, i32_w]
        rfl
      refine pure_ (i := 5) (N := some 51) (v := ?_) (a' := ?_) #[true, false, false, true, true, true, false, false, false, false, false, false, false, false, false, false, false, false, false, false] rfl rfl (any_of HT_.out (by kernel_rfl)) (fun _ _ _ h => h) (Or.inl ⟨by rfl, ?_⟩) ?_ ?_
      rotate_left
      · intro w'
        go_simp
        with_reducible rfl
      rotate_left
      · simp only [Act.put, List.setIfInBounds_toArray, List.set_cons_zero, List.set_cons_succ, i64_w, i32_w]
        rfl
      refine pure_ (i := 6) (N := some 52) (v := ?_) (a' := ?_) #[true, false, false, true, true, true, true, false, false, false, false, false, false, false, false, false, false, false, false, false] rfl rfl (any_of HT_.out (by kernel_rfl)) (fun _ _ _ h => h) (Or.inl ⟨by rfl, ?_⟩) ?_ ?_
      rotate_left
      · intro w'
        go_simp
        with_reducible rfl
      rotate_left
      · simp only [Act.put, List.setIfInBounds_toArray, List.set_cons_zero, List.set_cons_succ, i64_w, i32_w]
        rfl
      refine pure_ (i := 7) (N := some 53) (v := ?_) (a' := ?_) #[true, false, false, true, true, true, true, true, false, false, false, false, false, false, false, false, false, false, false, false] rfl rfl (any_of HT_.out (by kernel_rfl)) (fun _ _ _ h => h) (Or.inl ⟨by rfl, ?_⟩) ?_ ?_
      rotate_left
      · intro w'
        go_simp
        with_reducible rfl
      rotate_left
      · simp only [Act.put, List.setIfInBounds_toArray, List.set_cons_zero, List.set_cons_succ, i64_w, i32_w]
        rfl
      refine pure_ (i := 8) (N := some 54) (v := ?_) (a' := ?_) #[true, false, false, true, true, true, true, true, true, false, false, false, false, false, false, false, false, false, false, false] rfl rfl (any_of HT_.out (by kernel_rfl)) (fun _ _ _ h => h) (Or.inl ⟨by rfl, ?_⟩) ?_ ?_
      rotate_left
      · intro w'
        go_simp
        with_reducible rfl
      rotate_left
      · simp only [Act.put, List.setIfInBounds_toArray, List.set_cons_zero, List.set_cons_succ, i64_w, i32_w]
        rfl
      refine pure_ (i := 9) (N := some 55) (v := ?_) (a' := ?_) #[true, false, false, true, true, true, true, true, true, true, false, false, false, false, false, false, false, false, false, false] rfl rfl (any_of HT_.out (by kernel_rfl)) (fun _ _ _ h => h) (Or.inl ⟨by rfl, ?_⟩) ?_ ?_
      rotate_left
      · intro w'
        go_simp
        with_reducible rfl
      rotate_left
      · simp only [Act.put, List.setIfInBounds_toArray, List.set_cons_zero, List.set_cons_succ, i64_w, i32_w]
        rfl
      refine pure_ (i := 10) (N := some 56) (v := ?_) (a' := ?_) #[true, false, false, true, true, true, true, true, true, true, true, false, false, false, false, false, false, false, false, false] rfl rfl (any_of HT_.out (by kernel_rfl)) (fun _ _ _ h => h) (Or.inl ⟨by rfl, ?_⟩) ?_ ?_
      rotate_left
      · intro w'
        go_simp
        with_reducible rfl
      rotate_left
      · simp only [Act.put, List.setIfInBounds_toArray, List.set_cons_zero, List.set_cons_succ, i64_w, i32_w]
        rfl
      refine take_ (i := 11) (N := some 57) (v := ?_) (a' := ?_) #[true, false, false, true, true, true, true, true, true, true, true, true, false, false, false, false, false, false, false, false] rfl rfl (take_ofW HT_.out HW_.out (by kernel_rfl)) (fun _ _ _ h => h) (Or.inl ⟨by rfl, ?_⟩) hHeld ?_ ?_
      rotate_left
      · rintro w' ⟨h1_, h2_⟩
        obtain ⟨⟨_, _, _⟩, _, _⟩ := box3 h1_
        have hcv := Kd.C_string (P := Try.prog) (A := A1) (c := c0 - (i + 1)) Try.underlying23 Try.underlying5 Try.underlying9 h2_
        go_simp
        with_reducible rfl
      rotate_left
      · simp only [Act.put, List.setIfInBounds_toArray, List.set_cons_zero, List.set_cons_succ, i64_w, i32_w]
        rfl
      refine one_ (i := 1) (N := some 47) #[true, true, false, true, true, true, true, true, true, true, true, true, false, false, false, false, false, false, false, false] rfl rfl (one_of HT_.out (by kernel_rfl)) (by decide) (fun K hK => ?_)
      refine goes_ Try.func33 (by kernel_rfl) rfl #[.agg #[.int .u32 (St y).1, .int .u32 (St y).2.1, .int .u32 (St y).2.2]] (by rfl) rfl rfl (by (try simp only [List.map_toArray, List.map_cons, List.map_nil]); first | done | rfl) ?_
      refine (value_St y _).mono ?_
      rintro e w11 ⟨rfl, hb⟩
      refine ⟨_, rfl, ?_⟩
      have MB1 := hide (below_step (unhide MB0) hb)
      have M1 := hide ((unhide M0).below hb)
      have C1 := hide (Kd.C_below (unhide C0) hb)
      clear hb MB0 M0 C0
      refine hK.out _ _ ⟨unhide M1, unhide C1⟩ (fun hHeld => ?_)
      clear hK K
      refine norm_ (a' := ?_) ?_ ?_
      rotate_left
      · show Act.put _ (some 47) _ = _
        simp only [Act.put, List.setIfInBounds_toArray, List.set_cons_zero, List.set_cons_succ, i64_w, i32_w]
        rfl
      refine pure_ (i := 2) (N := some 48) (v := ?_) (a' := ?_) #[true, true, true, true, true, true, true, true, true, true, true, true, false, false, false, false, false, false, false, false] rfl rfl (any_of HT_.out (by kernel_rfl)) (fun _ _ _ h => h) (Or.inl ⟨by rfl, ?_⟩) ?_ ?_
      rotate_left
      · intro w'
        go_simp
        with_reducible rfl
      rotate_left
      · simp only [Act.put, List.setIfInBounds_toArray, List.set_cons_zero, List.set_cons_succ, i64_w, i32_w]
        rfl
      refine one_ (i := 12) (N := some 58) #[true, true, true, true, true, true, true, true, true, true, true, true, true, false, false, false, false, false, false, false] rfl rfl (one_of HT_.out (by kernel_rfl)) (by decide) (fun K hK => ?_)
      refine goes_ Try.func34 (by kernel_rfl) rfl #[.string (strOfNums y)] (by rfl) rfl rfl (by (try simp only [List.map_toArray, List.map_cons, List.map_nil]); first | done | rfl) ?_
      refine (ref_any (strOfNums y) _ q4).mono ?_
      rintro e w12 ⟨rfl, rfl⟩
      refine ⟨_, rfl, ?_⟩
      rw [bytesOf_str (unhide HLY)]
      refine hK.out _ _ ⟨unhide M1, unhide C1⟩ (fun hHeld => ?_)
      clear hK K
      refine norm_ (a' := ?_) ?_ ?_
      rotate_left
      · show Act.put _ (some 58) _ = _
        simp only [Act.put, List.setIfInBounds_toArray, List.set_cons_zero, List.set_cons_succ, i64_w, i32_w]
        rfl
      refine pure_ (i := 13) (N := some 59) (v := ?_) (a' := ?_) #[true, true, true, true, true, true, true, true, true, true, true, true, true, true, false, false, false, false, false, false] rfl rfl (any_of HT_.out (by kernel_rfl)) (fun _ _ _ h => h) (Or.inl ⟨by rfl, ?_⟩) ?_ ?_
      rotate_left
      · intro w'
        go_simp
        with_reducible rfl
      rotate_left
      · simp only [Act.put, List.setIfInBounds_toArray, List.set_cons_zero, List.set_cons_succ, i64_w, i32_w]
        rfl
      refine pure_ (i := 14) (N := some 60) (v := ?_) (a' := ?_) #[true, true, true, true, true, true, true, true, true, true, true, true, true, true, true, false, false, false, false, false] rfl rfl (any_of HT_.out (by kernel_rfl)) (fun _ _ _ h => h) (Or.inl ⟨by rfl, ?_⟩) ?_ ?_
      rotate_left
      · intro w'
        go_simp
        with_reducible rfl
      rotate_left
      · simp only [Act.put, List.setIfInBounds_toArray, List.set_cons_zero, List.set_cons_succ, i64_w, i32_w]
        rfl
      refine take_ (i := 15) (N := some 61) (v := ?_) (a' := ?_) #[true, true, true, true, true, true, true, true, true, true, true, true, true, true, true, true, false, false, false, false] rfl rfl (take_ofW HT_.out HW_.out (by kernel_rfl)) (fun _ _ _ h => h) (Or.inl ⟨by rfl, ?_⟩) hHeld ?_ ?_
      rotate_left
      · rintro w' ⟨h1_, h2_⟩
        obtain ⟨⟨_, _, _⟩, _, _⟩ := box3 h1_
        have hcv := Kd.C_string (P := Try.prog) (A := A1) (c := c0 - (i + 1)) Try.underlying23 Try.underlying5 Try.underlying9 h2_
        go_simp
        with_reducible rfl
      rotate_left
      · simp only [Act.put, List.setIfInBounds_toArray, List.set_cons_zero, List.set_cons_succ, i64_w, i32_w]
        rfl
      refine pure_ (i := 17) (N := some 63) (v := ?_) (a' := ?_) #[true, true, true, true, true, true, true, true, true, true, true, true, true, true, true, true, false, true, false, false] rfl rfl (any_of HT_.out (by kernel_rfl)) (fun _ _ _ h => h) (Or.inl ⟨by rfl, ?_⟩) ?_ ?_
      rotate_left
      · intro w'
        go_simp
        with_reducible rfl
      rotate_left
      · simp only [Act.put, List.setIfInBounds_toArray, List.set_cons_zero, List.set_cons_succ, i64_w, i32_w]
        rfl
      refine one_ (i := 16) (N := some 62) #[true, true, true, true, true, true, true, true, true, true, true, true, true, true, true, true, true, true, false, false] rfl rfl (one_of HT_.out (by kernel_rfl)) (by decide) (fun K hK => ?_)
      refine goes_ Try.func31 (by kernel_rfl) rfl #[.agg #[.int .u32 (St y).1, .int .u32 (St y).2.1, .int .u32 (St y).2.2]] (by rfl) rfl rfl (by (try simp only [List.map_toArray, List.map_cons, List.map_nil]); first | done | rfl) ?_
      refine (unhide HZ _).mono ?_
      rintro e w13 ⟨rfl, hb⟩
      refine ⟨_, rfl, ?_⟩
      have MB2 := hide (below_step (unhide MB1) hb)
      have M2 := hide ((unhide M1).below hb)
      have C2 := hide (Kd.C_below (unhide C1) hb)
      clear hb MB1 M1 C1
      refine hK.out _ _ ⟨unhide M2, unhide C2⟩ (fun hHeld => ?_)
      clear hK K
      refine norm_ (a' := ?_) ?_ ?_
      rotate_left
      · show Act.put _ (some 62) _ = _
        simp only [Act.put, List.setIfInBounds_toArray, List.set_cons_zero, List.set_cons_succ, i64_w, i32_w]
        rfl
      refine pure_ (i := 18) (N := some 64) (v := ?_) (a' := ?_) #[true, true, true, true, true, true, true, true, true, true, true, true, true, true, true, true, true, true, true, false] rfl rfl (any_of HT_.out (by kernel_rfl)) (fun _ _ _ h => h) (Or.inl ⟨by rfl, ?_⟩) ?_ ?_
      rotate_left
      · intro w'
        go_simp
        with_reducible rfl
      rotate_left
      · simp only [Act.put, List.setIfInBounds_toArray, List.set_cons_zero, List.set_cons_succ, i64_w, i32_w]
        rfl
      refine pure_ (i := 19) (N := some 65) (v := ?_) (a' := ?_) #[true, true, true, true, true, true, true, true, true, true, true, true, true, true, true, true, true, true, true, true] rfl rfl (any_of HT_.out (by kernel_rfl)) (fun _ _ _ h => h) (Or.inl ⟨by rfl, ?_⟩) ?_ ?_
      rotate_left
      · intro w'
        go_simp
        with_reducible rfl
      rotate_left
      · simp only [Act.put, List.setIfInBounds_toArray, List.set_cons_zero, List.set_cons_succ, i64_w, i32_w]
        rfl
      refine done_ (done_of HT_.out (by kernel_rfl)) ?_
      clear k1 k1' k3 k3' k4 k4'
      go_wp2
      go_roundg (gk - 1)
      case measure => have := unhide HK; omega
      case rel =>
        refine ⟨i + 1, by go_num, by have := unhide HK; show i + 1 + sz + (gk - 1) = b.length + sz; omega, by show i + 1 + sz ≤ b.length; omega, ?_, unhide MB2⟩
        rw [unhide HW4]
        exact unhide M2
    · have q5 : 0 ≤ (i : Int) + (sz : Int) := by omega
      have q9 : (i : Int) + (sz : Int) ≤ 1000 := by omega
      have q7 : ¬ (i : Int) + (sz : Int) < (b.length : Int) := by omega
      have HBE := hide hbel
      clear b1 hbel HREL hi
      go_wp2
      go_ret
      exact ⟨rfl, unhide HBE⟩

theorem law_any (A0 : Option Addr) (c0 : Nat) (l : List Int) (a1 : Int) (w : World) (hr0 : Kd.C (Kd.int .u8) w A0 l.length l) (hc0 : l.length ≤ c0) (hl0 : Bytes l) :
    Calls Try.prog 8 #[.slice A0 l.length c0, .int .i64 a1] w fun e w' => e = .returned (.bool true) ∧ Below w.heap.size w w' := by
  by_cases h1 : a1 < 1
  · exact law_not A0 c0 l a1 w hc0 (.inl h1)
  · by_cases h2 : a1 > ((l.take 300).length : Int)
    · exact law_not A0 c0 l a1 w hc0 (.inr ⟨by omega, h2⟩)
    · obtain ⟨sz, rfl⟩ : ∃ n : Nat, a1 = (n : Int) := ⟨a1.toNat, by omega⟩
      exact law_yes A0 c0 l sz w hr0 hc0 hl0 (by omega) (by omega)

end Go.Proofs.Ytjdkeicjhmdcfaa.WkRol
