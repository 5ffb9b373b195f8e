import Derived.Test.YtjdkeicjhmdcfaaWk3
set_option linter.unusedSimpArgs false
set_option linter.unusedVariables false
namespace Go.Proofs.Ytjdkeicjhmdcfaa.WkRnd
open Go.RowKit Go.Proofs.YtjdkeicjhmdcfaaW.PrintWords Go.Proofs.YtjdkeicjhmdcfaaW.PrintLast Go.Proofs.YtjdkeicjhmdcfaaW.PrintMore Go.Proofs.Ytjdkeicjhmdcfaa.WkM Go.Proofs.Ytjdkeicjhmdcfaa.Wk
attribute [local go_sem] max2_int min2_int max_two min_two

def T12_10 : Bool × List (List Nat × List Nat) := (true, [([], []), ([], []), ([], []), ([1, 2], [1, 2]), ([3], [3]), ([], []), ([], []), ([], []), ([6, 7], [6, 7]), ([], []), ([9], [9]), ([8, 10], [8, 10]), ([5, 11], [5, 11]), ([12], [12]), ([0, 4, 13], [0, 4, 13]), ([14, 14, 0, 1, 2, 3, 4, 5, 6, 7, 8, 9, 10, 11, 12, 13, 14], [14])])
def BT12_10 : List Nat := [0, 0, 0, 6, 14, 0, 0, 0, 192, 0, 512, 1984, 4064, 8160, 16383, 32767]
theorem tabT12_10 : rtab .any (opsOf Try.f12 10) = T12_10 := by kernel_rfl
theorem bitsT12_10 : waitsOk T12_10.2 BT12_10 = true := by kernel_rfl
def T12_12 : Bool × List (List Nat × List Nat) := (true, [([], []), ([], []), ([], []), ([1, 2], [1, 2]), ([3], [3]), ([0, 4], [0, 4]), ([5, 4, 0, 1, 2, 3, 4, 5], [5])])
def BT12_12 : List Nat := [0, 0, 0, 6, 14, 31, 63]
theorem tabT12_12 : rtab .any (opsOf Try.f12 12) = T12_12 := by kernel_rfl
theorem bitsT12_12 : waitsOk T12_12.2 BT12_12 = true := by kernel_rfl

theorem rd_left (l r : List Int) (i : Nat) (h : i < l.length) : rd (l ++ r) (i : Int) = rd l (i : Int) := by
  unfold Go.Proofs.YtjdkeicjhmdcfaaW.PrintWords.rd
  rw [List.getD_eq_getElem?_getD, List.getD_eq_getElem?_getD, List.getElem?_append_left (by omega)]
/-- The window goes on by a byte, round the end. -/
theorem win (b : List Int) (i sz j : Nat) (h0 : 0 < sz) (hs : sz ≤ b.length) (h : i < b.length) (hj : (Int.tmod ((i : Int) + (sz : Int)) (b.length : Int)) = (j : Int)) :
    j < b.length ∧ ((b ++ b).drop i).take sz = rd b (i : Int) :: ((b ++ b).drop (i + 1)).take (sz - 1) ∧ ((b ++ b).drop (i + 1)).take sz = ((b ++ b).drop (i + 1)).take (sz - 1) ++ [rd b (j : Int)] := by
  obtain ⟨n, rfl⟩ : ∃ n, sz = n + 1 := ⟨sz - 1, by omega⟩
  have hll : (b ++ b).length = b.length + b.length := by simp
  rw [Int.tmod_eq_emod_of_nonneg (by omega)] at hj
  have hjl : j < b.length := by
    have := Int.emod_lt_of_pos ((i : Int) + ((n + 1 : Nat) : Int)) (b := (b.length : Int)) (by omega)
    omega
  refine ⟨hjl, by rw [drop_cons _ i (by omega), List.take_succ_cons, rd_left b b i h]; rfl, ?_⟩
  rw [take_snoc _ n (by simp; omega)]
  congr 2
  unfold Go.Proofs.YtjdkeicjhmdcfaaW.PrintWords.rd
  rw [List.getD_eq_getElem?_getD, List.getD_eq_getElem?_getD, List.getElem?_drop, Int.toNat_natCast, Int.toNat_natCast]
  by_cases hh : i + (n + 1) < b.length
  · have e : (j : Int) = (i : Int) + ((n + 1 : Nat) : Int) := by rw [← hj, Int.emod_eq_of_lt (by omega) (by omega)]
    rw [List.getElem?_append_left (by omega)]
    congr 2
    omega
  · have e : (j : Int) = (i : Int) + ((n + 1 : Nat) : Int) - (b.length : Int) := by
      rw [← hj, ← Int.sub_emod_right, Int.emod_eq_of_lt (by omega) (by omega)]
    rw [List.getElem?_append_right (by omega)]
    congr 2
    omega

/-- Sizes that are no window: the answer is at once. -/
theorem law_not (A0 : Option Addr) (c0 : Nat) (l : List Int) (a1 : Int) (w : World) (hc0 : l.length ≤ c0) (hs : a1 < 1 ∨ (1 ≤ a1 ∧ a1 > ((l.take 200).length : Int))) :
    Calls Try.prog 12 #[.slice A0 l.length c0, .int .i64 a1] w fun e w' => e = .returned (.bool true) ∧ Below w.heap.size w w' := by
  obtain ⟨m, hm, hm1, hm2⟩ := min_as 200 (by omega) l.length
  obtain ⟨hcut, hr, hc⟩ := take_any A0 c0 l m hc0 hm1
  have hlen : (l.take m).length = (l.take 200).length := by simp only [List.length_take]; split at hm <;> omega
  rw [← hlen] at hs
  clear hlen hr
  generalize l.take m = b at hcut hc hs
  rcases hs with hs | ⟨hs1, hs2⟩
  · go_enter Try.func12, Try.ntmps12
    go_wp2_with fail
    refine (rolls_any _).mono ?_
    rintro e w1 ⟨rfl, hb⟩
    have HB := hide hb
    clear hb
    go_wp2
    go_ret
    exact ⟨rfl, unhide HB⟩
  · have n1 : ¬ a1 < 1 := by omega
    go_enter Try.func12, Try.ntmps12
    go_wp2_with fail
    refine (rolls_any _).mono ?_
    rintro e w1 ⟨rfl, hb⟩
    have HB := hide hb
    clear hb
    go_wp2
    go_ret
    exact ⟨rfl, unhide HB⟩

set_option maxHeartbeats 4000000 in
theorem law_yes (A0 : Option Addr) (c0 : Nat) (l : List Int) (sz : Nat) (w : World) (hr0 : Kd.C (Kd.int .u8) w A0 l.length l) (hc0 : l.length ≤ c0) (hl0 : Bytes l) (hs1 : 1 ≤ sz) (hs2 : sz ≤ (l.take 200).length) :
    Calls Try.prog 12 #[.slice A0 l.length c0, .int .i64 (sz : Int)] w fun e w' => e = .returned (.bool true) ∧ Below w.heap.size w w' := by
  have hu53 := Try.underlying53
  obtain ⟨m, hm, hm1, hm2⟩ := min_as 200 (by omega) l.length
  obtain ⟨hcut, hr, hc⟩ := take_any A0 c0 l m hc0 hm1
  replace hr := hr w hr0
  have hl := hl0.take m
  have hn : (l.take m).length ≤ 200 := by simp; omega
  have hs3 : sz ≤ (l.take m).length := by simp only [List.length_take] at hs2 ⊢; split at hm <;> omega
  generalize l.take m = b at hcut hr hc hl hn hs3
  obtain ⟨hcut2, hr2, hc2⟩ := take_any A0 c0 b sz hc hs3
  replace hr2 := hr2 w hr
  have hl2 := hl.take sz
  have hn2 : (b.take sz).length ≤ 100000 := by simp; omega
  have HT0 := hide (show ((b ++ b).drop 0).take sz = b.take sz by rw [List.drop_zero, List.take_append_of_le_length hs3])
  have HT1 := hide (show ((b ++ b).drop b.length).take sz = b.take sz by rw [List.drop_left])
  generalize b.take sz = b2 at hcut2 hr2 hc2 hl2 hn2 HT0 HT1
  have HR := hide hr
  have HL := hide hl
  have HR2 := hide hr2
  have HL2 := hide hl2
  have d1 : decide ((sz : Int) < 1) = false := by simp; omega
  have d2 : decide (b.length < sz) = false := by simp; omega
  have q6 : sz ≤ 301 := by omega
  clear hr hl hr0 hl0 hs2 hr2 hl2
  go_enter Try.func12, Try.ntmps12
  go_wp2_with fail
  refine (rolls_any _).mono ?_
  rintro e w1 ⟨rfl, hb⟩
  have HB := hide hb
  clear hb
  go_wp2_with fail
  refine (of_any A0 c0 b2 _ (Kd.C_below (unhide HR2) (unhide HB)) hc2 (unhide HL2) hn2).mono ?_
  rintro e w2 ⟨rfl, hb⟩
  have HB2 := hide (below_step (unhide HB) hb)
  clear hb HB
  go_wp2
  go_loopg [28] b.length (fun kq v28 wr => ∃ (i : Nat), v28 = .int .i64 (i : Int) ∧ Hid (i + kq = b.length) ∧ Hid (Box wr w2.heap.size (St (((b ++ b).drop i).take sz)) ∧ Below w.heap.size w wr))
  case atStart =>
    refine ⟨0, rfl, Nat.zero_add _, ?_, below_alloc (unhide HB2) _⟩
    rw [unhide HT0]
    exact blk_new _ _
  case round =>
    obtain ⟨i, rfl, HK, HREL⟩ := hrel
    obtain ⟨b1, hbel⟩ := unhide HREL
    have g1 : w.heap.size ≤ w2.heap.size := (unhide HB2).size
    by_cases hlt : i < b.length
    · obtain ⟨j, hj⟩ : ∃ j : Nat, (Int.tmod ((i : Int) + (sz : Int)) (b.length : Int)) = (j : Int) := ⟨(Int.tmod ((i : Int) + (sz : Int)) (b.length : Int)).toNat, by rw [Int.toNat_of_nonneg]; rw [Int.tmod_eq_emod_of_nonneg (by omega)]; exact Int.emod_nonneg _ (by omega)⟩
      obtain ⟨hw0, hw1, hw2⟩ := win b i sz j hs1 hs3 hlt hj
      obtain ⟨ad, rfl, hx⟩ := Kd.at_int (unhide HR) (i : Int) (by omega) (by omega)
      replace hx := (hbel.cell (World.block_lt_of_cell? w _ hx)).trans hx
      rw [Int.toNat_natCast] at hx
      obtain ⟨ad', e', hx'⟩ := Kd.at_int (unhide HR) (j : Int) (by omega) (by omega)
      cases e'
      replace hx' := (hbel.cell (World.block_lt_of_cell? w _ hx')).trans hx'
      rw [Int.toNat_natCast] at hx'
      have HX1 := (unhide HL).rd_ (i : Int)
      have HX2 := (unhide HL).rd_ (j : Int)
      have HRO := hide (fun W : World => roll_St (rd b (i : Int)) (rd b (j : Int)) (((b ++ b).drop (i + 1)).take (sz - 1)) W HX1 HX2 (by rw [List.length_take]; omega))
      rw [← hw2, ← hw1] at HRO
      generalize hy : ((b ++ b).drop (i + 1)).take sz = y at HRO
      generalize hx0 : ((b ++ b).drop i).take sz = x0 at b1 HRO
      generalize rd b (i : Int) = u1 at hx HRO
      generalize rd b (j : Int) = u2 at hx' HRO
      have HY := hide hy
      have HJ := hide hj
      have q2 : Sm ((i : Int) + (sz : Int)) := by unfold Sm; omega
      have q3 : Sm (j : Int) := by unfold Sm; omega
      have q10 : 0 < b.length := by omega
      have q11 : ((b.length : Int) == 0) = false := beq_eq_false_iff_ne.2 (by omega)
      have q12 : ¬ b.length = 0 := by omega
      have P0 : Hid (Box wr.drew w2.heap.size (St x0)) := b1
      have NB0 := hide (below_drew1 hbel)
      have HX := hide hx
      have HX' := hide hx'
      clear b1 hbel HREL hy hx0 hx hx' hw1 hw2 HX1 HX2
      have r2 := q2.w
      have r2' := q2.i
      have r3 := q3.w
      have r3' := q3.i
      go_wp2
      refine start_ (n := 16) (S := fun w' => Box w' w2.heap.size (St x0) ∧ w'.cell? (ad.add i) = some (.int .u8 u1) ∧ w'.cell? (ad.add j) = some (.int .u8 u2)) (ds := [15]) #[false, false, false, false, false, false, false, false, false, false, false, false, false, false, false, false] (by kernel_rfl) rfl rfl ⟨unhide P0, unhide HX, unhide HX'⟩ (fun hHeld => ?_)
      refine with_tabW tabT12_10 bitsT12_10 (fun HT_ HW_ => ?_)
      refine take_ (i := 0) (N := some 31) (v := ?_) (a' := ?_) #[true, false, false, false, false, false, false, false, false, false, false, false, false, false, false, false] rfl rfl (take_ofW HT_.out HW_.out (by kernel_rfl)) (fun _ _ _ h => h) (Or.inl ⟨by rfl, ?_⟩) hHeld ?_ ?_
      rotate_left
      · rintro w' ⟨h1_, _, _⟩
        obtain ⟨⟨_, _, _⟩, _, _⟩ := box3 h1_
        go_simp
        with_reducible rfl
      rotate_left
      · simp only [Act.put, List.setIfInBounds_toArray, List.set_cons_zero, List.set_cons_succ, i64_w, i32_w]
        rfl
      refine pure_ (i := 1) (N := some 32) (v := ?_) (a' := ?_) #[true, true, false, false, false, false, false, false, false, false, false, false, false, false, false, false] rfl rfl (any_of HT_.out (by kernel_rfl)) (fun _ _ _ h => h) (Or.inl ⟨by rfl, ?_⟩) ?_ ?_
      rotate_left
      · intro w'
        go_simp
        with_reducible rfl
      rotate_left
      · simp only [Act.put, List.setIfInBounds_toArray, List.set_cons_zero, List.set_cons_succ, i64_w, i32_w]
        rfl
      refine pure_ (i := 2) (N := some 33) (v := ?_) (a' := ?_) #[true, true, true, false, false, false, false, false, false, false, false, false, false, false, false, false] rfl rfl (any_of HT_.out (by kernel_rfl)) (fun _ _ _ h => h) (Or.inl ⟨by rfl, ?_⟩) ?_ ?_
      rotate_left
      · intro w'
        go_simp
        with_reducible rfl
      rotate_left
      · simp only [Act.put, List.setIfInBounds_toArray, List.set_cons_zero, List.set_cons_succ, i64_w, i32_w]
        rfl
      refine pure_ (i := 3) (N := some 34) (v := ?_) (a' := ?_) #[true, true, true, true, false, false, false, false, false, false, false, false, false, false, false, false] rfl rfl (any_of HT_.out (by kernel_rfl)) (fun _ _ _ h => h) (Or.inl ⟨by rfl, ?_⟩) ?_ ?_
      rotate_left
      · intro w'
        go_simp
        with_reducible rfl
      rotate_left
      · simp only [Act.put, List.setIfInBounds_toArray, List.set_cons_zero, List.set_cons_succ, i64_w, i32_w]
        rfl
      refine take_ (i := 4) (N := some 35) (v := ?_) (a' := ?_) #[true, true, true, true, true, false, false, false, false, false, false, false, false, false, false, false] rfl rfl (take_ofW HT_.out HW_.out (by kernel_rfl)) (fun _ _ _ h => h) (Or.inl ⟨by rfl, ?_⟩) hHeld ?_ ?_
      rotate_left
      · rintro w' ⟨h1_, _, _⟩
        obtain ⟨⟨_, _, _⟩, _, _⟩ := box3 h1_
        go_simp
        with_reducible rfl
      rotate_left
      · simp only [Act.put, List.setIfInBounds_toArray, List.set_cons_zero, List.set_cons_succ, i64_w, i32_w]
        rfl
      refine pure_ (i := 5) (N := some 36) (v := ?_) (a' := ?_) #[true, true, true, true, true, true, false, false, false, false, false, false, false, false, false, false] rfl rfl (any_of HT_.out (by kernel_rfl)) (fun _ _ _ h => h) (Or.inl ⟨by rfl, ?_⟩) ?_ ?_
      rotate_left
      · intro w'
        go_simp
        with_reducible rfl
      rotate_left
      · simp only [Act.put, List.setIfInBounds_toArray, List.set_cons_zero, List.set_cons_succ, i64_w, i32_w]
        rfl
      refine pure_ (i := 6) (N := some 37) (v := ?_) (a' := ?_) #[true, true, true, true, true, true, true, false, false, false, false, false, false, false, false, false] rfl rfl (any_of HT_.out (by kernel_rfl)) (fun _ _ _ h => h) (Or.inl ⟨by rfl, ?_⟩) ?_ ?_
      rotate_left
      · intro w'
        go_simp
        with_reducible rfl
      rotate_left
      · simp only [Act.put, List.setIfInBounds_toArray, List.set_cons_zero, List.set_cons_succ, i64_w, i32_w]
        rfl
      refine pure_ (i := 7) (N := some 38) (v := ?_) (a' := ?_) #[true, true, true, true, true, true, true, true, false, false, false, false, false, false, false, false] rfl rfl (any_of HT_.out (by kernel_rfl)) (fun _ _ _ h => h) (Or.inl ⟨by rfl, ?_⟩) ?_ ?_
      rotate_left
      · intro w'
        go_simp
        with_reducible rfl
      rotate_left
      · simp only [Act.put, List.setIfInBounds_toArray, List.set_cons_zero, List.set_cons_succ, i64_w, i32_w]
        rfl
      refine pure_ (i := 8) (N := some 39) (v := ?_) (a' := ?_) #[true, true, true, true, true, true, true, true, true, false, false, false, false, false, false, false] rfl rfl (any_of HT_.out (by kernel_rfl)) (fun _ _ _ h => h) (Or.inl ⟨by rfl, ?_⟩) ?_ ?_
      rotate_left
      · intro w'
        go_simp
        with_reducible rfl
      rotate_left
      · simp only [Act.put, List.setIfInBounds_toArray, List.set_cons_zero, List.set_cons_succ, i64_w, i32_w]
        rfl
      refine pure_ (i := 9) (N := some 40) (v := ?_) (a' := ?_) #[true, true, true, true, true, true, true, true, true, true, false, false, false, false, false, false] rfl rfl (any_of HT_.out (by kernel_rfl)) (fun _ _ _ h => h) (Or.inl ⟨by rfl, ?_⟩) ?_ ?_
      rotate_left
      · intro w'
        go_simp
        with_reducible rfl
      rotate_left
      · simp only [Act.put, List.setIfInBounds_toArray, List.set_cons_zero, List.set_cons_succ, i64_w, i32_w]
        rfl
      refine pure_ (i := 10) (N := some 41) (v := ?_) (a' := ?_) #[true, true, true, true, true, true, true, true, true, true, true, false, false, false, false, false] rfl rfl (any_of HT_.out (by kernel_rfl)) (fun _ _ _ h => h) (Or.inl ⟨by rfl, ?_⟩) ?_ ?_
      rotate_left
      · intro w'
        go_simp
        with_reducible rfl
      rotate_left
      · simp only [Act.put, List.setIfInBounds_toArray, List.set_cons_zero, List.set_cons_succ, i64_w, i32_w]
        rfl
      refine pure_ (i := 11) (N := some 42) (v := ?_) (a' := ?_) #[true, true, true, true, true, true, true, true, true, true, true, true, false, false, false, false] rfl rfl (any_of HT_.out (by kernel_rfl)) (fun _ _ _ h => h) (Or.inl ⟨by rfl, ?_⟩) ?_ ?_
      rotate_left
      · intro w'
        go_simp
        with_reducible rfl
      rotate_left
      · simp only [Act.put, List.setIfInBounds_toArray, List.set_cons_zero, List.set_cons_succ, i64_w, i32_w]
        rfl
      refine pure_ (i := 12) (N := some 43) (v := ?_) (a' := ?_) #[true, true, true, true, true, true, true, true, true, true, true, true, true, false, false, false] rfl rfl (any_of HT_.out (by kernel_rfl)) (fun _ _ _ h => h) (Or.inl ⟨by rfl, ?_⟩) ?_ ?_
      rotate_left
      · intro w'
        go_simp
        with_reducible rfl
      rotate_left
      · simp only [Act.put, List.setIfInBounds_toArray, List.set_cons_zero, List.set_cons_succ, i64_w, i32_w]
        rfl
      refine take_ (i := 13) (N := some 44) (v := ?_) (a' := ?_) #[true, true, true, true, true, true, true, true, true, true, true, true, true, true, false, false] rfl rfl (take_ofW HT_.out HW_.out (by kernel_rfl)) (fun _ _ _ h => h) (Or.inl ⟨by rfl, ?_⟩) hHeld ?_ ?_
      rotate_left
      · rintro w' ⟨h1_, _, _⟩
        obtain ⟨⟨_, _, _⟩, _, _⟩ := box3 h1_
        go_simp
        with_reducible rfl
      rotate_left
      · simp only [Act.put, List.setIfInBounds_toArray, List.set_cons_zero, List.set_cons_succ, i64_w, i32_w]
        rfl
      refine one_ (i := 14) (N := some 45) #[true, true, true, true, true, true, true, true, true, true, true, true, true, true, true, false] rfl rfl (one_of HT_.out (by kernel_rfl)) (by decide) (fun K hK => ?_)
      refine goes_ Try.func35 (by kernel_rfl) rfl #[.agg #[.int .u32 (St x0).1, .int .u32 (St x0).2.1, .int .u32 (St x0).2.2], .int .u8 u1, .int .u8 u2] (by rfl) rfl rfl (by (try simp only [List.map_toArray, List.map_cons, List.map_nil]); first | done | rfl) ?_
      refine (unhide HRO _).mono ?_
      rintro e w10 ⟨rfl, hb⟩
      refine ⟨_, rfl, ?_⟩
      have NB1 := hide (below_step (unhide NB0) hb)
      have P1 := hide ((unhide P0).below hb)
      have D1 := (hb.cell (World.block_lt_of_cell? _ _ (unhide HX))).trans (unhide HX)
      have D2 := (hb.cell (World.block_lt_of_cell? _ _ (unhide HX'))).trans (unhide HX')
      clear hb NB0 P0
      clear hHeld
      refine hK.out _ _ ⟨unhide P1, D1, D2⟩ (fun hHeld => ?_)
      clear hK K
      refine norm_ (a' := ?_) ?_ ?_
      rotate_left
      · show Act.put _ (some 45) _ = _
        simp only [Act.put, List.setIfInBounds_toArray, List.set_cons_zero, List.set_cons_succ, i64_w, i32_w]
        rfl
      refine last_ (i := 15) (N := none) #[true, true, true, true, true, true, true, true, true, true, true, true, true, true, true, true] rfl rfl (one_of HT_.out (by kernel_rfl)) (by decide) (fun K hK => ?_)
      obtain ⟨⟨_, _, _⟩, ⟨_, _, _⟩, _⟩ := box3 (unhide P1)
      refine skip_ (w1 := ((w10.setCell ⟨w2.heap.size, 0, none⟩ (.int .u32 (St y).1)).setCell ⟨w2.heap.size, 1, none⟩ (.int .u32 (St y).2.1)).setCell ⟨w2.heap.size, 2, none⟩ (.int .u32 (St y).2.2)) (by rfl) rfl ?hrun ?_
      case hrun =>
        first | (go_simp; done) | (go_simp; rfl)
      refine hK.out _ _ ?_
      clear hK K
      refine done_ (done_of HT_.out (by kernel_rfl)) ?_
      clear HT_ HW_; (try clear hHeld)
      have M0 := hide ((unhide P1).put (St y))
      have MB0 := hide (below_set (j := 2) (v := .int .u32 (St y).2.2) (below_set (j := 1) (v := .int .u32 (St y).2.1) (below_set (j := 0) (v := .int .u32 (St y).1) (unhide NB1) g1) g1) g1)
      clear P1 NB1 D1 D2 r2 r2' r3 r3' hj
      go_wp2
      go_roundg (gk - 1)
      case measure => have := unhide HK; omega
      case rel =>
        refine ⟨i + 1, by go_num, by have := unhide HK; show i + 1 + (gk - 1) = b.length; omega, ?_, unhide MB0⟩
        rw [unhide HY]
        exact unhide M0
    · have e : i = b.length := by have := unhide HK; omega
      subst e
      rw [unhide HT1] at b1
      have P0 : Hid (Box wr.drew w2.heap.size (St b2)) := b1
      have NB0 := hide (below_drew1 hbel)
      have C0 : Hid (Kd.C (Kd.int .u8) wr.drew A0 b2.length b2) := Kd.C_below (unhide HR2) (below_drew1 hbel)
      have eqs := eq53
      clear b1 hbel HREL
      go_wp2
      refine start_ (n := 7) (S := fun w' => Box w' w2.heap.size (St b2)) (ds := []) #[false, false, false, false, false, false, false] (by kernel_rfl) rfl rfl (unhide P0) (fun hHeld => ?_)
      refine with_tabW tabT12_12 bitsT12_12 (fun HT_ HW_ => ?_)
      refine take_ (i := 0) (N := some 47) (v := ?_) (a' := ?_) #[true, false, false, false, false, false, false] rfl rfl (take_ofW HT_.out HW_.out (by kernel_rfl)) (fun _ _ _ h => h) (Or.inl ⟨by rfl, ?_⟩) hHeld ?_ ?_
      rotate_left
      · rintro w' h1_
        obtain ⟨⟨_, _, _⟩, _, _⟩ := box3 h1_
        go_simp
        with_reducible rfl
      rotate_left
      · simp only [Act.put, List.setIfInBounds_toArray, List.set_cons_zero, List.set_cons_succ, i64_w, i32_w]
        rfl
      refine pure_ (i := 1) (N := some 48) (v := ?_) (a' := ?_) #[true, true, false, false, false, false, false] rfl rfl (any_of HT_.out (by kernel_rfl)) (fun _ _ _ h => h) (Or.inl ⟨by rfl, ?_⟩) ?_ ?_
      rotate_left
      · intro w'
        go_simp
        with_reducible rfl
      rotate_left
      · simp only [Act.put, List.setIfInBounds_toArray, List.set_cons_zero, List.set_cons_succ, i64_w, i32_w]
        rfl
      refine pure_ (i := 2) (N := some 49) (v := ?_) (a' := ?_) #[true, true, true, false, false, false, false] rfl rfl (any_of HT_.out (by kernel_rfl)) (fun _ _ _ h => h) (Or.inl ⟨by rfl, ?_⟩) ?_ ?_
      rotate_left
      · intro w'
        go_simp
        with_reducible rfl
      rotate_left
      · simp only [Act.put, List.setIfInBounds_toArray, List.set_cons_zero, List.set_cons_succ, i64_w, i32_w]
        rfl
      refine pure_ (i := 3) (N := some 50) (v := ?_) (a' := ?_) #[true, true, true, true, false, false, false] rfl rfl (any_of HT_.out (by kernel_rfl)) (fun _ _ _ h => h) (Or.inl ⟨by rfl, ?_⟩) ?_ ?_
      rotate_left
      · intro w'
        go_simp
        with_reducible rfl
      rotate_left
      · simp only [Act.put, List.setIfInBounds_toArray, List.set_cons_zero, List.set_cons_succ, i64_w, i32_w]
        rfl
      refine one_ (i := 4) (N := some 51) #[true, true, true, true, true, false, false] rfl rfl (one_of HT_.out (by kernel_rfl)) (by decide) (fun K hK => ?_)
      refine goes_ Try.func32 (by kernel_rfl) rfl #[.slice A0 b2.length c0] (by rfl) rfl rfl (by (try simp only [List.map_toArray, List.map_cons, List.map_nil]); first | done | rfl) ?_
      refine (of_any A0 c0 b2 _ (unhide C0) hc2 (unhide HL2) hn2).mono ?_
      rintro e w10 ⟨rfl, hb⟩
      refine ⟨_, rfl, ?_⟩
      have NB1 := hide (below_step (unhide NB0) hb)
      have P1 := hide ((unhide P0).below hb)
      clear hb NB0 P0
      clear hHeld
      refine hK.out _ _ (unhide P1) (fun hHeld => ?_)
      clear hK K
      refine norm_ (a' := ?_) ?_ ?_
      rotate_left
      · show Act.put _ (some 51) _ = _
        simp only [Act.put, List.setIfInBounds_toArray, List.set_cons_zero, List.set_cons_succ, i64_w, i32_w]
        rfl
      refine pure_ (i := 5) (N := some 52) (v := ?_) (a' := ?_) #[true, true, true, true, true, true, false] rfl rfl (any_of HT_.out (by kernel_rfl)) (fun _ _ _ h => h) (Or.inl ⟨by rfl, ?_⟩) ?_ ?_
      rotate_left
      · intro w'
        go_simp
        with_reducible rfl
      rotate_left
      · simp only [Act.put, List.setIfInBounds_toArray, List.set_cons_zero, List.set_cons_succ, i64_w, i32_w]
        rfl
      refine pure_ (i := 6) (N := some 4) (v := ?_) (a' := ?_) #[true, true, true, true, true, true, true] rfl rfl (any_of HT_.out (by kernel_rfl)) (fun _ _ _ h => h) (Or.inl ⟨by rfl, ?_⟩) ?_ ?_
      rotate_left
      · intro w'
        go_simp
        with_reducible rfl
      rotate_left
      · simp only [Act.put, List.setIfInBounds_toArray, List.set_cons_zero, List.set_cons_succ, i64_w, i32_w]
        rfl
      refine done_ (done_of HT_.out (by kernel_rfl)) ?_
      clear HT_ HW_ hHeld
      go_wp2
      go_ret
      exact ⟨rfl, unhide NB1⟩

theorem law_any (A0 : Option Addr) (c0 : Nat) (l : List Int) (a1 : Int) (w : World) (hr0 : Kd.C (Kd.int .u8) w A0 l.length l) (hc0 : l.length ≤ c0) (hl0 : Bytes l) :
    Calls Try.prog 12 #[.slice A0 l.length c0, .int .i64 a1] w fun e w' => e = .returned (.bool true) ∧ Below w.heap.size w w' := by
  by_cases h1 : a1 < 1
  · exact law_not A0 c0 l a1 w hc0 (.inl h1)
  · by_cases h2 : a1 > ((l.take 200).length : Int)
    · exact law_not A0 c0 l a1 w hc0 (.inr ⟨by omega, h2⟩)
    · obtain ⟨sz, rfl⟩ : ∃ n : Nat, a1 = (n : Int) := ⟨a1.toNat, by omega⟩
      exact law_yes A0 c0 l sz w hr0 hc0 hl0 (by omega) (by omega)

end Go.Proofs.Ytjdkeicjhmdcfaa.WkRnd
