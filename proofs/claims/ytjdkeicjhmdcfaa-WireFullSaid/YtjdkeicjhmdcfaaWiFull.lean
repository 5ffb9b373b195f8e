import Derived.Test.YtjdkeicjhmdcfaaWi2
set_option linter.unusedSimpArgs false
set_option linter.unusedVariables false
namespace Go.Proofs.Ytjdkeicjhmdcfaa.WiFull
open Go.RowKit Go.Proofs.YtjdkeicjhmdcfaaW.PrintWords Go.Proofs.YtjdkeicjhmdcfaaW.PrintLast Go.Proofs.YtjdkeicjhmdcfaaW.PrintMore Go.Proofs.Ytjdkeicjhmdcfaa.Wk Go.Proofs.Ytjdkeicjhmdcfaa.Wi

theorem law_not (more take : Int) (w : World) (h : more < -3 ∨ (¬ more < -3 ∧ 3 < more) ∨ (¬ more < -3 ∧ ¬ 3 < more ∧ take < 0) ∨ (¬ more < -3 ∧ ¬ 3 < more ∧ ¬ take < 0 ∧ 100 < take)) :
    Calls Try.prog 3 #[.int .i64 more, .int .i64 take] w fun e w' => e = .returned (.bool true) ∧ Below w.heap.size w w' := by
  rcases h with h | ⟨h, h1⟩ | ⟨h, h1, h2⟩ | ⟨h, h1, h2, h3⟩
  all_goals
    go_enter Try.func3, Try.ntmps3
    go_wp2_with fail
    refine (carries_any _).mono ?_
    rintro e w1 ⟨rfl, hb⟩
    have HB := hide hb
    clear hb
    go_wp2
    go_ret
    exact ⟨rfl, unhide HB⟩

/-- More bytes than may be. -/
theorem law_more (more take : Int) (w : World) (h1 : 0 < more) (h2 : more ≤ 3) (h3 : 0 ≤ take) (h4 : take ≤ 100) :
    Calls Try.prog 3 #[.int .i64 more, .int .i64 take] w fun e w' => e = .returned (.bool true) ∧ Below w.heap.size w w' := by
  obtain ⟨n, hn⟩ : ∃ n : Nat, 131072 + more = (n : Int) := ⟨(131072 + more).toNat, by omega⟩
  have hmk := make_any n (by omega)
  rw [← hn] at hmk
  have n1 : ¬ more < -3 := by omega
  have n2 : ¬ 3 < more := by omega
  have n3 : ¬ take < 0 := by omega
  have n4 : ¬ 100 < take := by omega
  have n5 : ¬ more ≤ 0 := by omega
  have q1 : 131072 < 0 + n := by omega
  have q2 : n ≤ 9223372036854775807 := by omega
  clear hn
  go_enter Try.func3, Try.ntmps3
  go_wp2_with fail
  refine (carries_any _).mono ?_
  rintro e w1 ⟨rfl, hb⟩
  have HB := hide hb
  clear hb
  go_wp2_with fail
  have W0 : Wire ((w1.alloc (.cells #[.slice none 0 0, .bool false] 25)).alloc (.cells (madeCells #[.int .u8 0] n) 5)) w1.heap.size (.slice none 0 0) false := blk_alloc (blk_new w1 _) _
  refine (put_full w1.heap.size none 0 0 _ n n _ W0 (by omega) q1 q2).mono ?_
  rintro e w' ⟨rfl, rfl⟩
  have HW := hide W0
  clear W0
  go_wp2_with fail
  refine (len_ok w1.heap.size none 0 0 false _ (unhide HW)).mono ?_
  rintro e w' ⟨rfl, rfl⟩
  go_wp2
  go_ret
  exact ⟨rfl, below_alloc (below_alloc (unhide HB) _) _⟩

/-- As many as may be. -/
theorem law_less (more take : Int) (w : World) (h1 : -3 ≤ more) (h2 : more ≤ 0) (h3 : 0 ≤ take) (h4 : take ≤ 100) :
    Calls Try.prog 3 #[.int .i64 more, .int .i64 take] w fun e w' => e = .returned (.bool true) ∧ Below w.heap.size w w' := by
  obtain ⟨t, rfl⟩ : ∃ t : Nat, take = (t : Int) := ⟨take.toNat, by omega⟩
  obtain ⟨n, hn⟩ : ∃ n : Nat, 131072 + more = (n : Int) := ⟨(131072 + more).toNat, by omega⟩
  obtain ⟨r, hr⟩ : ∃ r : Nat, (t : Int) - more = (r : Int) := ⟨((t : Int) - more).toNat, by omega⟩
  have hmk := make_any n (by omega)
  rw [← hn] at hmk
  have hmk2 := make_any (r + 1) (by omega)
  have er : (((r + 1 : Nat) : Int)) = (t : Int) - more + 1 := by omega
  rw [er] at hmk2
  have hmk3 := make_any r (by omega)
  rw [← hr] at hmk3
  have n1 : ¬ more < -3 := by omega
  have n2 : ¬ 3 < more := by omega
  have n3 : ¬ (t : Int) < 0 := by omega
  have n4 : ¬ 100 < (t : Int) := by omega
  have n5 : ¬ 0 < more := by omega
  have q1 : n ≤ 131072 := by omega
  have q3 : 131072 < n - t + (r + 1) := by omega
  have q4 : r + 1 ≤ 9223372036854775807 := by omega
  have q5 : n - t + r = 131072 := by omega
  have q6 : n - t ≤ 131072 := by omega
  have q7 : came (t : Int) n = t := by unfold came; rw [if_neg (by omega)]; omega
  have q8 : r ≤ 200000 := by omega
  have q9 : n ≤ 200000 := by omega
  have q10 : 0 + n = n := by omega
  have Q5 := hide q5
  have Q7 := hide q7
  have Q10 := hide q10
  clear hn hr er q5 q7 q10
  go_enter Try.func3, Try.ntmps3
  go_wp2_with fail
  refine (carries_any _).mono ?_
  rintro e w1 ⟨rfl, hb⟩
  have HB := hide hb
  have z1 : w.heap.size ≤ w1.heap.size := hb.size
  clear hb
  go_wp2_with fail
  have W0 : Wire ((w1.alloc (.cells #[.slice none 0 0, .bool false] 25)).alloc (.cells (madeCells #[.int .u8 0] n) 5)) w1.heap.size (.slice none 0 0) false := blk_alloc (blk_new w1 _) _
  have O0 := own_made (w1.alloc (.cells #[.slice none 0 0, .bool false] 25)) w.heap.size n (by simp; omega) q9
  rw [World.size_alloc] at O0
  refine (put_okn w1.heap.size w.heap.size (.slice none 0 0) [] _ n n n (List.replicate n 0) _ W0 (Kd.R_nil _ _ _ _ _) (own_reads O0).2.2 (by simp; omega) z1 (by simp) (unhide Q10) q1).mono ?_
  rintro e w2 ⟨A1, c1, rfl, hW1, hO1, hB1, hK1, hat1⟩
  rw [List.nil_append] at hO1
  have NB := hide ((below_alloc (below_alloc (unhide HB) (.cells #[.slice none 0 0, .bool false] 25)) (.cells (madeCells #[.int .u8 0] n) 5)).trans hB1)
  have HW := hide hW1
  have HO := hide hO1
  clear W0 O0 hW1 hO1 hB1 hK1 hat1 HB
  have hl : (List.replicate n (0 : Int)).length = n := List.length_replicate
  generalize List.replicate n (0 : Int) = L at HO hl
  have HT := hide (take_okn w1.heap.size w.heap.size (.slice A1 n c1) false L (t : Int) t w2 (unhide HW) (unhide HO) (unhide NB).size z1 (by omega) (by rw [hl]; exact unhide Q7))
  rw [hl] at HT
  have hld : (L.drop t).length = n - t := by rw [List.length_drop, hl]
  generalize L.drop t = L2 at HT hld
  clear hl HO
  go_wp2_with fail
  refine (unhide HT).mono ?_
  rintro e w3 ⟨A, c, A2, c2, rfl, hO2, hW2, hO3, hB2, hK2, hd⟩
  have NB2 := hide ((unhide NB).trans hB2)
  have HW2 := hide hW2
  have HO3 := hide (Kd.R_lower hO3 (unhide NB).size)
  clear hO2 hW2 hO3 hB2 hK2 hd HT HW NB
  go_wp2_with fail
  have z2 : w.heap.size ≤ w3.heap.size := (unhide NB2).size
  refine (put_full w1.heap.size A2 (n - t) c2 _ (r + 1) (r + 1) _ (blk_alloc (unhide HW2) _) q6 q3 q4).mono ?_
  rintro e w' ⟨rfl, rfl⟩
  go_wp2_with fail
  have O1 := own_made (w3.alloc (.cells (madeCells #[.int .u8 0] (r + 1)) 5)) w.heap.size r (by simp; omega) q8
  rw [World.size_alloc] at O1
  refine (put_okn w1.heap.size w.heap.size (.slice A2 (n - t) c2) L2 _ r r 131072 (List.replicate r 0) _ (blk_alloc (blk_alloc (unhide HW2) _) _) (Kd.R_alloc (Kd.R_alloc (unhide HO3) _) _) (own_reads O1).2.2 (by simp; omega) z1 (by simp) (by rw [hld]; exact unhide Q5) (Nat.le_refl _)).mono ?_
  rintro e w4 ⟨A4, c4, rfl, hW4, hO4, hB4, hK4, hat4⟩
  have NB3 := hide ((below_alloc (below_alloc (unhide NB2) (.cells (madeCells #[.int .u8 0] (r + 1)) 5)) (.cells (madeCells #[.int .u8 0] r) 5)).trans hB4)
  have HW4 := hide hW4
  clear hW4 hO4 hB4 hK4 hat4 O1
  go_wp2_with fail
  refine (len_ok w1.heap.size A4 131072 c4 false _ (unhide HW4)).mono ?_
  rintro e w' ⟨rfl, rfl⟩
  go_wp2
  go_ret
  exact ⟨rfl, unhide NB3⟩

theorem law_any (more take : Int) (w : World) : Calls Try.prog 3 #[.int .i64 more, .int .i64 take] w fun e w' => e = .returned (.bool true) ∧ Below w.heap.size w w' := by
  by_cases h1 : more < -3
  · exact law_not more take w (.inl h1)
  by_cases h2 : 3 < more
  · exact law_not more take w (.inr (.inl ⟨h1, h2⟩))
  by_cases h3 : take < 0
  · exact law_not more take w (.inr (.inr (.inl ⟨h1, h2, h3⟩)))
  by_cases h4 : 100 < take
  · exact law_not more take w (.inr (.inr (.inr ⟨h1, h2, h3, h4⟩)))
  by_cases h5 : 0 < more
  · exact law_more more take w h5 (by omega) (by omega) (by omega)
  · exact law_less more take w (by omega) (by omega) (by omega) (by omega)
end Go.Proofs.Ytjdkeicjhmdcfaa.WiFull
