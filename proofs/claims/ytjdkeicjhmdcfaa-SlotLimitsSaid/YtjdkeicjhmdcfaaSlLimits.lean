import Derived.Test.YtjdkeicjhmdcfaaSl5
set_option linter.unusedSimpArgs false
set_option linter.unusedVariables false
namespace Go.Proofs.Ytjdkeicjhmdcfaa.SlLimits
open Go.RowKit Go.Maps Go.Proofs.YtjdkeicjhmdcfaaW.PrintWords Go.Proofs.YtjdkeicjhmdcfaaW.PrintLast Go.Proofs.YtjdkeicjhmdcfaaW.PrintMore Go.Proofs.Ytjdkeicjhmdcfaa.Wk Go.Proofs.Ytjdkeicjhmdcfaa.Sl
open Go.Proofs.Ytjdkeicjhmdcfaa.WkM (w64)

/-! All are in one module; never more than may be. -/
abbrev a_ : ByteArray := ⟨#[97]⟩
def Inv (l : List (Int × ByteArray)) (s : Nat) : Prop := (∀ x ∈ l, x.2 = a_) ∧ l.length ≤ s ∧ uniq_ l
variable {l : List (Int × ByteArray)} {s : Nat}
theorem inv_cnt (h : Inv l s) : cnt_ l a_ = l.length := by
  unfold cnt_
  rw [List.countP_eq_length]
  intro x hx
  simpa using h.1 x hx
theorem inv_put (h : Inv l s) (k : Int) : Inv (eput l k a_ s) s := by
  have hc := inv_cnt h
  unfold eput
  rw [hc]
  cases ha : at_ l k
  · by_cases e : (s : Int) ≤ (l.length : Int)
    · simp only [e, if_true]
      exact h
    · simp only [e, if_false]
      refine ⟨?_, ?_, uniq_put h.2.2 k _ ha⟩
      · intro x hx
        rcases List.mem_append.1 hx with hx | hx
        · exact h.1 x hx
        · simp only [List.mem_singleton] at hx
          rw [hx]
      · show (l ++ [(k, a_)]).length ≤ s
        rw [List.length_append, List.length_singleton]
        omega
  · exact h
theorem inv_out (h : Inv l s) (k : Int) : Inv (out_ l k) s := by
  refine ⟨fun x hx => h.1 x (List.mem_filter.1 hx).1, Nat.le_trans (List.length_filter_le _ _) h.2.1, uniq_out h.2.2 k⟩
theorem inv_last (h : Inv l s) (k : Int) (ha : at_ l k = true) : lres l k = 0 ∧ (out_ l k).length + 1 = l.length ∧ eres (out_ l k) k a_ s = 0 := by
  have h1 := len_out h.2.2 ha
  have h2 := h.2.1
  refine ⟨by simp [lres, ha], h1, ?_⟩
  unfold eres
  rw [at_out, inv_cnt (inv_out h k)]
  simp
  omega
theorem wf0 : (Lit.int .i64 0).wf = true := by decide
theorem law_neg (z : Int) (A : Option Addr) (n c : Nat) (w : World) (hn : n ≤ maxLen) (h : z < 0) :
    Calls Try.prog 14 #[.int .i64 z, .slice A n c] w fun e w' => e = .returned (.bool true) ∧ Below w.heap.size w w' := by
  unfold maxLen at hn
  go_enter Try.func14, Try.ntmps14
  go_wp2_with fail
  refine (enters_any _).mono ?_
  rintro e w1 ⟨rfl, hb⟩
  have HB := hide hb
  clear hb
  go_wp2
  go_ret
  exact ⟨rfl, unhide HB⟩
theorem law_big (z : Int) (A : Option Addr) (n c : Nat) (w : World) (hn : n ≤ maxLen) (h0 : ¬ z < 0) (h : 20 < z) :
    Calls Try.prog 14 #[.int .i64 z, .slice A n c] w fun e w' => e = .returned (.bool true) ∧ Below w.heap.size w w' := by
  unfold maxLen at hn
  go_enter Try.func14, Try.ntmps14
  go_wp2_with fail
  refine (enters_any _).mono ?_
  rintro e w1 ⟨rfl, hb⟩
  have HB := hide hb
  clear hb
  go_wp2
  go_ret
  exact ⟨rfl, unhide HB⟩
theorem law_many (z : Int) (A : Option Addr) (n c : Nat) (w : World) (hn : n ≤ maxLen) (h0 : ¬ z < 0) (h1 : ¬ 20 < z) (h : 100 < (n : Int)) :
    Calls Try.prog 14 #[.int .i64 z, .slice A n c] w fun e w' => e = .returned (.bool true) ∧ Below w.heap.size w w' := by
  unfold maxLen at hn
  go_enter Try.func14, Try.ntmps14
  go_wp2_with fail
  refine (enters_any _).mono ?_
  rintro e w1 ⟨rfl, hb⟩
  have HB := hide hb
  clear hb
  go_wp2
  go_ret
  exact ⟨rfl, unhide HB⟩
set_option maxRecDepth 100000 in
set_option maxHeartbeats 2000000 in
theorem law_in (s : Nat) (A : Option Addr) (c : Nat) (ys : List Int) (w : World) (hr : Kd.C (Kd.int .i64) w A ys.length ys) (hw : ∀ x ∈ ys, (Lit.int .i64 x).wf = true) (hs : s ≤ 20) (n : Nat) (hyn : ys.length = n) (hn : n ≤ 100) :
    Calls Try.prog 14 #[.int .i64 (s : Int), .slice A n c] w fun e w' => e = .returned (.bool true) ∧ Below w.heap.size w w' := by
  have hu49 := Try.underlying49
  have d3 : ¬ (s : Int) < 0 := by omega
  have d4 : ¬ 20 < (s : Int) := by omega
  have d5 : ¬ 100 < (n : Int) := by omega
  have HR := hide hr
  have HY := hide hyn
  have HW := hide hw
  clear hr hw hyn
  go_enter Try.func14, Try.ntmps14
  go_wp2_with fail
  refine (enters_any _).mono ?_
  rintro e w1 ⟨rfl, hb⟩
  have HB1 := hide hb
  have z1 : w.heap.size ≤ w1.heap.size := hb.size
  clear hb
  go_wp2_with fail
  refine (new_ok w1).mono ?_
  rintro e w2 ⟨rfl, h2, hb2⟩
  have NE : Hid (w2.heap.size ≠ w1.heap.size) := by show _ ≠ _; have := h2.lt; omega
  have S2 := hide (h2.alloc (.cells #[.string ⟨#[97]⟩, .string ⟨#[]⟩, .bool false, .int .i64 (s : Int), .int .i64 0, .slice none 0 0] 49))
  have X2 : Hid (Box6 (w2.alloc (.cells #[.string ⟨#[97]⟩, .string ⟨#[]⟩, .bool false, .int .i64 (s : Int), .int .i64 0, .slice none 0 0] 49)) w2.heap.size ⟨#[97]⟩ s) := blk_new _ _
  have B2 := hide (below_alloc (below_step (unhide HB1) hb2) (.cells #[.string ⟨#[97]⟩, .string ⟨#[]⟩, .bool false, .int .i64 (s : Int), .int .i64 0, .slice none 0 0] 49))
  clear h2 hb2 HB1
  go_wp2
  go_loopg [7, 8, 32] n (fun kq v7 v8 v32 wr => ∃ (i : Nat) (l : List (Int × ByteArray)) (last : Int) (som : Bool), v7 = .int .i64 last ∧ v8 = .bool som ∧ v32 = .int .i64 (i : Int) ∧ Hid (i + kq = n) ∧ Hid (Inv l s ∧ (Lit.int .i64 last).wf = true ∧ Slots wr (w1.heap.size + 1) w1.heap.size l ∧ Box6 wr w2.heap.size ⟨#[97]⟩ s ∧ Below w.heap.size w wr))
  case atStart => exact ⟨0, [], 0, false, rfl, rfl, rfl, Nat.zero_add _, ⟨fun x hx => by simp at hx, Nat.zero_le _, uniq_nil⟩, wf0, unhide S2, unhide X2, unhide B2⟩
  case round =>
    obtain ⟨i, l, last, som, rfl, rfl, rfl, HK, HREL⟩ := hrel
    obtain ⟨hI, hwl, hS, hX, hB⟩ := unhide HREL
    have HS := hide hS
    have HB := hide hB
    have HX := hide hX
    have HI := hide hI
    have HWL := hide hwl
    clear hS hB HREL S2 B2 X2 hX hI hwl
    obtain ⟨⟨_, _, _⟩, _, _, _⟩ := (unhide HX).cells
    by_cases hlt : i < n
    · obtain ⟨ad, rfl, hx⟩ := Kd.at_int (unhide HR) (i : Int) (by omega) (by rw [unhide HY]; omega)
      replace hx := ((unhide HB).cell (World.block_lt_of_cell? w _ hx)).trans hx
      rw [Int.toNat_natCast] at hx
      have HWY : Hid ((Lit.int .i64 (rd ys (i : Int))).wf = true) := unhide HW _ (by
        unfold rd
        rw [Int.toNat_natCast, List.getD_eq_getElem?_getD, List.getElem?_eq_getElem (by rw [unhide HY]; exact hlt)]
        exact List.getElem_mem _)
      generalize rd ys (i : Int) = y at hx HWY
      by_cases hm : i % 3 = 2
      · have r1 : (i : Int).tmod 3 = 2 := by rw [Int.tmod_eq_emod_of_nonneg (by omega)]; omega
        go_wp2_with fail
        refine (leave_ok (w1.heap.size + 1) w1.heap.size w1.heap.size l y _ (unhide HS) (unhide HWY) (Nat.le_refl _)).mono ?_
        rintro e w3 ⟨rfl, h3, hb3, hk3⟩
        have S3 := hide h3
        have I3 := hide (inv_out (unhide HI) y)
        have X3 : Hid (Box6 w3 w2.heap.size ⟨#[97]⟩ s) := (hk3.2 w2.heap.size (blk_lt (unhide HX)) (unhide NE) (by simp)).trans (unhide HX)
        have B3 := hide ((unhide HB).trans (hb3.mono z1))
        clear h3 hb3 hk3 HB HS HI
        go_wp2_with fail
        refine (count_ok (w1.heap.size + 1) w1.heap.size (out_ l y) ⟨#[97]⟩ _ (unhide S3) (by have := (unhide I3).2.1; omega)).mono ?_
        rintro e w4 ⟨rfl, hb4⟩
        rw [inv_cnt (unhide I3)]
        have S4 := hide ((unhide S3).below hb4)
        have X4 : Hid (Box6 w4 w2.heap.size ⟨#[97]⟩ s) := (blk_below (unhide X3) hb4)
        have B4 := hide (below_step (unhide B3) hb4)
        obtain ⟨q, hq⟩ : ∃ q, (out_ l y).length = q := ⟨_, rfl⟩
        rw [hq]
        have q3 : ¬ (s : Int) < (q : Int) := by rw [← hq]; have := (unhide I3).2.1; omega
        have HQ := hide hq
        clear hb4 S3 X3 B3 hq
        go_wp2_with fail
        refine (count_ok (w1.heap.size + 1) w1.heap.size (out_ l y) ⟨#[97]⟩ _ (unhide S4) (by have := (unhide I3).2.1; omega)).mono ?_
        rintro e w5 ⟨rfl, hb5⟩
        rw [inv_cnt (unhide I3), unhide HQ]
        have S5 := hide ((unhide S4).below hb5)
        have X5 : Hid (Box6 w5 w2.heap.size ⟨#[97]⟩ s) := (blk_below (unhide X4) hb5)
        have B5 := hide (below_step (unhide B4) hb5)
        clear hb5 S4 X4 B4
        go_wp2_with fail
        refine (len_ok (w1.heap.size + 1) w1.heap.size (out_ l y) _ (unhide S5)).mono ?_
        rintro e w' ⟨rfl, rfl⟩
        rw [unhide HQ]
        go_wp2
        go_roundg (gk - 1)
        case measure => have := unhide HK; omega
        case rel => exact ⟨i + 1, _, last, som, rfl, rfl, by go_num, by have := unhide HK; show i + 1 + (gk - 1) = n; omega, unhide I3, unhide HWL, unhide S5, unhide X5, unhide B5⟩
      · obtain ⟨r, r1, r2⟩ : ∃ r : Int, (i : Int).tmod 3 = r ∧ ¬ r = 2 := ⟨_, rfl, by rw [Int.tmod_eq_emod_of_nonneg (by omega)]; omega⟩
        go_wp2_with fail
        refine (enter_ok (w1.heap.size + 1) w1.heap.size w1.heap.size l y ⟨#[97]⟩ _ _ _ _ (s : Int) _ (unhide HS) (unhide HWY) (by have := (unhide HI).2.1; omega) (by decide) (Nat.le_refl _)).mono ?_
        rintro e w3 ⟨rfl, h3, hb3, hk3⟩
        have S3 := hide h3
        have I3 := hide (inv_put (unhide HI) y)
        have X3 : Hid (Box6 w3 w2.heap.size ⟨#[97]⟩ s) := (hk3.2 w2.heap.size (blk_lt (unhide HX)) (unhide NE) (by simp)).trans (unhide HX)
        have B3 := hide ((unhide HB).trans (hb3.mono z1))
        clear h3 hb3 hk3 HB HS HI
        obtain ⟨er, her⟩ : ∃ er, eres l y ⟨#[97]⟩ (s : Int) = er := ⟨_, rfl⟩
        rw [her]
        clear her
        by_cases h0 : er = 0
        · go_wp2_with fail
          refine (count_ok (w1.heap.size + 1) w1.heap.size (eput l y a_ s) ⟨#[97]⟩ _ (unhide S3) (by have := (unhide I3).2.1; omega)).mono ?_
          rintro e w4 ⟨rfl, hb4⟩
          rw [inv_cnt (unhide I3)]
          have S4 := hide ((unhide S3).below hb4)
          have X4 : Hid (Box6 w4 w2.heap.size ⟨#[97]⟩ s) := (blk_below (unhide X3) hb4)
          have B4 := hide (below_step (unhide B3) hb4)
          obtain ⟨q, hq⟩ : ∃ q, (eput l y a_ s).length = q := ⟨_, rfl⟩
          rw [hq]
          have q3 : ¬ (s : Int) < (q : Int) := by rw [← hq]; have := (unhide I3).2.1; omega
          have HQ := hide hq
          clear hb4 S3 X3 B3 hq
          go_wp2_with fail
          refine (count_ok (w1.heap.size + 1) w1.heap.size (eput l y a_ s) ⟨#[97]⟩ _ (unhide S4) (by have := (unhide I3).2.1; omega)).mono ?_
          rintro e w5 ⟨rfl, hb5⟩
          rw [inv_cnt (unhide I3), unhide HQ]
          have S5 := hide ((unhide S4).below hb5)
          have X5 : Hid (Box6 w5 w2.heap.size ⟨#[97]⟩ s) := (blk_below (unhide X4) hb5)
          have B5 := hide (below_step (unhide B4) hb5)
          clear hb5 S4 X4 B4
          go_wp2_with fail
          refine (len_ok (w1.heap.size + 1) w1.heap.size (eput l y a_ s) _ (unhide S5)).mono ?_
          rintro e w' ⟨rfl, rfl⟩
          rw [unhide HQ]
          go_wp2
          go_roundg (gk - 1)
          case measure => have := unhide HK; omega
          case rel => exact ⟨i + 1, _, y, true, rfl, rfl, by go_num, by have := unhide HK; show i + 1 + (gk - 1) = n; omega, unhide I3, unhide HWY, unhide S5, unhide X5, unhide B5⟩
        · go_wp2_with fail
          refine (count_ok (w1.heap.size + 1) w1.heap.size (eput l y a_ s) ⟨#[97]⟩ _ (unhide S3) (by have := (unhide I3).2.1; omega)).mono ?_
          rintro e w4 ⟨rfl, hb4⟩
          rw [inv_cnt (unhide I3)]
          have S4 := hide ((unhide S3).below hb4)
          have X4 : Hid (Box6 w4 w2.heap.size ⟨#[97]⟩ s) := (blk_below (unhide X3) hb4)
          have B4 := hide (below_step (unhide B3) hb4)
          obtain ⟨q, hq⟩ : ∃ q, (eput l y a_ s).length = q := ⟨_, rfl⟩
          rw [hq]
          have q3 : ¬ (s : Int) < (q : Int) := by rw [← hq]; have := (unhide I3).2.1; omega
          have HQ := hide hq
          clear hb4 S3 X3 B3 hq
          go_wp2_with fail
          refine (count_ok (w1.heap.size + 1) w1.heap.size (eput l y a_ s) ⟨#[97]⟩ _ (unhide S4) (by have := (unhide I3).2.1; omega)).mono ?_
          rintro e w5 ⟨rfl, hb5⟩
          rw [inv_cnt (unhide I3), unhide HQ]
          have S5 := hide ((unhide S4).below hb5)
          have X5 : Hid (Box6 w5 w2.heap.size ⟨#[97]⟩ s) := (blk_below (unhide X4) hb5)
          have B5 := hide (below_step (unhide B4) hb5)
          clear hb5 S4 X4 B4
          go_wp2_with fail
          refine (len_ok (w1.heap.size + 1) w1.heap.size (eput l y a_ s) _ (unhide S5)).mono ?_
          rintro e w' ⟨rfl, rfl⟩
          rw [unhide HQ]
          go_wp2
          go_roundg (gk - 1)
          case measure => have := unhide HK; omega
          case rel => exact ⟨i + 1, _, last, som, rfl, rfl, by go_num, by have := unhide HK; show i + 1 + (gk - 1) = n; omega, unhide I3, unhide HWL, unhide S5, unhide X5, unhide B5⟩
    · have hin : i = n := by have := unhide HK; omega
      subst hin
      have q1 : ¬ (i : Int) < (i : Int) := by omega
      go_wp2_with fail
      refine (in_ok (w1.heap.size + 1) w1.heap.size l last _ (unhide HS) (unhide HWL)).mono ?_
      rintro e w' ⟨rfl, rfl⟩
      cases ha : at_ l last
      · cases som
        · go_wp2
          go_ret
          exact ⟨rfl, unhide HB⟩
        · go_wp2
          go_ret
          exact ⟨rfl, unhide HB⟩
      · cases som
        · go_wp2
          go_ret
          exact ⟨rfl, unhide HB⟩
        · obtain ⟨f1, f2, f3⟩ := inv_last (unhide HI) last ha
          have I3 := hide (inv_out (unhide HI) last)
          obtain ⟨q, hq⟩ : ∃ q, (out_ l last).length = q := ⟨_, rfl⟩
          have hl : l.length = q + 1 := by omega
          have qb : q + 1 ≤ 1000 := by have := (unhide HI).2.1; omega
          have hw1 : Hid (wrap64 ((((q + 1 : Nat) : Int)) - 1) = (q : Int)) := by show _ = _; rw [w64 _ (by omega) (by omega)]; omega
          have F1 := hide f1
          have F3 := hide f3
          have HQ := hide hq
          have HL := hide hl
          clear f1 f2 f3 ha hq hl
          go_wp2_with fail
          refine (count_ok (w1.heap.size + 1) w1.heap.size l ⟨#[97]⟩ _ (unhide HS) (by have := unhide HL; omega)).mono ?_
          rintro e w3 ⟨rfl, hb3⟩
          rw [inv_cnt (unhide HI), unhide HL]
          have S3 := hide ((unhide HS).below hb3)
          have X3 : Hid (Box6 w3 w2.heap.size ⟨#[97]⟩ s) := (blk_below (unhide HX) hb3)
          have B3 := hide (below_step (unhide HB) hb3)
          clear hb3 HS HX HB
          go_wp2_with fail
          refine (leave_ok (w1.heap.size + 1) w1.heap.size w1.heap.size l last _ (unhide S3) (unhide HWL) (Nat.le_refl _)).mono ?_
          rintro e w4 ⟨rfl, h4, hb4, hk4⟩
          rw [unhide F1]
          have S4 := hide h4
          have X4 : Hid (Box6 w4 w2.heap.size ⟨#[97]⟩ s) := (hk4.2 w2.heap.size (blk_lt (unhide X3)) (unhide NE) (by simp)).trans (unhide X3)
          have B4 := hide ((unhide B3).trans (hb4.mono z1))
          clear h4 hb4 hk4 S3 X3 B3
          go_wp2_with fail
          refine (count_ok (w1.heap.size + 1) w1.heap.size (out_ l last) ⟨#[97]⟩ _ (unhide S4) (by have := unhide HQ; omega)).mono ?_
          rintro e w5 ⟨rfl, hb5⟩
          rw [inv_cnt (unhide I3), unhide HQ]
          have S5 := hide ((unhide S4).below hb5)
          have X5 : Hid (Box6 w5 w2.heap.size ⟨#[97]⟩ s) := (blk_below (unhide X4) hb5)
          have B5 := hide (below_step (unhide B4) hb5)
          clear hb5 S4 X4 B4
          obtain ⟨⟨_, _, _⟩, _, _, _⟩ := (unhide X5).cells
          have hq1 := unhide hw1
          go_wp2_with fail
          refine (enter_ok (w1.heap.size + 1) w1.heap.size w1.heap.size (out_ l last) last ⟨#[97]⟩ _ _ _ _ (s : Int) _ (unhide S5) (unhide HWL) (by have := unhide HQ; omega) (by decide) (Nat.le_refl _)).mono ?_
          rintro e w6 ⟨rfl, h6, hb6, hk6⟩
          rw [unhide F3]
          have B6 := hide ((unhide B5).trans (hb6.mono z1))
          clear h6 hb6 hk6
          go_wp2
          go_ret
          exact ⟨rfl, unhide B6⟩
theorem law_any (z : Int) (A : Option Addr) (c : Nat) (ys : List Int) (w : World) (hr : Kd.C (Kd.int .i64) w A ys.length ys) (hw : ∀ x ∈ ys, (Lit.int .i64 x).wf = true) (hm : ys.length ≤ maxLen) :
    Calls Try.prog 14 #[.int .i64 z, .slice A ys.length c] w fun e w' => e = .returned (.bool true) ∧ Below w.heap.size w w' := by
  by_cases h0 : z < 0
  · exact law_neg z A _ c w hm h0
  by_cases h1 : 20 < z
  · exact law_big z A _ c w hm h0 h1
  by_cases h2 : 100 < (ys.length : Int)
  · exact law_many z A _ c w hm h0 h1 h2
  obtain ⟨s, rfl⟩ : ∃ s : Nat, z = (s : Int) := ⟨z.toNat, by omega⟩
  exact law_in s A c ys w hr hw (by omega) _ rfl (by omega)
end Go.Proofs.Ytjdkeicjhmdcfaa.SlLimits
