import Derived.Test.YtjdkeicjhmdcfaaSl5
set_option linter.unusedSimpArgs false
set_option linter.unusedVariables false
namespace Go.Proofs.Ytjdkeicjhmdcfaa.SlApart
open Go.RowKit Go.Maps Go.Proofs.YtjdkeicjhmdcfaaW.PrintWords Go.Proofs.YtjdkeicjhmdcfaaW.PrintLast Go.Proofs.YtjdkeicjhmdcfaaW.PrintMore Go.Proofs.Ytjdkeicjhmdcfaa.Wk Go.Proofs.Ytjdkeicjhmdcfaa.Sl
open Go.Proofs.Ytjdkeicjhmdcfaa.WkM (w64)
attribute [local go_sem] max2_int min2_int max_two min_two

/-! Who is in a, b, c after so many rounds. -/
def Inv (l : List (Int × ByteArray)) (i s : Nat) : Prop :=
  l.length = min i s + i ∧ cnt_ l ⟨#[97]⟩ = min i s ∧ cnt_ l ⟨#[98]⟩ = i ∧ cnt_ l ⟨#[99]⟩ = 0 ∧ ∀ k, at_ l k = true → (0 ≤ k ∧ k < (i : Int)) ∨ (1000 ≤ k ∧ k < 1000 + (i : Int))
theorem inv_nil (s : Nat) : Inv [] 0 s := ⟨by simp, by simp [cnt_], rfl, rfl, fun k hk => by simp [at_] at hk⟩
theorem inv_out {l : List (Int × ByteArray)} {i s : Nat} (h : Inv l i s) {k : Int} (hk : ¬((0 ≤ k ∧ k < (i : Int)) ∨ (1000 ≤ k ∧ k < 1000 + (i : Int)))) : at_ l k = false := by
  cases ha : at_ l k
  · rfl
  · exact absurd (h.2.2.2.2 k ha) hk
theorem na : ((⟨#[97]⟩ : ByteArray) = ⟨#[98]⟩) = False ∧ ((⟨#[97]⟩ : ByteArray) = ⟨#[99]⟩) = False ∧ ((⟨#[98]⟩ : ByteArray) = ⟨#[97]⟩) = False ∧ ((⟨#[98]⟩ : ByteArray) = ⟨#[99]⟩) = False := by simp
theorem step1 {l : List (Int × ByteArray)} {i s : Nat} (h : Inv l i s) (hi : i < 30) :
    eres l i ⟨#[97]⟩ s = (if s ≤ i then 150 else 0) ∧ eput l i ⟨#[97]⟩ s = (if s ≤ i then l else l ++ [((i : Int), ⟨#[97]⟩)]) := by
  have ha := inv_out h (k := (i : Int)) (by omega)
  unfold eres eput
  rw [ha, h.2.1]
  by_cases e : s ≤ i
  · have : (s : Int) ≤ ((min i s : Nat) : Int) := by omega
    simp only [this, e, if_true]
    exact ⟨rfl, rfl⟩
  · have : ¬(s : Int) ≤ ((min i s : Nat) : Int) := by omega
    simp only [this, e, if_false]
    exact ⟨rfl, rfl⟩
def L1 (l : List (Int × ByteArray)) (i s : Nat) : List (Int × ByteArray) := if s ≤ i then l else l ++ [((i : Int), ⟨#[97]⟩)]
def L2 (l : List (Int × ByteArray)) (i s : Nat) : List (Int × ByteArray) := L1 l i s ++ [(1000 + (i : Int), ⟨#[98]⟩)]
theorem at1 {l : List (Int × ByteArray)} {i s : Nat} (h : Inv l i s) (hi : i < 30) (k : Int) (hk : (i : Int) < k) (hk2 : ¬(1000 ≤ k ∧ k < 1000 + (i : Int))) : at_ (L1 l i s) k = false := by
  have ha := inv_out h (k := k) (by omega)
  unfold L1
  split
  · exact ha
  · rw [at_put, ha]
    simp
    omega
theorem cnt1 {l : List (Int × ByteArray)} {i s : Nat} (h : Inv l i s) : cnt_ (L1 l i s) ⟨#[97]⟩ = min (i + 1) s ∧ cnt_ (L1 l i s) ⟨#[98]⟩ = i ∧ cnt_ (L1 l i s) ⟨#[99]⟩ = 0 ∧ (L1 l i s).length = min (i + 1) s + i := by
  obtain ⟨h1, h2, h3, h4, h5⟩ := h
  unfold L1
  split
  · exact ⟨by omega, h3, h4, by omega⟩
  · rw [cnt_put, cnt_put, cnt_put, List.length_append, h1, h2, h3, h4]
    simp only [na.1, na.2.1, eq_self, if_true, if_false, List.length_singleton]
    refine ⟨?_, ?_, ?_, ?_⟩ <;> first | trivial | omega
theorem step2 {l : List (Int × ByteArray)} {i s : Nat} (h : Inv l i s) (hi : i < 30) :
    eres (L1 l i s) (1000 + (i : Int)) ⟨#[98]⟩ 100 = 0 ∧ eput (L1 l i s) (1000 + (i : Int)) ⟨#[98]⟩ 100 = L2 l i s := by
  have ha := at1 h hi (1000 + (i : Int)) (by omega) (by omega)
  have hc := (cnt1 h).2.1
  unfold eres eput
  rw [ha, hc]
  have : ¬(100 : Int) ≤ (i : Int) := by omega
  simp only [this, if_false]
  exact ⟨rfl, rfl⟩
theorem step3 {l : List (Int × ByteArray)} {i s : Nat} (h : Inv l i s) (hi : i < 30) :
    eres (L2 l i s) (2000 + (i : Int)) ⟨#[99]⟩ 0 = 150 ∧ eput (L2 l i s) (2000 + (i : Int)) ⟨#[99]⟩ 0 = L2 l i s ∧ Inv (L2 l i s) (i + 1) s := by
  have ha := at1 h hi (2000 + (i : Int)) (by omega) (by omega)
  have hb : at_ (L2 l i s) (2000 + (i : Int)) = false := by
    unfold L2
    rw [at_put, ha]
    simp only [Bool.false_or, beq_eq_false_iff_ne]
    omega
  obtain ⟨h1, h2, h3, h4⟩ := cnt1 h
  have hc : cnt_ (L2 l i s) ⟨#[99]⟩ = 0 := by
    unfold L2
    rw [cnt_put, h3]
    simp only [na.2.2.2, if_false]
  unfold eres eput
  rw [hb, hc]
  refine ⟨rfl, by simp, ?_, ?_, ?_, hc, ?_⟩
  · unfold L2
    rw [List.length_append, h4, List.length_singleton]
    omega
  · unfold L2
    rw [cnt_put, h1]
    simp only [na.2.2.1, if_false]
    omega
  · unfold L2
    rw [cnt_put, h2]
    simp
  · intro k hk
    unfold L2 at hk
    rw [at_put] at hk
    simp only [Bool.or_eq_true, beq_iff_eq] at hk
    rcases hk with hk | hk
    · unfold L1 at hk
      split at hk
      · have := h.2.2.2.2 k hk
        omega
      · rw [at_put] at hk
        simp only [Bool.or_eq_true, beq_iff_eq] at hk
        rcases hk with hk | hk
        · have := h.2.2.2.2 k hk
          omega
        · omega
    · omega
theorem wf_i (x : Int) (h0 : 0 ≤ x) (h1 : x ≤ 100000) : (Lit.int .i64 x).wf = true := by
  simp [Lit.wf, IntKind.min, IntKind.max, IntKind.bits, IntKind.signed]
  omega
theorem law_out (n s : Int) (w : World) (h : (n < 0 ∨ 30 < n) ∨ (s < 0 ∨ 30 < s)) (hn : 0 ≤ n ∧ n ≤ 30 ∨ n < 0 ∨ 30 < n) :
    Calls Try.prog 6 #[.int .i64 n, .int .i64 s] w fun e w' => e = .returned (.bool true) ∧ Below w.heap.size w w' := by
  by_cases h1 : n < 0
  · go_enter Try.func6, Try.ntmps6
    go_wp2_with fail
    refine (enters_any _).mono ?_
    rintro e w1 ⟨rfl, hb⟩
    have HB := hide hb
    clear hb
    go_wp2
    go_ret
    exact ⟨rfl, unhide HB⟩
  by_cases h2 : 30 < n
  · go_enter Try.func6, Try.ntmps6
    go_wp2_with fail
    refine (enters_any _).mono ?_
    rintro e w1 ⟨rfl, hb⟩
    have HB := hide hb
    clear hb
    go_wp2
    go_ret
    exact ⟨rfl, unhide HB⟩
  by_cases h3 : s < 0
  · go_enter Try.func6, Try.ntmps6
    go_wp2_with fail
    refine (enters_any _).mono ?_
    rintro e w1 ⟨rfl, hb⟩
    have HB := hide hb
    clear hb
    go_wp2
    go_ret
    exact ⟨rfl, unhide HB⟩
  · have h4 : 30 < s := by omega
    go_enter Try.func6, Try.ntmps6
    go_wp2_with fail
    refine (enters_any _).mono ?_
    rintro e w1 ⟨rfl, hb⟩
    have HB := hide hb
    clear hb
    go_wp2
    go_ret
    exact ⟨rfl, unhide HB⟩
set_option maxRecDepth 100000 in
set_option maxHeartbeats 1500000 in
theorem law_in (n s : Nat) (w : World) (hn : n ≤ 30) (hs : s ≤ 30) :
    Calls Try.prog 6 #[.int .i64 (n : Int), .int .i64 (s : Int)] w fun e w' => e = .returned (.bool true) ∧ Below w.heap.size w w' := by
  have d1 : ¬ (n : Int) < 0 := by omega
  have d2 : ¬ 30 < (n : Int) := by omega
  have d3 : ¬ (s : Int) < 0 := by omega
  have d4 : ¬ 30 < (s : Int) := by omega
  go_enter Try.func6, Try.ntmps6
  go_wp2_with fail
  refine (enters_any _).mono ?_
  rintro e w1 ⟨rfl, hb⟩
  have HB1 := hide hb
  have z1 : w.heap.size ≤ w1.heap.size := hb.size
  clear hb
  go_wp2_with fail
  refine (new_ok w1).mono ?_
  rintro e w2 ⟨rfl, h2, hb2⟩
  have S2 := hide h2
  have B2 := hide (below_step (unhide HB1) hb2)
  clear h2 hb2 HB1
  go_wp2
  go_loopg [26] n (fun kq v26 wr => ∃ (i : Nat) (l : List (Int × ByteArray)), v26 = .int .i64 (i : Int) ∧ Hid (i + kq = n) ∧ Hid (Inv l i s ∧ Slots wr (w1.heap.size + 1) w1.heap.size l ∧ Below w.heap.size w wr))
  case atStart => exact ⟨0, [], rfl, Nat.zero_add _, inv_nil s, unhide S2, unhide B2⟩
  case round =>
    obtain ⟨i, l, rfl, HK, HREL⟩ := hrel
    obtain ⟨HI, hS, hB⟩ := unhide HREL
    have HS := hide hS
    have HB := hide hB
    have HLEN : l.length ≤ 1000 := by rw [HI.1]; have := unhide HK; omega
    clear hS hB HREL S2 B2
    by_cases hlt : i < n
    · have hlt30 : i < 30 := by omega
      have q1 : (i : Int) < (n : Int) := by omega
      have W0 := hide (wf_i (i : Int) (by omega) (by omega))
      have W1 := hide (wf_i (1000 + (i : Int)) (by omega) (by omega))
      have W2 := hide (wf_i (2000 + (i : Int)) (by omega) (by omega))
      have E1 := hide (w64 (1000 + (i : Int)) (by omega) (by omega))
      have E2 := hide (w64 (2000 + (i : Int)) (by omega) (by omega))
      have E3 := hide (w64 ((i : Int) + 1) (by omega) (by omega))
      have F : (L1 l i s).length ≤ 1000 ∧ (L2 l i s).length ≤ 1000 := by
        have e := (cnt1 HI).2.2.2
        unfold L2
        rw [List.length_append, e, List.length_singleton]
        omega
      by_cases hc : s ≤ i
      · have q2 : ¬ (i : Int) < (s : Int) := by omega
        have HIH := hide HI
        have HLH := hide HLEN
        have FH := hide F
        clear HI HLEN F
        go_wp2_with fail
        have HI := unhide HIH
        have HLEN := unhide HLH
        have F := unhide FH
        clear HIH HLH FH
        refine (enter_ok (w1.heap.size + 1) w1.heap.size w1.heap.size l (i : Int) ⟨#[97]⟩ _ _ _ _ (s : Int) _ (unhide HS) (unhide W0) HLEN (by decide) (Nat.le_refl _)).mono ?_
        rintro e w3 ⟨rfl, h3, hb3, hk3⟩
        rw [(step1 HI hlt30).1, if_pos hc]
        rw [(step1 HI hlt30).2] at h3
        have S3 : Hid (Slots w3 (w1.heap.size + 1) w1.heap.size (L1 l i s)) := h3
        have B3 := hide ((unhide HB).trans (hb3.mono z1))
        have F3 := hide F
        clear h3 hb3 hk3 HS HB F
        go_wp2_with fail
        have F := unhide F3
        clear F3
        refine (enter_ok (w1.heap.size + 1) w1.heap.size w1.heap.size (L1 l i s) (1000 + (i : Int)) ⟨#[98]⟩ _ _ _ _ 100 _ (unhide S3) (unhide W1) F.1 (by decide) (Nat.le_refl _)).mono ?_
        rintro e w4 ⟨rfl, h4, hb4, hk4⟩
        rw [(step2 HI hlt30).1]
        rw [(step2 HI hlt30).2] at h4
        have S4 := hide h4
        have B4 := hide ((unhide B3).trans (hb4.mono z1))
        have F4 := hide F
        clear h4 hb4 hk4 S3 B3 F
        go_wp2_with fail
        have F := unhide F4
        clear F4
        refine (enter_ok (w1.heap.size + 1) w1.heap.size w1.heap.size (L2 l i s) (2000 + (i : Int)) ⟨#[99]⟩ _ _ _ _ 0 _ (unhide S4) (unhide W2) F.2 (by decide) (Nat.le_refl _)).mono ?_
        rintro e w5 ⟨rfl, h5, hb5, hk5⟩
        rw [(step3 HI hlt30).1]
        rw [(step3 HI hlt30).2.1] at h5
        have S5 := hide h5
        have B5 := hide ((unhide B4).trans (hb5.mono z1))
        have HI5 := hide (step3 HI hlt30).2.2
        clear h5 hb5 hk5 S4 B4 F HI HLEN
        go_wp2
        go_roundg (gk - 1)
        case measure => have := unhide HK; omega
        case rel => exact ⟨i + 1, _, by go_num, by have := unhide HK; show i + 1 + (gk - 1) = n; omega, unhide HI5, unhide S5, unhide B5⟩
      · have q2 : (i : Int) < (s : Int) := by omega
        have HIH := hide HI
        have HLH := hide HLEN
        have FH := hide F
        clear HI HLEN F
        go_wp2_with fail
        have HI := unhide HIH
        have HLEN := unhide HLH
        have F := unhide FH
        clear HIH HLH FH
        refine (enter_ok (w1.heap.size + 1) w1.heap.size w1.heap.size l (i : Int) ⟨#[97]⟩ _ _ _ _ (s : Int) _ (unhide HS) (unhide W0) HLEN (by decide) (Nat.le_refl _)).mono ?_
        rintro e w3 ⟨rfl, h3, hb3, hk3⟩
        rw [(step1 HI hlt30).1, if_neg hc]
        rw [(step1 HI hlt30).2] at h3
        have S3 : Hid (Slots w3 (w1.heap.size + 1) w1.heap.size (L1 l i s)) := h3
        have B3 := hide ((unhide HB).trans (hb3.mono z1))
        have F3 := hide F
        clear h3 hb3 hk3 HS HB F
        go_wp2_with fail
        have F := unhide F3
        clear F3
        refine (enter_ok (w1.heap.size + 1) w1.heap.size w1.heap.size (L1 l i s) (1000 + (i : Int)) ⟨#[98]⟩ _ _ _ _ 100 _ (unhide S3) (unhide W1) F.1 (by decide) (Nat.le_refl _)).mono ?_
        rintro e w4 ⟨rfl, h4, hb4, hk4⟩
        rw [(step2 HI hlt30).1]
        rw [(step2 HI hlt30).2] at h4
        have S4 := hide h4
        have B4 := hide ((unhide B3).trans (hb4.mono z1))
        have F4 := hide F
        clear h4 hb4 hk4 S3 B3 F
        go_wp2_with fail
        have F := unhide F4
        clear F4
        refine (enter_ok (w1.heap.size + 1) w1.heap.size w1.heap.size (L2 l i s) (2000 + (i : Int)) ⟨#[99]⟩ _ _ _ _ 0 _ (unhide S4) (unhide W2) F.2 (by decide) (Nat.le_refl _)).mono ?_
        rintro e w5 ⟨rfl, h5, hb5, hk5⟩
        rw [(step3 HI hlt30).1]
        rw [(step3 HI hlt30).2.1] at h5
        have S5 := hide h5
        have B5 := hide ((unhide B4).trans (hb5.mono z1))
        have HI5 := hide (step3 HI hlt30).2.2
        clear h5 hb5 hk5 S4 B4 F HI HLEN
        go_wp2
        go_roundg (gk - 1)
        case measure => have := unhide HK; omega
        case rel => exact ⟨i + 1, _, by go_num, by have := unhide HK; show i + 1 + (gk - 1) = n; omega, unhide HI5, unhide S5, unhide B5⟩
    · have hin : i = n := by have := unhide HK; omega
      subst hin
      obtain ⟨c1, c2, c3, c4, _⟩ := HI
      have q1 : ¬ (i : Int) < (i : Int) := by omega
      by_cases hmn : s < i
      · have m2 : min i s = s := by omega
        rw [m2] at c1 c2
        have HLEN2 := hide HLEN
        have C1 := hide c1
        have C2 := hide c2
        have C3 := hide c3
        have C4 := hide c4
        clear m2 HLEN c1 c2 c3 c4
        go_wp2_with fail
        refine (count_ok (w1.heap.size + 1) w1.heap.size l ⟨#[97]⟩ _ (unhide HS) (unhide HLEN2)).mono ?_
        rintro e w3 ⟨rfl, hb3⟩
        rw [unhide C2]
        have S3 := hide ((unhide HS).below hb3)
        have B3 := hide (below_step (unhide HB) hb3)
        clear hb3 HS HB
        go_wp2_with fail
        refine (count_ok (w1.heap.size + 1) w1.heap.size l ⟨#[98]⟩ _ (unhide S3) (unhide HLEN2)).mono ?_
        rintro e w4 ⟨rfl, hb4⟩
        rw [unhide C3]
        have S4 := hide ((unhide S3).below hb4)
        have B4 := hide (below_step (unhide B3) hb4)
        clear hb4 S3 B3
        go_wp2_with fail
        refine (count_ok (w1.heap.size + 1) w1.heap.size l ⟨#[99]⟩ _ (unhide S4) (unhide HLEN2)).mono ?_
        rintro e w5 ⟨rfl, hb5⟩
        rw [unhide C4]
        have S5 := hide ((unhide S4).below hb5)
        have B5 := hide (below_step (unhide B4) hb5)
        clear hb5 S4 B4
        go_wp2_with fail
        refine (len_ok (w1.heap.size + 1) w1.heap.size l _ (unhide S5)).mono ?_
        rintro e w' ⟨rfl, rfl⟩
        rw [unhide C1]
        go_wp2
        go_ret
        exact ⟨rfl, unhide B5⟩
      · have m2 : min i s = i := by omega
        rw [m2] at c1 c2
        have HLEN2 := hide HLEN
        have C1 := hide c1
        have C2 := hide c2
        have C3 := hide c3
        have C4 := hide c4
        clear m2 HLEN c1 c2 c3 c4
        go_wp2_with fail
        refine (count_ok (w1.heap.size + 1) w1.heap.size l ⟨#[97]⟩ _ (unhide HS) (unhide HLEN2)).mono ?_
        rintro e w3 ⟨rfl, hb3⟩
        rw [unhide C2]
        have S3 := hide ((unhide HS).below hb3)
        have B3 := hide (below_step (unhide HB) hb3)
        clear hb3 HS HB
        go_wp2_with fail
        refine (count_ok (w1.heap.size + 1) w1.heap.size l ⟨#[98]⟩ _ (unhide S3) (unhide HLEN2)).mono ?_
        rintro e w4 ⟨rfl, hb4⟩
        rw [unhide C3]
        have S4 := hide ((unhide S3).below hb4)
        have B4 := hide (below_step (unhide B3) hb4)
        clear hb4 S3 B3
        go_wp2_with fail
        refine (count_ok (w1.heap.size + 1) w1.heap.size l ⟨#[99]⟩ _ (unhide S4) (unhide HLEN2)).mono ?_
        rintro e w5 ⟨rfl, hb5⟩
        rw [unhide C4]
        have S5 := hide ((unhide S4).below hb5)
        have B5 := hide (below_step (unhide B4) hb5)
        clear hb5 S4 B4
        go_wp2_with fail
        refine (len_ok (w1.heap.size + 1) w1.heap.size l _ (unhide S5)).mono ?_
        rintro e w' ⟨rfl, rfl⟩
        rw [unhide C1]
        go_wp2
        go_ret
        exact ⟨rfl, unhide B5⟩
theorem law_any (n s : Int) (w : World) : Calls Try.prog 6 #[.int .i64 n, .int .i64 s] w fun e w' => e = .returned (.bool true) ∧ Below w.heap.size w w' := by
  by_cases h : (n < 0 ∨ 30 < n) ∨ (s < 0 ∨ 30 < s)
  · exact law_out n s w h (by omega)
  · obtain ⟨a, rfl⟩ : ∃ a : Nat, n = (a : Int) := ⟨n.toNat, by omega⟩
    obtain ⟨b, rfl⟩ : ∃ b : Nat, s = (b : Int) := ⟨s.toNat, by omega⟩
    exact law_in a b w (by omega) (by omega)
end Go.Proofs.Ytjdkeicjhmdcfaa.SlApart
