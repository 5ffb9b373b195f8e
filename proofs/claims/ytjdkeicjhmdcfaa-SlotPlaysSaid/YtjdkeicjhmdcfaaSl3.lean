import Derived.Test.YtjdkeicjhmdcfaaSl2
set_option linter.unusedSimpArgs false
set_option linter.unusedVariables false
namespace Go.Proofs.Ytjdkeicjhmdcfaa.Sl
open Go.RowKit Go.Maps Go.Proofs.YtjdkeicjhmdcfaaW.PrintWords Go.Proofs.YtjdkeicjhmdcfaaW.PrintLast Go.Proofs.YtjdkeicjhmdcfaaW.PrintMore Go.Proofs.Ytjdkeicjhmdcfaa.Wk
open Go.Proofs.Ytjdkeicjhmdcfaa.WkM (w64)

theorem str_eq {a b : ByteArray} (h : a = b) : (a.toList == b.toList) = true := by rw [h]; simp
theorem str_ne {a b : ByteArray} (h : ¬a = b) : (a.toList == b.toList) = false := by
  rw [ByteArray.toList_eq, ByteArray.toList_eq]
  cases hs : a.data.toList == b.data.toList
  · rfl
  · exact absurd (bytes_inj (by simpa using hs)) h
set_option maxRecDepth 100000 in
theorem count_ok (g b : Nat) (l : List (Int × ByteArray)) (m : ByteArray) (w : World) (h : Slots w g b l) (hl : l.length ≤ 1000) :
    Calls Try.prog 27 #[.pointer (some ⟨g, 0, none⟩), .string m] w fun e w' => e = .returned (.int .i64 (cnt_ l m : Int)) ∧ Below w.heap.size w w' := by
  have hu77 := Try.underlying77
  obtain ⟨c1, c2, c3⟩ := h.cell
  obtain ⟨h0, ⟨D, hown, hi⟩, ho⟩ := h
  have hcl := cnt_le (l := l) m
  have HI := hide hi
  have H1 := hide ho
  clear h0 hi ho
  go_enter Try.func27, Try.ntmps27
  go_wp2_with (first
    | (at_range; refine wpList_range_own _ rfl _ 75 rfl 3 9 law3 Try.underlying75 _ b l.length _ rfl hown ?_; intro w0 hrg0 hg0 hs0)
    | go_in)
  go_frame
  clear hown
  go_loopw [5] (fun v5 wr => ∃ (left : Lit → Bool) (cnt c : Nat), v5 = .int .i64 (c : Int) ∧ wr.ranges Try.prog 3 (plainElem Try.prog 9) b w.heap.size l.length D left cnt ∧ c + some_ l left m = cnt_ l m ∧ (∀ k, left (.int .i64 k) = true → Maps.has D (.int .i64 k) = true) ∧ Below w.heap.size w wr)
    (fun _ wr => wr.rangeLeft b w.heap.size)
  case atStart =>
    exact ⟨_, _, 0, rfl, hrg0, by rw [some_all (unhide HI), Nat.zero_add], fun _ h => h, (Below.refl _ _).grown hg0 (by simp) (fun j hj => by cases hj)⟩
  case round =>
    obtain ⟨left, cnt, c, rfl, hrg, hc, hlf, hB⟩ := hrel
    go_wp2_with (first
      | (at_next; refine wpList_next_ranges_is _ rfl _ rfl 3 9 .i64 law3 Try.underlying3 Try.underlying9 b w.heap.size l.length _ _ _ rfl hrg ?_ ?_)
      | go_in)
    · intro hc0 hl0
      rw [some_none hl0] at hc
      have e : c = cnt_ l m := by omega
      subst e
      go_wp2
      go_ret
      exact ⟨rfl, hB⟩
    · intro x s w1 cnt1 hwx hs hlx hat hrg1 hlt hg1 hs1 hen
      have hmem := (unhide HI).mem (hlf x hlx) (unhide H1) (hat _)
      have hst := some_step (m := m) (unhide H1) hmem hlx
      have hB1 := hide (hB.grown hg1 hB.size (fun j hj => by cases hj; exact Nat.le_refl _))
      have hlf1 : Hid (∀ k, (fun z : Lit => left z && !z.sameKey (.int .i64 x)) (.int .i64 k) = true → Maps.has D (.int .i64 k) = true) := fun k hk => hlf k (by
        simp only [Bool.and_eq_true] at hk
        exact hk.1)
      rw [hst] at hc
      have HR := hide hrg
      have HR1 := hide hrg1
      have HLT := hide hlt
      clear hst hlf hat hmem hrg hrg1 hB hlt hg1 hs1 hg0 hs0 hrg0 hwx hs hlx
      by_cases e : s = m
      · have hd := str_eq e
        rw [if_pos e] at hc
        have hw : wrap64 ((c : Int) + 1) = ((c + 1 : Nat) : Int) := by rw [w64 _ (by omega) (by omega)]; rfl
        have HX : Hid (c + 1 + some_ l (fun z => left z && !z.sameKey (.int .i64 x)) m = cnt_ l m) := by show _ = _; omega
        clear hc hl hcl
        go_wp2
        go_roundw
        case rel => exact ⟨_, cnt1, c + 1, congrArg _ hw, unhide HR1, unhide HX, unhide hlf1, unhide hB1⟩
        case measure => rw [(unhide HR1).left_eq, (unhide HR).left_eq]; exact unhide HLT
      · rw [if_neg e] at hc
        have hd := str_ne e
        have HX : Hid (c + some_ l (fun z => left z && !z.sameKey (.int .i64 x)) m = cnt_ l m) := by show _ = _; omega
        clear hc hl hcl
        go_wp2
        go_roundw
        case rel => exact ⟨_, cnt1, c, rfl, unhide HR1, unhide HX, unhide hlf1, unhide hB1⟩
        case measure => rw [(unhide HR1).left_eq, (unhide HR).left_eq]; exact unhide HLT
end Go.Proofs.Ytjdkeicjhmdcfaa.Sl
