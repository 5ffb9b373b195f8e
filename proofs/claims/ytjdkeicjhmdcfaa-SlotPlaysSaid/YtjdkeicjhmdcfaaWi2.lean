import Derived.Test.YtjdkeicjhmdcfaaWi1
set_option linter.unusedSimpArgs false
set_option linter.unusedVariables false
namespace Go.Proofs.Ytjdkeicjhmdcfaa.Wi
open Go.RowKit Go.Proofs.YtjdkeicjhmdcfaaW.PrintWords Go.Proofs.YtjdkeicjhmdcfaaW.PrintLast Go.Proofs.YtjdkeicjhmdcfaaW.PrintMore Go.Proofs.Ytjdkeicjhmdcfaa.Wk

theorem ended_open (g : Nat) (v : Value) (w : World) (hw : Wire w g v false) : Calls Try.prog 20 #[.pointer (some ⟨g, 0, none⟩)] w fun e w' => e = .returned (.bool false) ∧ w = w' := by
  have hu25 := Try.underlying25
  obtain ⟨⟨_, _⟩, ⟨_, _⟩, _⟩ := hw.cells
  clear hw
  go_enter Try.func20, Try.ntmps20
  go_wp2
  go_ret
  exact ⟨rfl, rfl⟩
theorem ended_shut (g : Nat) (A : Option Addr) (n c : Nat) (w : World) (hw : Wire w g (.slice A n c) true) : Calls Try.prog 20 #[.pointer (some ⟨g, 0, none⟩)] w fun e w' => e = .returned (.bool (n == 0)) ∧ w = w' := by
  have hu25 := Try.underlying25
  obtain ⟨⟨_, _⟩, ⟨_, _⟩, _⟩ := hw.cells
  clear hw
  have h : ((n : Int) == 0) = (n == 0) := by
    rw [Bool.eq_iff_iff]
    simp
  have H := hide h
  clear h
  go_enter Try.func20, Try.ntmps20
  go_wp2
  go_ret
  exact ⟨by rw [← unhide H]; rfl, rfl⟩
theorem cut_ok (g : Nat) (v : Value) (shut : Bool) (w : World) (hw : Wire w g v shut) : Calls Try.prog 23 #[.pointer (some ⟨g, 0, none⟩)] w fun e w' => e = .returned (.tuple #[]) ∧ (w.setCell ⟨g, 0, none⟩ (.slice none 0 0)).setCell ⟨g, 1, none⟩ (.bool true) = w' := by
  have hu25 := Try.underlying25
  obtain ⟨⟨_, _⟩, ⟨_, _⟩, _⟩ := hw.cells
  clear hw
  go_enter Try.func23, Try.ntmps23
  go_wp2
  go_end0
  exact ⟨rfl, rfl⟩
theorem Wire.own {w : World} {g base : Nat} {v : Value} {shut : Bool} {xs : List Int} (h : Wire w g v shut) (ho : Own w base v xs) (j : Nat) (u : Value) : Own (w.setCell ⟨g, j, none⟩ u) base v xs :=
  Kd.R_set ho h (fun q hq => by simp [Kd.int, Kd.scalar] at hq; omega) j u

/-- The contracts with the lengths named. -/
theorem put_okn (g base : Nat) (v : Value) (xs : List Int) (A : Option Addr) (c n k : Nat) (ys : List Int) (w : World) (hw : Wire w g v false) (ho : Own w base v xs) (hr : Kd.C (Kd.int .u8) w A ys.length ys) (hbase : base ≤ w.heap.size) (hg : base ≤ g) (hn : ys.length = n) (hk : xs.length + n = k) (h : k ≤ 131072) :
    Calls Try.prog 16 #[.pointer (some ⟨g, 0, none⟩), .slice A n c] w fun e w' => ∃ A' c', e = .returned (.int .i64 0) ∧ Wire w' g (.slice A' k c') false ∧ Own w' base (.slice A' k c') (xs ++ ys) ∧ Below base w w' ∧ KeepBut w w' g v.ownBlock ∧
      ((Value.slice A' k c').ownBlock = v.ownBlock ∨ ∃ b, (Value.slice A' k c').ownBlock = some b ∧ w.heap.size ≤ b) := by
  subst hn
  refine (put_ok g base v xs A c ys w hw ho hr hbase hg (by omega)).mono ?_
  rintro e w' ⟨he, v', h1, h2, h3, h4, h5⟩
  obtain ⟨A', c', rfl⟩ := Kd.R_slice h2
  have hl : (xs ++ ys).length = k := by rw [List.length_append]; exact hk
  rw [hl] at h1 h2 h5
  exact ⟨A', c', he, h1, h2, h3, h4, h5⟩
theorem take_okn (g base : Nat) (v : Value) (shut : Bool) (xs : List Int) (most : Int) (m : Nat) (w : World) (hw : Wire w g v shut) (ho : Own w base v xs) (hbase : base ≤ w.heap.size) (hg : base ≤ g) (h : xs.length ≤ 131072) (hm : came most xs.length = m) :
    Calls Try.prog 18 #[.pointer (some ⟨g, 0, none⟩), .int .i64 most] w fun e w' => ∃ A c A2 c2, e = .returned (.slice A m c) ∧ Own w' w.heap.size (.slice A m c) (xs.take m) ∧ Wire w' g (.slice A2 (xs.length - m) c2) shut ∧ Own w' w.heap.size (.slice A2 (xs.length - m) c2) (xs.drop m) ∧
      Below base w w' ∧ KeepBut w w' g none ∧ (∀ k, (Value.slice A m c).ownBlock = some k → some k ≠ (Value.slice A2 (xs.length - m) c2).ownBlock) := by
  refine (take_ok g base v shut xs most w hw ho hbase hg h).mono ?_
  rintro e w' ⟨A, c, v', he, h1, h2, h3, h4, h5, h6⟩
  obtain ⟨_, _, _, hle⟩ := came_as most xs.length
  rw [hm] at he h1 h3 h6 hle
  obtain ⟨A2, c2, rfl⟩ := Kd.R_slice h3
  have l1 : (xs.take m).length = m := by rw [List.length_take]; omega
  have l2 : (xs.drop m).length = xs.length - m := List.length_drop
  rw [l1] at he h1 h6
  rw [l2] at h2 h3 h6
  exact ⟨A, c, A2, c2, he, h1, h2, h3, h4, h5, h6⟩

theorem carries_any (w : World) : Calls Try.prog 15 #[] w fun e w' => e = .returned (.bool true) ∧ Below w.heap.size w w' := by
  have hu25 := Try.underlying25
  have kc := Lib.run_convert_bytes_const (P := Try.prog) (w.alloc (.cells #[.slice none 0 0, .bool false] 25)) 23 5 #[.int .u8 97, .int .u8 98, .int .u8 99] 3 3 Try.underlying23 Try.underlying5
  rw [World.size_alloc] at kc
  go_enter Try.func15, Try.ntmps15
  go_wp2_with fail
  have W0 : Wire ((w.alloc (.cells #[.slice none 0 0, .bool false] 25)).alloc (.cells #[.int .u8 97, .int .u8 98, .int .u8 99] 5 (3, 4))) w.heap.size (.slice none 0 0) false := blk_alloc (blk_new w _) _
  have C0 := row3 (w.alloc (.cells #[.slice none 0 0, .bool false] 25)) 97 98 99
  rw [World.size_alloc] at C0
  refine (put_ok w.heap.size w.heap.size (.slice none 0 0) [] _ 3 [97, 98, 99] _ W0 (Kd.R_nil _ _ _ _ _) C0 (by simp; omega) (Nat.le_refl _) (by simp)).mono ?_
  rintro e w1 ⟨rfl, v1, hW1, hO1, hB1, hK1, hat1⟩
  have hb1 := hB1.mono (Nat.le_refl _)
  have NB1 := hide ((below_alloc (below_alloc (Below.refl _ _) (.cells #[.slice none 0 0, .bool false] 25)) (.cells #[.int .u8 97, .int .u8 98, .int .u8 99] 5 (3, 4))).trans hB1)
  rw [List.nil_append] at hO1
  have ht := take_ok w.heap.size w.heap.size v1 false [97, 98, 99] 2 w1 hW1 hO1 (unhide NB1).size (Nat.le_refl _) (by simp)
  have e : came 2 ([97, 98, 99] : List Int).length = 2 := by decide
  rw [e] at ht
  have HT : Hid (Calls Try.prog 18 #[.pointer (some ⟨w.heap.size, 0, none⟩), .int .i64 2] w1 _) := ht
  clear hB1 hK1 hat1 hb1 e ht W0 C0 hW1 hO1
  go_wp2_with fail
  refine (unhide HT).mono ?_
  rintro e w2 ⟨A, c, v2, rfl, hO2, hW2, hO3, hB2, hK2, hd⟩
  have NB2 := hide ((unhide NB1).trans hB2)
  have hs : strOfNums (([97, 98, 99] : List Int).take 2) = ⟨#[97, 98]⟩ := by decide
  have hcv : (convert 23 9 (.slice A 2 c)).run Try.prog w2 = .ok (.string ⟨#[97, 98]⟩) w2 := by
    rw [← hs]
    exact Kd.C_string (P := Try.prog) (A := A) (c := c) Try.underlying23 Try.underlying5 Try.underlying9 (own_reads hO2).2.2
  obtain ⟨A2, c2, rfl⟩ := Kd.R_slice hO3
  have HW2 := hide hW2
  clear hB2 hK2 hd hO2 hW2 hO3 hs HT NB1
  go_wp2_with fail
  refine (len_ok w.heap.size A2 1 c2 false _ (unhide HW2)).mono ?_
  rintro e w' ⟨rfl, rfl⟩
  go_wp2_with fail
  refine (ended_open w.heap.size _ _ (unhide HW2)).mono ?_
  rintro e w' ⟨rfl, rfl⟩
  go_wp2
  go_ret
  exact ⟨rfl, unhide NB2⟩
end Go.Proofs.Ytjdkeicjhmdcfaa.Wi
