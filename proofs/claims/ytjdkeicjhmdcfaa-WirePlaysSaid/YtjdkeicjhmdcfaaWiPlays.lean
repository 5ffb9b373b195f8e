import Derived.Test.YtjdkeicjhmdcfaaWi4
import Derived.Test.YtjdkeicjhmdcfaaOp1
import Derived.Test.YtjdkeicjhmdcfaaWGuard
set_option linter.unusedSimpArgs false
set_option linter.unusedVariables false
namespace Go.Proofs.Ytjdkeicjhmdcfaa.WiPlays
open Go.RowKit Go.Proofs.YtjdkeicjhmdcfaaW.PrintWords Go.Proofs.YtjdkeicjhmdcfaaW.PrintLast Go.Proofs.YtjdkeicjhmdcfaaW.PrintMore Go.Proofs.Ytjdkeicjhmdcfaa.Wk Go.Proofs.Ytjdkeicjhmdcfaa.Wi Go.Proofs.Ytjdkeicjhmdcfaa.Op1

/-- The script: operation i is of kind K i, with number N i and bytes D i. -/
def Ops (w : World) (A : Option Addr) (n : Nat) (K N : Nat → Int) (D : Nat → List Int) : Prop :=
  ∀ i, i < n → ∃ ad v, A = some ad ∧ w.cell? (ad.add (i * 3)) = some (.int .i64 (K i)) ∧ w.cell? ⟨(ad.add (i * 3)).block, (ad.add (i * 3)).off + 1, none⟩ = some (.int .i64 (N i)) ∧ w.cell? ⟨(ad.add (i * 3)).block, (ad.add (i * 3)).off + 2, none⟩ = some v ∧ Bts w v (D i)
def Mb (w : World) (g : Nat) (xs : List Int) (shut : Bool) : Prop := w.heap[g]? = some (.cells #[.string (strOfNums xs), .bool shut] 36 (0, 0))
theorem Mb.cells {w : World} {g : Nat} {xs : List Int} {shut : Bool} (h : Mb w g xs shut) :
    (w.cell? ⟨g, 0, none⟩ = some (.string (strOfNums xs)) ∧ w.cell? ⟨g, 1, none⟩ = some (.bool shut)) ∧ (w.frozen? ⟨g, 0, none⟩ = false ∧ w.frozen? ⟨g, 1, none⟩ = false) ∧ g < w.heap.size :=
  ⟨⟨(blk_cell h 0).trans rfl, (blk_cell h 1).trans rfl⟩, ⟨blk_frozen h 0, blk_frozen h 1⟩, blk_lt h⟩

def T5_29 : Bool × List (List Nat × List Nat) := (true, [([], []), ([], []), ([1], [1]), ([2], [2]), ([0, 3], [0, 3]), ([4, 0], [4]), ([5, 5], [5]), ([5], [5]), ([7, 5], [5, 7]), ([8, 6, 5], [5, 8]), ([9], [9]), ([10, 9], [9, 10]), ([11, 9], [9, 11]), ([9, 12, 5], [5, 9, 12]), ([6, 13, 5], [5, 6, 13]), ([5, 14], [5, 14])])
def BT5_29 : List Nat := [0, 0, 2, 6, 15, 31, 63, 63, 191, 511, 1023, 2047, 4095, 8191, 16383, 32767]
theorem tabT5_29 : rtab .any (opsOf Try.f5 29) = T5_29 := by kernel_rfl
theorem bitsT5_29 : waitsOk T5_29.2 BT5_29 = true := by kernel_rfl
theorem Mb.far {w : World} {g gm j : Nat} {u : Value} {xs : List Int} {shut : Bool} (h : Mb w g xs shut) (hg : g ≠ gm) : Mb (w.setCell ⟨gm, j, none⟩ u) g xs shut := blk_far h (p := ⟨gm, j, none⟩) hg u

theorem law_not (A : Option Addr) (n c : Nat) (w : World) (hn : n ≤ maxLen) (h : 60 < n) :
    Calls Try.prog 5 #[.slice A n c] w fun e w' => e = .returned (.bool true) ∧ Below w.heap.size w w' := by
  unfold maxLen at hn
  have d1 : 60 < (n : Int) := by omega
  go_enter Try.func5, Try.ntmps5
  go_wp2_with fail
  refine (carries_any _).mono ?_
  rintro e w1 ⟨rfl, hb⟩
  have HB := hide hb
  clear hb
  go_wp2
  go_ret
  exact ⟨rfl, unhide HB⟩

theorem gen_world {Q : World → Prop} {W : World} (F : World → Prop) (hF : F W) (h : ∀ w', F w' → Q w') : Q W := h W hF

def Rel (w wr : World) (g1 g2 : Nat) (xs : List Int) (shut : Bool) (A : Option Addr) (c : Nat) : Prop :=
  xs.length ≤ 131072 ∧ Wire wr g1 (.slice A xs.length c) shut ∧ Own wr w.heap.size (.slice A xs.length c) xs ∧ Mb wr g2 xs shut ∧ Below w.heap.size w wr

set_option maxHeartbeats 4000000 in
set_option maxRecDepth 100000 in
theorem law_yes (A : Option Addr) (n c : Nat) (K N : Nat → Int) (D : Nat → List Int) (w : World) (hp : Ops w A n K N D) (hn : n ≤ 60) :
    Calls Try.prog 5 #[.slice A n c] w fun e w' => e = .returned (.bool true) ∧ Below w.heap.size w w' := by
  have hu25 := Try.underlying25
  have hu36 := Try.underlying36
  have hu38 := Try.underlying38
  have d1 : ¬ 60 < (n : Int) := by omega
  have HP := hide hp
  clear hp
  go_enter Try.func5, Try.ntmps5
  go_wp2_with fail
  refine (carries_any _).mono ?_
  rintro e w1 ⟨rfl, hb⟩
  have HB := hide hb
  have z1 : w.heap.size ≤ w1.heap.size := hb.size
  clear hb
  go_wp2
  go_loopg [18] n (fun kq v18 wr => ∃ (i : Nat) (xs : List Int) (shut : Bool) (A0 : Option Addr) (c0 : Nat), v18 = .int .i64 (i : Int) ∧ Hid (i + kq = n) ∧ Hid (Rel w wr w1.heap.size (w1.heap.size + 1) xs shut A0 c0))
  case atStart =>
    exact ⟨0, [], false, none, 0, rfl, Nat.zero_add _, by simp, blk_alloc (blk_new _ _) _, Kd.R_nil _ _ _ _ _, heap_alloc2_new _ _ _, below_alloc (below_alloc (unhide HB) _) _⟩
  case round =>
    obtain ⟨ko, rfl⟩ : ∃ k, k = gk := ⟨_, rfl⟩
    obtain ⟨wo, rfl⟩ : ∃ k, k = wr := ⟨_, rfl⟩
    obtain ⟨i, xs, shut, A0, c0, rfl, HK, HREL⟩ := hrel
    obtain ⟨hxl, hW, hO, hM, hbel⟩ := unhide HREL
    by_cases hlt : i < n
    · obtain ⟨ad, pv, rfl, hx0, hx1, hx2, Ai, ci, rfl, hci, hmi, hCi, hBi⟩ := (unhide HP) i hlt
      replace hx0 := (hbel.cell (World.block_lt_of_cell? w _ hx0)).trans hx0
      replace hx1 := (hbel.cell (World.block_lt_of_cell? w _ hx1)).trans hx1
      replace hx2 := (hbel.cell (World.block_lt_of_cell? w _ hx2)).trans hx2
      unfold maxLen at hmi
      generalize D i = p at hx2 hci hmi hCi hBi
      generalize K i = k at hx0
      generalize N i = most at hx1
      have HW := hide hW
      have HO := hide hO
      have HM := hide hM
      have HBE := hide hbel
      have HC := hide hCi
      clear hW hO hM hbel HREL hCi hBi
      by_cases hbig : 140000 < p.length
      · have d3 : 140000 < (p.length : Int) := by omega
        go_wp2
        go_ret
        exact ⟨rfl, below_alloc (unhide HBE) _⟩
      have d3 : ¬ 140000 < (p.length : Int) := by omega
      by_cases hc : 10 < p.length ∧ 20 < n
      · have d4 : 10 < (p.length : Int) := by omega
        have d5 : 20 < (n : Int) := by omega
        go_wp2
        go_ret
        exact ⟨rfl, below_alloc (unhide HBE) _⟩
      have hcases : (¬ 10 < (p.length : Int)) ∨ (10 < (p.length : Int) ∧ ¬ 20 < (n : Int)) := by omega
      clear hbig hc
      have zo : w.heap.size ≤ wo.heap.size := (unhide HBE).size
      have zg : w1.heap.size + 1 < wo.heap.size := blk_lt (unhide HM)
      have HM1 : Hid (Mb (wo.alloc (.cells #[.int .i64 k, .int .i64 most, .slice Ai p.length ci] 38)) (w1.heap.size + 1) xs shut) := blk_alloc (unhide HM) _
      have HW1 : Hid (Wire (wo.alloc (.cells #[.int .i64 k, .int .i64 most, .slice Ai p.length ci] 38)) w1.heap.size (.slice A0 xs.length c0) shut) := blk_alloc (unhide HW) _
      have HO1 := hide (Kd.R_alloc (unhide HO) (.cells #[.int .i64 k, .int .i64 most, .slice Ai p.length ci] 38))
      have HB1 := hide (below_alloc (unhide HBE) (.cells #[.int .i64 k, .int .i64 most, .slice Ai p.length ci] 38))
      have HC1 := hide (Kd.C_alloc (Kd.C_below (unhide HC) (unhide HBE)) (.cells #[.int .i64 k, .int .i64 most, .slice Ai p.length ci] 38))
      have HN1 : Hid ((wo.alloc (.cells #[.int .i64 k, .int .i64 most, .slice Ai p.length ci] 38)).heap[wo.heap.size]? = some (.cells #[.int .i64 k, .int .i64 most, .slice Ai p.length ci] 38 (0, 0))) := blk_new wo _
      clear HM HW HO HC
      rcases hcases with d4 | ⟨d4, d5⟩
      all_goals
        have hq : ∀ q, q ∈ 5 :: (Kd.int .u8).E → q ≠ 36 := fun q hq => by simp [Kd.int, Kd.scalar] at hq; omega
        cases shut
        · skip
          by_cases hk0 : k = 0
          · subst hk0
            obtain ⟨⟨m0, m1⟩, ⟨m2, m3⟩, m4⟩ := (unhide HM1).cells
            have hcv := Kd.C_string (P := Try.prog) (c := ci) Try.underlying23 Try.underlying5 Try.underlying9 (unhide HC1)
            have sx := strOfNums_size xs
            have sp := strOfNums_size p
            by_cases hfull : 131072 < xs.length + p.length
            · skip
              have HR := hide (fun W : World => rput_full (strOfNums xs) (strOfNums p) W (by omega) (by omega) (by omega))
              clear sx sp
              go_wp2_with fail
              refine ((unhide HR) _).mono ?_
              rintro e w3 ⟨rfl, hb⟩
              have N3 := hide (blk_below (unhide HN1) hb)
              have M3 := hide (blk_below (unhide HM1) hb)
              have W3 := hide ((unhide HW1).below hb)
              have O3 := hide (Kd.R_below (unhide HO1) hb)
              have B3 := hide (below_step (unhide HB1) hb)
              have C3 := hide (Kd.C_below (unhide HC1) hb)
              clear hb m0 m1 m2 m3 m4 hcv HR
              obtain ⟨⟨n0, n1, n2⟩, ⟨n3, n4, n5⟩, n6⟩ := box3 (unhide N3)
              go_wp2_with fail
              refine (put_full w1.heap.size A0 xs.length c0 _ _ _ _ (blk_alloc (unhide W3) _) hxl hfull hmi).mono ?_
              rintro e w' ⟨rfl, rfl⟩
              have M4 : Hid (Mb (w3.alloc (.cells #[.string (strOfNums xs), .bool false] 36)) (w1.heap.size + 1) xs false) := blk_alloc (unhide M3) _
              obtain ⟨⟨m0, m1⟩, ⟨m2, m3⟩, m4⟩ := (unhide M4).cells
              go_wp2
              obtain ⟨m9, hm9⟩ : ∃ m9 : Nat, xs.length = m9 := ⟨_, rfl⟩
              refine gen_world (fun w' => Wire w' w1.heap.size (.slice (A0) m9 (c0)) false ∧ Mb w' (w1.heap.size + 1) (xs) false ∧ Own w' w.heap.size (.slice (A0) m9 (c0)) (xs) ∧ Below w.heap.size w w') ⟨by rw [← hm9]; exact Wire.far (Wire.far (blk_alloc (unhide W3) _) (by simp)) (by simp), blk_put (blk_put (unhide M4) 0 _ rfl) 1 _ rfl, by rw [← hm9]; exact Kd.R_set (Kd.R_set (Kd.R_alloc (unhide O3) _) (unhide M4) hq 0 _) (blk_put (unhide M4) 0 _ rfl) hq 1 _, below_set (below_set (below_alloc (unhide B3) _) (by omega)) (by omega)⟩ (fun w9 h9 => ?_)
              obtain ⟨hW9, hM9, hO9, hB9⟩ := h9
              have hXl : (xs).length = m9 := Eq.trans (show (xs).length = xs.length from rfl) hm9
              have hXm : m9 ≤ 131072 := by rw [← hm9]; exact hxl
              clear HM1 HW1 HO1 HB1 HC1 HN1 hm9
              generalize (xs) = X at hM9 hO9 hXl
              have hsz : (strOfNums X).size = m9 := by rw [strOfNums_size]; exact hXl
              have hem : (strOfNums X).toList.isEmpty = (m9 == 0) := by rw [← hXl]; exact str_none X
              have M0 : Hid (Mb w9.drew (w1.heap.size + 1) X false) := hM9
              have W0 : Hid (Wire w9.drew w1.heap.size (.slice (A0) m9 (c0)) false) := hW9
              have O0 : Hid (Own w9.drew w.heap.size (.slice (A0) m9 (c0)) X) := hO9
              have B0 := hide (below_drew1 hB9)
              have XL := hide hXl
              clear hW9 hM9 hO9 hB9 hXl
              generalize hb0 : (m9 == 0) = b0 at hem
              have HEND := hide hb0
              clear hb0
              refine start_ (n := 16) (S := fun w' => Mb w' (w1.heap.size + 1) X false) (ds := []) #[false, false, false, false, false, false, false, false, false, false, false, false, false, false, false, false] (by kernel_rfl) rfl rfl (unhide M0) (fun hHeld => ?_)
              refine with_tabW tabT5_29 bitsT5_29 (fun HT_ HW_ => ?_)
              refine pure_ (i := 1) (N := some 80) (v := ?_) (a' := ?_) #[false, true, false, false, false, false, false, false, false, false, false, false, false, false, false, false] rfl rfl (any_of HT_.out (by kernel_rfl)) (fun _ _ _ h => h) (Or.inl ⟨by rfl, ?_⟩) ?_ ?_
              rotate_left
              · intro w'
                go_simp
                with_reducible rfl
              rotate_left
              · simp only [Act.put, List.setIfInBounds_toArray, List.set_cons_zero, List.set_cons_succ, i64_w, i32_w]
                rfl
              refine take_ (i := 2) (N := some 81) (v := ?_) (a' := ?_) #[false, true, true, false, false, false, false, false, false, false, false, false, false, false, false, false] rfl rfl (take_ofW HT_.out HW_.out (by kernel_rfl)) (fun _ _ _ h => h) (Or.inl ⟨by rfl, ?_⟩) hHeld ?_ ?_
              rotate_left
              · rintro w' h1_
                obtain ⟨⟨_, _⟩, _, _⟩ := h1_.cells
                go_simp
                with_reducible rfl
              rotate_left
              · simp only [Act.put, List.setIfInBounds_toArray, List.set_cons_zero, List.set_cons_succ, i64_w, i32_w]
                rfl
              refine pure_ (i := 3) (N := some 82) (v := ?_) (a' := ?_) #[false, true, true, true, false, false, false, false, false, false, false, false, false, false, false, false] rfl rfl (any_of HT_.out (by kernel_rfl)) (fun _ _ _ h => h) (Or.inl ⟨by rfl, ?_⟩) ?_ ?_
              rotate_left
              · intro w'
                go_simp
                with_reducible rfl
              rotate_left
              · simp only [Act.put, List.setIfInBounds_toArray, List.set_cons_zero, List.set_cons_succ, i64_w, i32_w]
                rfl
              refine one_ (i := 0) (N := some 79) #[true, true, true, true, false, false, false, false, false, false, false, false, false, false, false, false] rfl rfl (one_of HT_.out (by kernel_rfl)) (by decide) (fun K hK => ?_)
              refine goes_ Try.func17 (by kernel_rfl) rfl #[.pointer (some ⟨w1.heap.size, 0, none⟩)] (by rfl) rfl rfl (by (try simp only [List.map_toArray, List.map_cons, List.map_nil]); first | done | rfl) ?_
              refine (len_ok w1.heap.size (A0) m9 (c0) false _ (unhide W0)).mono ?_
              rintro e w' ⟨rfl, rfl⟩
              refine ⟨_, rfl, ?_⟩
              clear hHeld
              refine hK.out _ _ (unhide M0) (fun hHeld => ?_)
              clear hK K
              refine norm_ (a' := ?_) ?_ ?_
              rotate_left
              · show Act.put _ (some 79) _ = _
                simp only [Act.put, List.setIfInBounds_toArray, List.set_cons_zero, List.set_cons_succ, i64_w, i32_w]
                rfl
              refine pure_ (i := 4) (N := some 83) (v := ?_) (a' := ?_) #[true, true, true, true, true, false, false, false, false, false, false, false, false, false, false, false] rfl rfl (any_of HT_.out (by kernel_rfl)) (fun _ _ _ h => h) (Or.inl ⟨by rfl, ?_⟩) ?_ ?_
              rotate_left
              · intro w'
                go_simp
                with_reducible rfl
              rotate_left
              · simp only [Act.put, List.setIfInBounds_toArray, List.set_cons_zero, List.set_cons_succ, i64_w, i32_w]
                rfl
              refine pure_ (i := 5) (N := some 84) (v := ?_) (a' := ?_) #[true, true, true, true, true, true, false, false, false, false, false, false, false, false, false, false] rfl rfl (any_of HT_.out (by kernel_rfl)) (fun _ _ _ h => h) (Or.inl ⟨by rfl, ?_⟩) ?_ ?_
              rotate_left
              · intro w'
                go_simp
                with_reducible rfl
              rotate_left
              · simp only [Act.put, List.setIfInBounds_toArray, List.set_cons_zero, List.set_cons_succ, i64_w, i32_w]
                rfl
              refine pure_ (i := 7) (N := some 86) (v := ?_) (a' := ?_) #[true, true, true, true, true, true, false, true, false, false, false, false, false, false, false, false] rfl rfl (any_of HT_.out (by kernel_rfl)) (fun _ _ _ h => h) (Or.inl ⟨by rfl, ?_⟩) ?_ ?_
              rotate_left
              · intro w'
                go_simp
                with_reducible rfl
              rotate_left
              · simp only [Act.put, List.setIfInBounds_toArray, List.set_cons_zero, List.set_cons_succ, i64_w, i32_w]
                rfl
              refine take_ (i := 8) (N := some 87) (v := ?_) (a' := ?_) #[true, true, true, true, true, true, false, true, true, false, false, false, false, false, false, false] rfl rfl (take_ofW HT_.out HW_.out (by kernel_rfl)) (fun _ _ _ h => h) (Or.inl ⟨by rfl, ?_⟩) hHeld ?_ ?_
              rotate_left
              · rintro w' h1_
                obtain ⟨⟨_, _⟩, _, _⟩ := h1_.cells
                go_simp
                with_reducible rfl
              rotate_left
              · simp only [Act.put, List.setIfInBounds_toArray, List.set_cons_zero, List.set_cons_succ, i64_w, i32_w]
                rfl
              refine one_ (i := 6) (N := some 85) #[true, true, true, true, true, true, true, true, true, false, false, false, false, false, false, false] rfl rfl (one_of HT_.out (by kernel_rfl)) (by decide) (fun K hK => ?_)
              refine goes_ Try.func20 (by kernel_rfl) rfl #[.pointer (some ⟨w1.heap.size, 0, none⟩)] (by rfl) rfl rfl (by (try simp only [List.map_toArray, List.map_cons, List.map_nil]); first | done | rfl) ?_
              refine (ended_open w1.heap.size _ _ (unhide W0)).mono ?_
              rintro e w' ⟨rfl, rfl⟩
              refine ⟨_, rfl, ?_⟩
              clear hHeld
              refine hK.out _ _ (unhide M0) (fun hHeld => ?_)
              clear hK K
              refine norm_ (a' := ?_) ?_ ?_
              rotate_left
              · show Act.put _ (some 85) _ = _
                simp only [Act.put, List.setIfInBounds_toArray, List.set_cons_zero, List.set_cons_succ, i64_w, i32_w]
                rfl
              refine pure_ (i := 9) (N := some 88) (v := ?_) (a' := ?_) #[true, true, true, true, true, true, true, true, true, true, false, false, false, false, false, false] rfl rfl (any_of HT_.out (by kernel_rfl)) (fun _ _ _ h => h) (Or.inl ⟨by rfl, ?_⟩) ?_ ?_
              rotate_left
              · intro w'
                go_simp
                with_reducible rfl
              rotate_left
              · simp only [Act.put, List.setIfInBounds_toArray, List.set_cons_zero, List.set_cons_succ, i64_w, i32_w]
                rfl
              refine pure_ (i := 10) (N := some 89) (v := undef) (a' := ?_) #[true, true, true, true, true, true, true, true, true, true, true, false, false, false, false, false] rfl rfl (any_of HT_.out (by kernel_rfl)) (fun _ _ _ h => h) (Or.inr ⟨by rfl, rfl⟩) ?_ ?_
              rotate_left
              · simp only [Act.put, List.setIfInBounds_toArray, List.set_cons_zero, List.set_cons_succ, i64_w, i32_w]
                rfl
              refine pure_ (i := 11) (N := some 90) (v := undef) (a' := ?_) #[true, true, true, true, true, true, true, true, true, true, true, true, false, false, false, false] rfl rfl (any_of HT_.out (by kernel_rfl)) (fun _ _ _ h => h) (Or.inr ⟨by rfl, rfl⟩) ?_ ?_
              rotate_left
              · simp only [Act.put, List.setIfInBounds_toArray, List.set_cons_zero, List.set_cons_succ, i64_w, i32_w]
                rfl
              refine pure_ (i := 12) (N := some 91) (v := undef) (a' := ?_) #[true, true, true, true, true, true, true, true, true, true, true, true, true, false, false, false] rfl rfl (any_of HT_.out (by kernel_rfl)) (fun _ _ _ h => h) (Or.inr ⟨by rfl, rfl⟩) ?_ ?_
              rotate_left
              · simp only [Act.put, List.setIfInBounds_toArray, List.set_cons_zero, List.set_cons_succ, i64_w, i32_w]
                rfl
              refine pure_ (i := 13) (N := some 92) (v := ?_) (a' := ?_) #[true, true, true, true, true, true, true, true, true, true, true, true, true, true, false, false] rfl rfl (any_of HT_.out (by kernel_rfl)) (fun _ _ _ h => h) (Or.inl ⟨by rfl, ?_⟩) ?_ ?_
              rotate_left
              · intro w'
                go_simp
                with_reducible rfl
              rotate_left
              · simp only [Act.put, List.setIfInBounds_toArray, List.set_cons_zero, List.set_cons_succ, i64_w, i32_w]
                rfl
              refine pure_ (i := 14) (N := some 93) (v := ?_) (a' := ?_) #[true, true, true, true, true, true, true, true, true, true, true, true, true, true, true, false] rfl rfl (any_of HT_.out (by kernel_rfl)) (fun _ _ _ h => h) (Or.inl ⟨by rfl, ?_⟩) ?_ ?_
              rotate_left
              · intro w'
                go_simp
                with_reducible rfl
              rotate_left
              · simp only [Act.put, List.setIfInBounds_toArray, List.set_cons_zero, List.set_cons_succ, i64_w, i32_w]
                rfl
              refine pure_ (i := 15) (N := some 94) (v := ?_) (a' := ?_) #[true, true, true, true, true, true, true, true, true, true, true, true, true, true, true, true] rfl rfl (any_of HT_.out (by kernel_rfl)) (fun _ _ _ h => h) (Or.inl ⟨by rfl, ?_⟩) ?_ ?_
              rotate_left
              · intro w'
                go_simp
                with_reducible rfl
              rotate_left
              · simp only [Act.put, List.setIfInBounds_toArray, List.set_cons_zero, List.set_cons_succ, i64_w, i32_w]
                rfl
              refine done_ (done_of HT_.out (by kernel_rfl)) ?_
              clear HT_ HW_ hHeld
              go_wp2
              go_roundg (ko - 1)
              case measure => have := unhide HK; omega
              case rel =>
                refine ⟨i + 1, X, false, A0, c0, by go_num, by have := unhide HK; show i + 1 + (ko - 1) = n; omega, by rw [unhide XL]; exact hXm, ?_, ?_, unhide M0, unhide B0⟩
                · rw [unhide XL]; exact unhide W0
                · rw [unhide XL]; exact unhide O0
            · skip
              skip
              have HR := hide (fun W : World => rput_okx xs p W (by omega))
              clear sx sp
              go_wp2_with fail
              refine ((unhide HR) _).mono ?_
              rintro e w3 ⟨rfl, hb⟩
              have N3 := hide (blk_below (unhide HN1) hb)
              have M3 := hide (blk_below (unhide HM1) hb)
              have W3 := hide ((unhide HW1).below hb)
              have O3 := hide (Kd.R_below (unhide HO1) hb)
              have B3 := hide (below_step (unhide HB1) hb)
              have C3 := hide (Kd.C_below (unhide HC1) hb)
              clear hb m0 m1 m2 m3 m4 hcv HR
              obtain ⟨⟨n0, n1, n2⟩, ⟨n3, n4, n5⟩, n6⟩ := box3 (unhide N3)
              go_wp2_with fail
              refine (put_okn w1.heap.size w.heap.size (.slice A0 xs.length c0) xs Ai ci p.length (xs.length + p.length) p _ (blk_alloc (unhide W3) _) (Kd.R_alloc (unhide O3) _) (Kd.C_alloc (unhide C3) _) (below_alloc (unhide B3) _).size z1 rfl rfl (by omega)).mono ?_
              rintro e w4 ⟨A4, c4, rfl, hW4, hO4, hB4, hK4, hat4⟩
              have M4 : Hid (Mb w4 (w1.heap.size + 1) xs false) := hide (hK4.blk (blk_alloc (unhide M3) (.cells #[.string (strOfNums (xs ++ p)), .bool false] 36)) (by omega) (Kd.R_ne (Kd.R_alloc (unhide O3) (.cells #[.string (strOfNums (xs ++ p)), .bool false] 36)) (blk_alloc (unhide M3) (.cells #[.string (strOfNums (xs ++ p)), .bool false] 36)) (by decide)))
              have X4 : Hid (Mb w4 w3.heap.size (xs ++ p) false) := hide (hK4.blk (blk_new w3 (.cells #[.string (strOfNums (xs ++ p)), .bool false] 36)) (by omega) (Kd.R_ne (Kd.R_alloc (unhide O3) (.cells #[.string (strOfNums (xs ++ p)), .bool false] 36)) (blk_new w3 (.cells #[.string (strOfNums (xs ++ p)), .bool false] 36)) (by decide)))
              have W4 := hide hW4
              have O4 := hide hO4
              have B4 := hide ((below_alloc (unhide B3) (.cells #[.string (strOfNums (xs ++ p)), .bool false] 36)).trans hB4)
              clear hW4 hO4 hB4 hK4 hat4
              obtain ⟨⟨m0, m1⟩, ⟨m2, m3⟩, m4⟩ := Mb.cells (unhide M4)
              obtain ⟨⟨x0, x1⟩, ⟨x2, x3⟩, x4⟩ := Mb.cells (unhide X4)
              go_wp2
              obtain ⟨m9, hm9⟩ : ∃ m9 : Nat, xs.length + p.length = m9 := ⟨_, rfl⟩
              refine gen_world (fun w' => Wire w' w1.heap.size (.slice (A4) m9 (c4)) false ∧ Mb w' (w1.heap.size + 1) (xs ++ p) false ∧ Own w' w.heap.size (.slice (A4) m9 (c4)) (xs ++ p) ∧ Below w.heap.size w w') ⟨by rw [← hm9]; exact Wire.far (Wire.far (unhide W4) (by simp)) (by simp), blk_put (blk_put (unhide M4) 0 _ rfl) 1 _ rfl, by rw [← hm9]; exact Kd.R_set (Kd.R_set (unhide O4) (unhide M4) hq 0 _) (blk_put (unhide M4) 0 _ rfl) hq 1 _, below_set (below_set (unhide B4) (by omega)) (by omega)⟩ (fun w9 h9 => ?_)
              obtain ⟨hW9, hM9, hO9, hB9⟩ := h9
              have hXl : (xs ++ p).length = m9 := Eq.trans (show (xs ++ p).length = xs.length + p.length from List.length_append) hm9
              have hXm : m9 ≤ 131072 := by rw [← hm9]; exact (by omega)
              clear HM1 HW1 HO1 HB1 HC1 HN1 hm9
              generalize (xs ++ p) = X at hM9 hO9 hXl
              have hsz : (strOfNums X).size = m9 := by rw [strOfNums_size]; exact hXl
              have hem : (strOfNums X).toList.isEmpty = (m9 == 0) := by rw [← hXl]; exact str_none X
              have M0 : Hid (Mb w9.drew (w1.heap.size + 1) X false) := hM9
              have W0 : Hid (Wire w9.drew w1.heap.size (.slice (A4) m9 (c4)) false) := hW9
              have O0 : Hid (Own w9.drew w.heap.size (.slice (A4) m9 (c4)) X) := hO9
              have B0 := hide (below_drew1 hB9)
              have XL := hide hXl
              clear hW9 hM9 hO9 hB9 hXl
              generalize hb0 : (m9 == 0) = b0 at hem
              have HEND := hide hb0
              clear hb0
              refine start_ (n := 16) (S := fun w' => Mb w' (w1.heap.size + 1) X false) (ds := []) #[false, false, false, false, false, false, false, false, false, false, false, false, false, false, false, false] (by kernel_rfl) rfl rfl (unhide M0) (fun hHeld => ?_)
              refine with_tabW tabT5_29 bitsT5_29 (fun HT_ HW_ => ?_)
              refine pure_ (i := 1) (N := some 80) (v := ?_) (a' := ?_) #[false, true, false, false, false, false, false, false, false, false, false, false, false, false, false, false] rfl rfl (any_of HT_.out (by kernel_rfl)) (fun _ _ _ h => h) (Or.inl ⟨by rfl, ?_⟩) ?_ ?_
              rotate_left
              · intro w'
                go_simp
                with_reducible rfl
              rotate_left
              · simp only [Act.put, List.setIfInBounds_toArray, List.set_cons_zero, List.set_cons_succ, i64_w, i32_w]
                rfl
              refine take_ (i := 2) (N := some 81) (v := ?_) (a' := ?_) #[false, true, true, false, false, false, false, false, false, false, false, false, false, false, false, false] rfl rfl (take_ofW HT_.out HW_.out (by kernel_rfl)) (fun _ _ _ h => h) (Or.inl ⟨by rfl, ?_⟩) hHeld ?_ ?_
              rotate_left
              · rintro w' h1_
                obtain ⟨⟨_, _⟩, _, _⟩ := h1_.cells
                go_simp
                with_reducible rfl
              rotate_left
              · simp only [Act.put, List.setIfInBounds_toArray, List.set_cons_zero, List.set_cons_succ, i64_w, i32_w]
                rfl
              refine pure_ (i := 3) (N := some 82) (v := ?_) (a' := ?_) #[false, true, true, true, false, false, false, false, false, false, false, false, false, false, false, false] rfl rfl (any_of HT_.out (by kernel_rfl)) (fun _ _ _ h => h) (Or.inl ⟨by rfl, ?_⟩) ?_ ?_
              rotate_left
              · intro w'
                go_simp
                with_reducible rfl
              rotate_left
              · simp only [Act.put, List.setIfInBounds_toArray, List.set_cons_zero, List.set_cons_succ, i64_w, i32_w]
                rfl
              refine one_ (i := 0) (N := some 79) #[true, true, true, true, false, false, false, false, false, false, false, false, false, false, false, false] rfl rfl (one_of HT_.out (by kernel_rfl)) (by decide) (fun K hK => ?_)
              refine goes_ Try.func17 (by kernel_rfl) rfl #[.pointer (some ⟨w1.heap.size, 0, none⟩)] (by rfl) rfl rfl (by (try simp only [List.map_toArray, List.map_cons, List.map_nil]); first | done | rfl) ?_
              refine (len_ok w1.heap.size (A4) m9 (c4) false _ (unhide W0)).mono ?_
              rintro e w' ⟨rfl, rfl⟩
              refine ⟨_, rfl, ?_⟩
              clear hHeld
              refine hK.out _ _ (unhide M0) (fun hHeld => ?_)
              clear hK K
              refine norm_ (a' := ?_) ?_ ?_
              rotate_left
              · show Act.put _ (some 79) _ = _
                simp only [Act.put, List.setIfInBounds_toArray, List.set_cons_zero, List.set_cons_succ, i64_w, i32_w]
                rfl
              refine pure_ (i := 4) (N := some 83) (v := ?_) (a' := ?_) #[true, true, true, true, true, false, false, false, false, false, false, false, false, false, false, false] rfl rfl (any_of HT_.out (by kernel_rfl)) (fun _ _ _ h => h) (Or.inl ⟨by rfl, ?_⟩) ?_ ?_
              rotate_left
              · intro w'
                go_simp
                with_reducible rfl
              rotate_left
              · simp only [Act.put, List.setIfInBounds_toArray, List.set_cons_zero, List.set_cons_succ, i64_w, i32_w]
                rfl
              refine pure_ (i := 5) (N := some 84) (v := ?_) (a' := ?_) #[true, true, true, true, true, true, false, false, false, false, false, false, false, false, false, false] rfl rfl (any_of HT_.out (by kernel_rfl)) (fun _ _ _ h => h) (Or.inl ⟨by rfl, ?_⟩) ?_ ?_
              rotate_left
              · intro w'
                go_simp
                with_reducible rfl
              rotate_left
              · simp only [Act.put, List.setIfInBounds_toArray, List.set_cons_zero, List.set_cons_succ, i64_w, i32_w]
                rfl
              refine pure_ (i := 7) (N := some 86) (v := ?_) (a' := ?_) #[true, true, true, true, true, true, false, true, false, false, false, false, false, false, false, false] rfl rfl (any_of HT_.out (by kernel_rfl)) (fun _ _ _ h => h) (Or.inl ⟨by rfl, ?_⟩) ?_ ?_
              rotate_left
              · intro w'
                go_simp
                with_reducible rfl
              rotate_left
              · simp only [Act.put, List.setIfInBounds_toArray, List.set_cons_zero, List.set_cons_succ, i64_w, i32_w]
                rfl
              refine take_ (i := 8) (N := some 87) (v := ?_) (a' := ?_) #[true, true, true, true, true, true, false, true, true, false, false, false, false, false, false, false] rfl rfl (take_ofW HT_.out HW_.out (by kernel_rfl)) (fun _ _ _ h => h) (Or.inl ⟨by rfl, ?_⟩) hHeld ?_ ?_
              rotate_left
              · rintro w' h1_
                obtain ⟨⟨_, _⟩, _, _⟩ := h1_.cells
                go_simp
                with_reducible rfl
              rotate_left
              · simp only [Act.put, List.setIfInBounds_toArray, List.set_cons_zero, List.set_cons_succ, i64_w, i32_w]
                rfl
              refine one_ (i := 6) (N := some 85) #[true, true, true, true, true, true, true, true, true, false, false, false, false, false, false, false] rfl rfl (one_of HT_.out (by kernel_rfl)) (by decide) (fun K hK => ?_)
              refine goes_ Try.func20 (by kernel_rfl) rfl #[.pointer (some ⟨w1.heap.size, 0, none⟩)] (by rfl) rfl rfl (by (try simp only [List.map_toArray, List.map_cons, List.map_nil]); first | done | rfl) ?_
              refine (ended_open w1.heap.size _ _ (unhide W0)).mono ?_
              rintro e w' ⟨rfl, rfl⟩
              refine ⟨_, rfl, ?_⟩
              clear hHeld
              refine hK.out _ _ (unhide M0) (fun hHeld => ?_)
              clear hK K
              refine norm_ (a' := ?_) ?_ ?_
              rotate_left
              · show Act.put _ (some 85) _ = _
                simp only [Act.put, List.setIfInBounds_toArray, List.set_cons_zero, List.set_cons_succ, i64_w, i32_w]
                rfl
              refine pure_ (i := 9) (N := some 88) (v := ?_) (a' := ?_) #[true, true, true, true, true, true, true, true, true, true, false, false, false, false, false, false] rfl rfl (any_of HT_.out (by kernel_rfl)) (fun _ _ _ h => h) (Or.inl ⟨by rfl, ?_⟩) ?_ ?_
              rotate_left
              · intro w'
                go_simp
                with_reducible rfl
              rotate_left
              · simp only [Act.put, List.setIfInBounds_toArray, List.set_cons_zero, List.set_cons_succ, i64_w, i32_w]
                rfl
              refine pure_ (i := 10) (N := some 89) (v := undef) (a' := ?_) #[true, true, true, true, true, true, true, true, true, true, true, false, false, false, false, false] rfl rfl (any_of HT_.out (by kernel_rfl)) (fun _ _ _ h => h) (Or.inr ⟨by rfl, rfl⟩) ?_ ?_
              rotate_left
              · simp only [Act.put, List.setIfInBounds_toArray, List.set_cons_zero, List.set_cons_succ, i64_w, i32_w]
                rfl
              refine pure_ (i := 11) (N := some 90) (v := undef) (a' := ?_) #[true, true, true, true, true, true, true, true, true, true, true, true, false, false, false, false] rfl rfl (any_of HT_.out (by kernel_rfl)) (fun _ _ _ h => h) (Or.inr ⟨by rfl, rfl⟩) ?_ ?_
              rotate_left
              · simp only [Act.put, List.setIfInBounds_toArray, List.set_cons_zero, List.set_cons_succ, i64_w, i32_w]
                rfl
              refine pure_ (i := 12) (N := some 91) (v := undef) (a' := ?_) #[true, true, true, true, true, true, true, true, true, true, true, true, true, false, false, false] rfl rfl (any_of HT_.out (by kernel_rfl)) (fun _ _ _ h => h) (Or.inr ⟨by rfl, rfl⟩) ?_ ?_
              rotate_left
              · simp only [Act.put, List.setIfInBounds_toArray, List.set_cons_zero, List.set_cons_succ, i64_w, i32_w]
                rfl
              refine pure_ (i := 13) (N := some 92) (v := ?_) (a' := ?_) #[true, true, true, true, true, true, true, true, true, true, true, true, true, true, false, false] rfl rfl (any_of HT_.out (by kernel_rfl)) (fun _ _ _ h => h) (Or.inl ⟨by rfl, ?_⟩) ?_ ?_
              rotate_left
              · intro w'
                go_simp
                with_reducible rfl
              rotate_left
              · simp only [Act.put, List.setIfInBounds_toArray, List.set_cons_zero, List.set_cons_succ, i64_w, i32_w]
                rfl
              refine pure_ (i := 14) (N := some 93) (v := ?_) (a' := ?_) #[true, true, true, true, true, true, true, true, true, true, true, true, true, true, true, false] rfl rfl (any_of HT_.out (by kernel_rfl)) (fun _ _ _ h => h) (Or.inl ⟨by rfl, ?_⟩) ?_ ?_
              rotate_left
              · intro w'
                go_simp
                with_reducible rfl
              rotate_left
              · simp only [Act.put, List.setIfInBounds_toArray, List.set_cons_zero, List.set_cons_succ, i64_w, i32_w]
                rfl
              refine pure_ (i := 15) (N := some 94) (v := ?_) (a' := ?_) #[true, true, true, true, true, true, true, true, true, true, true, true, true, true, true, true] rfl rfl (any_of HT_.out (by kernel_rfl)) (fun _ _ _ h => h) (Or.inl ⟨by rfl, ?_⟩) ?_ ?_
              rotate_left
              · intro w'
                go_simp
                with_reducible rfl
              rotate_left
              · simp only [Act.put, List.setIfInBounds_toArray, List.set_cons_zero, List.set_cons_succ, i64_w, i32_w]
                rfl
              refine done_ (done_of HT_.out (by kernel_rfl)) ?_
              clear HT_ HW_ hHeld
              go_wp2
              go_roundg (ko - 1)
              case measure => have := unhide HK; omega
              case rel =>
                refine ⟨i + 1, X, false, A4, c4, by go_num, by have := unhide HK; show i + 1 + (ko - 1) = n; omega, by rw [unhide XL]; exact hXm, ?_, ?_, unhide M0, unhide B0⟩
                · rw [unhide XL]; exact unhide W0
                · rw [unhide XL]; exact unhide O0
          have e0 : (k == 0) = false := beq_eq_false_iff_ne.2 hk0
          by_cases hk1 : k = 1
          · subst hk1
            obtain ⟨⟨m0, m1⟩, ⟨m2, m3⟩, m4⟩ := (unhide HM1).cells
            obtain ⟨_, _, _, hcl⟩ := came_as most xs.length
            have HR := hide (fun W : World => rtake_any xs false most W hxl)
            obtain ⟨m, hm⟩ : ∃ m, came most xs.length = m := ⟨_, rfl⟩
            rw [hm] at HR hcl
            have HMM := hide hm
            clear hm
            go_wp2_with fail
            refine ((unhide HR) _).mono ?_
            rintro e w3 ⟨rfl, hb⟩
            have N3 := hide (blk_below (unhide HN1) hb)
            have M3 := hide (blk_below (unhide HM1) hb)
            have W3 := hide ((unhide HW1).below hb)
            have O3 := hide (Kd.R_below (unhide HO1) hb)
            have B3 := hide (below_step (unhide HB1) hb)
            clear hb m0 m1 m2 m3 m4 HR
            obtain ⟨⟨n0, n1, n2⟩, ⟨n3, n4, n5⟩, n6⟩ := box3 (unhide N3)
            go_wp2_with fail
            refine (take_okn w1.heap.size w.heap.size (.slice A0 xs.length c0) false xs most m _ (blk_alloc (unhide W3) (.cells #[.string (strOfNums (xs.drop m)), .bool false] 36)) (Kd.R_alloc (unhide O3) (.cells #[.string (strOfNums (xs.drop m)), .bool false] 36)) (below_alloc (unhide B3) (.cells #[.string (strOfNums (xs.drop m)), .bool false] 36)).size z1 hxl (unhide HMM)).mono ?_
            rintro e w4 ⟨A4, c4, A5, c5, rfl, hO4, hW4, hO5, hB4, hK4, hsep⟩
            have M4 : Hid (Mb w4 (w1.heap.size + 1) xs false) := hide (hK4.blk (blk_alloc (unhide M3) (.cells #[.string (strOfNums (xs.drop m)), .bool false] 36)) (by omega) (by simp))
            have X4 : Hid (Mb w4 w3.heap.size (xs.drop m) false) := hide (hK4.blk (blk_new w3 (.cells #[.string (strOfNums (xs.drop m)), .bool false] 36)) (by omega) (by simp))
            have W4 := hide hW4
            have O4 := hide (Kd.R_lower hO5 (below_alloc (unhide B3) (.cells #[.string (strOfNums (xs.drop m)), .bool false] 36)).size)
            have B4 := hide ((below_alloc (unhide B3) (.cells #[.string (strOfNums (xs.drop m)), .bool false] 36)).trans hB4)
            have hcv2 := Kd.C_string (P := Try.prog) (c := c4) Try.underlying23 Try.underlying5 Try.underlying9 (own_reads hO4).2.2
            have hl4 : (xs.take m).length = m := (own_len hO4).symm
            rw [hl4] at hcv2
            clear hW4 hO4 hO5 hB4 hK4 hsep hl4
            obtain ⟨⟨m0, m1⟩, ⟨m2, m3⟩, m4⟩ := Mb.cells (unhide M4)
            obtain ⟨⟨x0, x1⟩, ⟨x2, x3⟩, x4⟩ := Mb.cells (unhide X4)
            go_wp2
            clear hcv2
            obtain ⟨m9, hm9⟩ : ∃ m9 : Nat, xs.length - m = m9 := ⟨_, rfl⟩
            refine gen_world (fun w' => Wire w' w1.heap.size (.slice (A5) m9 (c5)) false ∧ Mb w' (w1.heap.size + 1) (xs.drop m) false ∧ Own w' w.heap.size (.slice (A5) m9 (c5)) (xs.drop m) ∧ Below w.heap.size w w') ⟨by rw [← hm9]; exact Wire.far (Wire.far (unhide W4) (by simp)) (by simp), blk_put (blk_put (unhide M4) 0 _ rfl) 1 _ rfl, by rw [← hm9]; exact Kd.R_set (Kd.R_set (unhide O4) (unhide M4) hq 0 _) (blk_put (unhide M4) 0 _ rfl) hq 1 _, below_set (below_set (unhide B4) (by omega)) (by omega)⟩ (fun w9 h9 => ?_)
            obtain ⟨hW9, hM9, hO9, hB9⟩ := h9
            have hXl : (xs.drop m).length = m9 := Eq.trans (show (xs.drop m).length = xs.length - m from List.length_drop) hm9
            have hXm : m9 ≤ 131072 := by rw [← hm9]; exact (by omega)
            clear HM1 HW1 HO1 HB1 HC1 HN1 hm9
            generalize (xs.drop m) = X at hM9 hO9 hXl
            have hsz : (strOfNums X).size = m9 := by rw [strOfNums_size]; exact hXl
            have hem : (strOfNums X).toList.isEmpty = (m9 == 0) := by rw [← hXl]; exact str_none X
            have M0 : Hid (Mb w9.drew (w1.heap.size + 1) X false) := hM9
            have W0 : Hid (Wire w9.drew w1.heap.size (.slice (A5) m9 (c5)) false) := hW9
            have O0 : Hid (Own w9.drew w.heap.size (.slice (A5) m9 (c5)) X) := hO9
            have B0 := hide (below_drew1 hB9)
            have XL := hide hXl
            clear hW9 hM9 hO9 hB9 hXl
            generalize hb0 : (m9 == 0) = b0 at hem
            have HEND := hide hb0
            clear hb0
            refine start_ (n := 16) (S := fun w' => Mb w' (w1.heap.size + 1) X false) (ds := []) #[false, false, false, false, false, false, false, false, false, false, false, false, false, false, false, false] (by kernel_rfl) rfl rfl (unhide M0) (fun hHeld => ?_)
            refine with_tabW tabT5_29 bitsT5_29 (fun HT_ HW_ => ?_)
            refine pure_ (i := 1) (N := some 80) (v := ?_) (a' := ?_) #[false, true, false, false, false, false, false, false, false, false, false, false, false, false, false, false] rfl rfl (any_of HT_.out (by kernel_rfl)) (fun _ _ _ h => h) (Or.inl ⟨by rfl, ?_⟩) ?_ ?_
            rotate_left
            · intro w'
              go_simp
              with_reducible rfl
            rotate_left
            · simp only [Act.put, List.setIfInBounds_toArray, List.set_cons_zero, List.set_cons_succ, i64_w, i32_w]
              rfl
            refine take_ (i := 2) (N := some 81) (v := ?_) (a' := ?_) #[false, true, true, false, false, false, false, false, false, false, false, false, false, false, false, false] rfl rfl (take_ofW HT_.out HW_.out (by kernel_rfl)) (fun _ _ _ h => h) (Or.inl ⟨by rfl, ?_⟩) hHeld ?_ ?_
            rotate_left
            · rintro w' h1_
              obtain ⟨⟨_, _⟩, _, _⟩ := h1_.cells
              go_simp
              with_reducible rfl
            rotate_left
            · simp only [Act.put, List.setIfInBounds_toArray, List.set_cons_zero, List.set_cons_succ, i64_w, i32_w]
              rfl
            refine pure_ (i := 3) (N := some 82) (v := ?_) (a' := ?_) #[false, true, true, true, false, false, false, false, false, false, false, false, false, false, false, false] rfl rfl (any_of HT_.out (by kernel_rfl)) (fun _ _ _ h => h) (Or.inl ⟨by rfl, ?_⟩) ?_ ?_
            rotate_left
            · intro w'
              go_simp
              with_reducible rfl
            rotate_left
            · simp only [Act.put, List.setIfInBounds_toArray, List.set_cons_zero, List.set_cons_succ, i64_w, i32_w]
              rfl
            refine one_ (i := 0) (N := some 79) #[true, true, true, true, false, false, false, false, false, false, false, false, false, false, false, false] rfl rfl (one_of HT_.out (by kernel_rfl)) (by decide) (fun K hK => ?_)
            refine goes_ Try.func17 (by kernel_rfl) rfl #[.pointer (some ⟨w1.heap.size, 0, none⟩)] (by rfl) rfl rfl (by (try simp only [List.map_toArray, List.map_cons, List.map_nil]); first | done | rfl) ?_
            refine (len_ok w1.heap.size (A5) m9 (c5) false _ (unhide W0)).mono ?_
            rintro e w' ⟨rfl, rfl⟩
            refine ⟨_, rfl, ?_⟩
            clear hHeld
            refine hK.out _ _ (unhide M0) (fun hHeld => ?_)
            clear hK K
            refine norm_ (a' := ?_) ?_ ?_
            rotate_left
            · show Act.put _ (some 79) _ = _
              simp only [Act.put, List.setIfInBounds_toArray, List.set_cons_zero, List.set_cons_succ, i64_w, i32_w]
              rfl
            refine pure_ (i := 4) (N := some 83) (v := ?_) (a' := ?_) #[true, true, true, true, true, false, false, false, false, false, false, false, false, false, false, false] rfl rfl (any_of HT_.out (by kernel_rfl)) (fun _ _ _ h => h) (Or.inl ⟨by rfl, ?_⟩) ?_ ?_
            rotate_left
            · intro w'
              go_simp
              with_reducible rfl
            rotate_left
            · simp only [Act.put, List.setIfInBounds_toArray, List.set_cons_zero, List.set_cons_succ, i64_w, i32_w]
              rfl
            refine pure_ (i := 5) (N := some 84) (v := ?_) (a' := ?_) #[true, true, true, true, true, true, false, false, false, false, false, false, false, false, false, false] rfl rfl (any_of HT_.out (by kernel_rfl)) (fun _ _ _ h => h) (Or.inl ⟨by rfl, ?_⟩) ?_ ?_
            rotate_left
            · intro w'
              go_simp
              with_reducible rfl
            rotate_left
            · simp only [Act.put, List.setIfInBounds_toArray, List.set_cons_zero, List.set_cons_succ, i64_w, i32_w]
              rfl
            refine pure_ (i := 7) (N := some 86) (v := ?_) (a' := ?_) #[true, true, true, true, true, true, false, true, false, false, false, false, false, false, false, false] rfl rfl (any_of HT_.out (by kernel_rfl)) (fun _ _ _ h => h) (Or.inl ⟨by rfl, ?_⟩) ?_ ?_
            rotate_left
            · intro w'
              go_simp
              with_reducible rfl
            rotate_left
            · simp only [Act.put, List.setIfInBounds_toArray, List.set_cons_zero, List.set_cons_succ, i64_w, i32_w]
              rfl
            refine take_ (i := 8) (N := some 87) (v := ?_) (a' := ?_) #[true, true, true, true, true, true, false, true, true, false, false, false, false, false, false, false] rfl rfl (take_ofW HT_.out HW_.out (by kernel_rfl)) (fun _ _ _ h => h) (Or.inl ⟨by rfl, ?_⟩) hHeld ?_ ?_
            rotate_left
            · rintro w' h1_
              obtain ⟨⟨_, _⟩, _, _⟩ := h1_.cells
              go_simp
              with_reducible rfl
            rotate_left
            · simp only [Act.put, List.setIfInBounds_toArray, List.set_cons_zero, List.set_cons_succ, i64_w, i32_w]
              rfl
            refine one_ (i := 6) (N := some 85) #[true, true, true, true, true, true, true, true, true, false, false, false, false, false, false, false] rfl rfl (one_of HT_.out (by kernel_rfl)) (by decide) (fun K hK => ?_)
            refine goes_ Try.func20 (by kernel_rfl) rfl #[.pointer (some ⟨w1.heap.size, 0, none⟩)] (by rfl) rfl rfl (by (try simp only [List.map_toArray, List.map_cons, List.map_nil]); first | done | rfl) ?_
            refine (ended_open w1.heap.size _ _ (unhide W0)).mono ?_
            rintro e w' ⟨rfl, rfl⟩
            refine ⟨_, rfl, ?_⟩
            clear hHeld
            refine hK.out _ _ (unhide M0) (fun hHeld => ?_)
            clear hK K
            refine norm_ (a' := ?_) ?_ ?_
            rotate_left
            · show Act.put _ (some 85) _ = _
              simp only [Act.put, List.setIfInBounds_toArray, List.set_cons_zero, List.set_cons_succ, i64_w, i32_w]
              rfl
            refine pure_ (i := 9) (N := some 88) (v := ?_) (a' := ?_) #[true, true, true, true, true, true, true, true, true, true, false, false, false, false, false, false] rfl rfl (any_of HT_.out (by kernel_rfl)) (fun _ _ _ h => h) (Or.inl ⟨by rfl, ?_⟩) ?_ ?_
            rotate_left
            · intro w'
              go_simp
              with_reducible rfl
            rotate_left
            · simp only [Act.put, List.setIfInBounds_toArray, List.set_cons_zero, List.set_cons_succ, i64_w, i32_w]
              rfl
            refine pure_ (i := 10) (N := some 89) (v := undef) (a' := ?_) #[true, true, true, true, true, true, true, true, true, true, true, false, false, false, false, false] rfl rfl (any_of HT_.out (by kernel_rfl)) (fun _ _ _ h => h) (Or.inr ⟨by rfl, rfl⟩) ?_ ?_
            rotate_left
            · simp only [Act.put, List.setIfInBounds_toArray, List.set_cons_zero, List.set_cons_succ, i64_w, i32_w]
              rfl
            refine pure_ (i := 11) (N := some 90) (v := undef) (a' := ?_) #[true, true, true, true, true, true, true, true, true, true, true, true, false, false, false, false] rfl rfl (any_of HT_.out (by kernel_rfl)) (fun _ _ _ h => h) (Or.inr ⟨by rfl, rfl⟩) ?_ ?_
            rotate_left
            · simp only [Act.put, List.setIfInBounds_toArray, List.set_cons_zero, List.set_cons_succ, i64_w, i32_w]
              rfl
            refine pure_ (i := 12) (N := some 91) (v := undef) (a' := ?_) #[true, true, true, true, true, true, true, true, true, true, true, true, true, false, false, false] rfl rfl (any_of HT_.out (by kernel_rfl)) (fun _ _ _ h => h) (Or.inr ⟨by rfl, rfl⟩) ?_ ?_
            rotate_left
            · simp only [Act.put, List.setIfInBounds_toArray, List.set_cons_zero, List.set_cons_succ, i64_w, i32_w]
              rfl
            refine pure_ (i := 13) (N := some 92) (v := ?_) (a' := ?_) #[true, true, true, true, true, true, true, true, true, true, true, true, true, true, false, false] rfl rfl (any_of HT_.out (by kernel_rfl)) (fun _ _ _ h => h) (Or.inl ⟨by rfl, ?_⟩) ?_ ?_
            rotate_left
            · intro w'
              go_simp
              with_reducible rfl
            rotate_left
            · simp only [Act.put, List.setIfInBounds_toArray, List.set_cons_zero, List.set_cons_succ, i64_w, i32_w]
              rfl
            refine pure_ (i := 14) (N := some 93) (v := ?_) (a' := ?_) #[true, true, true, true, true, true, true, true, true, true, true, true, true, true, true, false] rfl rfl (any_of HT_.out (by kernel_rfl)) (fun _ _ _ h => h) (Or.inl ⟨by rfl, ?_⟩) ?_ ?_
            rotate_left
            · intro w'
              go_simp
              with_reducible rfl
            rotate_left
            · simp only [Act.put, List.setIfInBounds_toArray, List.set_cons_zero, List.set_cons_succ, i64_w, i32_w]
              rfl
            refine pure_ (i := 15) (N := some 94) (v := ?_) (a' := ?_) #[true, true, true, true, true, true, true, true, true, true, true, true, true, true, true, true] rfl rfl (any_of HT_.out (by kernel_rfl)) (fun _ _ _ h => h) (Or.inl ⟨by rfl, ?_⟩) ?_ ?_
            rotate_left
            · intro w'
              go_simp
              with_reducible rfl
            rotate_left
            · simp only [Act.put, List.setIfInBounds_toArray, List.set_cons_zero, List.set_cons_succ, i64_w, i32_w]
              rfl
            refine done_ (done_of HT_.out (by kernel_rfl)) ?_
            clear HT_ HW_ hHeld
            go_wp2
            go_roundg (ko - 1)
            case measure => have := unhide HK; omega
            case rel =>
              refine ⟨i + 1, X, false, A5, c5, by go_num, by have := unhide HK; show i + 1 + (ko - 1) = n; omega, by rw [unhide XL]; exact hXm, ?_, ?_, unhide M0, unhide B0⟩
              · rw [unhide XL]; exact unhide W0
              · rw [unhide XL]; exact unhide O0
          have e1 : (k == 1) = false := beq_eq_false_iff_ne.2 hk1
          by_cases hk2 : k = 2
          · subst hk2
            obtain ⟨⟨m0, m1⟩, ⟨m2, m3⟩, m4⟩ := (unhide HM1).cells
            go_wp2_with fail
            refine (shut_ok w1.heap.size _ false _ (unhide HW1)).mono ?_
            rintro e w' ⟨rfl, rfl⟩
            go_wp2
            obtain ⟨m9, hm9⟩ : ∃ m9 : Nat, xs.length = m9 := ⟨_, rfl⟩
            refine gen_world (fun w' => Wire w' w1.heap.size (.slice (A0) m9 (c0)) true ∧ Mb w' (w1.heap.size + 1) (xs) true ∧ Own w' w.heap.size (.slice (A0) m9 (c0)) (xs) ∧ Below w.heap.size w w') ⟨by rw [← hm9]; exact Wire.far (blk_put (unhide HW1) 1 _ rfl) (by simp), blk_put (Mb.far (unhide HM1) (by simp)) 1 _ rfl, by rw [← hm9]; exact Kd.R_set ((unhide HW1).own (unhide HO1) 1 _) (Mb.far (unhide HM1) (by simp)) hq 1 _, below_set (below_set (unhide HB1) z1) (by omega)⟩ (fun w9 h9 => ?_)
            obtain ⟨hW9, hM9, hO9, hB9⟩ := h9
            have hXl : (xs).length = m9 := Eq.trans (show (xs).length = xs.length from rfl) hm9
            have hXm : m9 ≤ 131072 := by rw [← hm9]; exact hxl
            clear HM1 HW1 HO1 HB1 HC1 HN1 hm9
            generalize (xs) = X at hM9 hO9 hXl
            have hsz : (strOfNums X).size = m9 := by rw [strOfNums_size]; exact hXl
            have hem : (strOfNums X).toList.isEmpty = (m9 == 0) := by rw [← hXl]; exact str_none X
            have M0 : Hid (Mb w9.drew (w1.heap.size + 1) X true) := hM9
            have W0 : Hid (Wire w9.drew w1.heap.size (.slice (A0) m9 (c0)) true) := hW9
            have O0 : Hid (Own w9.drew w.heap.size (.slice (A0) m9 (c0)) X) := hO9
            have B0 := hide (below_drew1 hB9)
            have XL := hide hXl
            clear hW9 hM9 hO9 hB9 hXl
            generalize hb0 : (m9 == 0) = b0 at hem
            have HEND := hide hb0
            clear hb0
            refine start_ (n := 16) (S := fun w' => Mb w' (w1.heap.size + 1) X true) (ds := []) #[false, false, false, false, false, false, false, false, false, false, false, false, false, false, false, false] (by kernel_rfl) rfl rfl (unhide M0) (fun hHeld => ?_)
            refine with_tabW tabT5_29 bitsT5_29 (fun HT_ HW_ => ?_)
            refine pure_ (i := 1) (N := some 80) (v := ?_) (a' := ?_) #[false, true, false, false, false, false, false, false, false, false, false, false, false, false, false, false] rfl rfl (any_of HT_.out (by kernel_rfl)) (fun _ _ _ h => h) (Or.inl ⟨by rfl, ?_⟩) ?_ ?_
            rotate_left
            · intro w'
              go_simp
              with_reducible rfl
            rotate_left
            · simp only [Act.put, List.setIfInBounds_toArray, List.set_cons_zero, List.set_cons_succ, i64_w, i32_w]
              rfl
            refine take_ (i := 2) (N := some 81) (v := ?_) (a' := ?_) #[false, true, true, false, false, false, false, false, false, false, false, false, false, false, false, false] rfl rfl (take_ofW HT_.out HW_.out (by kernel_rfl)) (fun _ _ _ h => h) (Or.inl ⟨by rfl, ?_⟩) hHeld ?_ ?_
            rotate_left
            · rintro w' h1_
              obtain ⟨⟨_, _⟩, _, _⟩ := h1_.cells
              go_simp
              with_reducible rfl
            rotate_left
            · simp only [Act.put, List.setIfInBounds_toArray, List.set_cons_zero, List.set_cons_succ, i64_w, i32_w]
              rfl
            refine pure_ (i := 3) (N := some 82) (v := ?_) (a' := ?_) #[false, true, true, true, false, false, false, false, false, false, false, false, false, false, false, false] rfl rfl (any_of HT_.out (by kernel_rfl)) (fun _ _ _ h => h) (Or.inl ⟨by rfl, ?_⟩) ?_ ?_
            rotate_left
            · intro w'
              go_simp
              with_reducible rfl
            rotate_left
            · simp only [Act.put, List.setIfInBounds_toArray, List.set_cons_zero, List.set_cons_succ, i64_w, i32_w]
              rfl
            refine one_ (i := 0) (N := some 79) #[true, true, true, true, false, false, false, false, false, false, false, false, false, false, false, false] rfl rfl (one_of HT_.out (by kernel_rfl)) (by decide) (fun K hK => ?_)
            refine goes_ Try.func17 (by kernel_rfl) rfl #[.pointer (some ⟨w1.heap.size, 0, none⟩)] (by rfl) rfl rfl (by (try simp only [List.map_toArray, List.map_cons, List.map_nil]); first | done | rfl) ?_
            refine (len_ok w1.heap.size (A0) m9 (c0) true _ (unhide W0)).mono ?_
            rintro e w' ⟨rfl, rfl⟩
            refine ⟨_, rfl, ?_⟩
            clear hHeld
            refine hK.out _ _ (unhide M0) (fun hHeld => ?_)
            clear hK K
            refine norm_ (a' := ?_) ?_ ?_
            rotate_left
            · show Act.put _ (some 79) _ = _
              simp only [Act.put, List.setIfInBounds_toArray, List.set_cons_zero, List.set_cons_succ, i64_w, i32_w]
              rfl
            refine pure_ (i := 4) (N := some 83) (v := ?_) (a' := ?_) #[true, true, true, true, true, false, false, false, false, false, false, false, false, false, false, false] rfl rfl (any_of HT_.out (by kernel_rfl)) (fun _ _ _ h => h) (Or.inl ⟨by rfl, ?_⟩) ?_ ?_
            rotate_left
            · intro w'
              go_simp
              with_reducible rfl
            rotate_left
            · simp only [Act.put, List.setIfInBounds_toArray, List.set_cons_zero, List.set_cons_succ, i64_w, i32_w]
              rfl
            refine pure_ (i := 5) (N := some 84) (v := ?_) (a' := ?_) #[true, true, true, true, true, true, false, false, false, false, false, false, false, false, false, false] rfl rfl (any_of HT_.out (by kernel_rfl)) (fun _ _ _ h => h) (Or.inl ⟨by rfl, ?_⟩) ?_ ?_
            rotate_left
            · intro w'
              go_simp
              with_reducible rfl
            rotate_left
            · simp only [Act.put, List.setIfInBounds_toArray, List.set_cons_zero, List.set_cons_succ, i64_w, i32_w]
              rfl
            refine pure_ (i := 7) (N := some 86) (v := ?_) (a' := ?_) #[true, true, true, true, true, true, false, true, false, false, false, false, false, false, false, false] rfl rfl (any_of HT_.out (by kernel_rfl)) (fun _ _ _ h => h) (Or.inl ⟨by rfl, ?_⟩) ?_ ?_
            rotate_left
            · intro w'
              go_simp
              with_reducible rfl
            rotate_left
            · simp only [Act.put, List.setIfInBounds_toArray, List.set_cons_zero, List.set_cons_succ, i64_w, i32_w]
              rfl
            refine take_ (i := 8) (N := some 87) (v := ?_) (a' := ?_) #[true, true, true, true, true, true, false, true, true, false, false, false, false, false, false, false] rfl rfl (take_ofW HT_.out HW_.out (by kernel_rfl)) (fun _ _ _ h => h) (Or.inl ⟨by rfl, ?_⟩) hHeld ?_ ?_
            rotate_left
            · rintro w' h1_
              obtain ⟨⟨_, _⟩, _, _⟩ := h1_.cells
              go_simp
              with_reducible rfl
            rotate_left
            · simp only [Act.put, List.setIfInBounds_toArray, List.set_cons_zero, List.set_cons_succ, i64_w, i32_w]
              rfl
            refine one_ (i := 6) (N := some 85) #[true, true, true, true, true, true, true, true, true, false, false, false, false, false, false, false] rfl rfl (one_of HT_.out (by kernel_rfl)) (by decide) (fun K hK => ?_)
            refine goes_ Try.func20 (by kernel_rfl) rfl #[.pointer (some ⟨w1.heap.size, 0, none⟩)] (by rfl) rfl rfl (by (try simp only [List.map_toArray, List.map_cons, List.map_nil]); first | done | rfl) ?_
            refine (ended_shutx w1.heap.size (A0) m9 (c0) b0 _ (unhide W0) (unhide HEND)).mono ?_
            rintro e w' ⟨rfl, rfl⟩
            refine ⟨_, rfl, ?_⟩
            clear hHeld
            refine hK.out _ _ (unhide M0) (fun hHeld => ?_)
            clear hK K
            refine norm_ (a' := ?_) ?_ ?_
            rotate_left
            · show Act.put _ (some 85) _ = _
              simp only [Act.put, List.setIfInBounds_toArray, List.set_cons_zero, List.set_cons_succ, i64_w, i32_w]
              rfl
            refine pure_ (i := 9) (N := some 88) (v := ?_) (a' := ?_) #[true, true, true, true, true, true, true, true, true, true, false, false, false, false, false, false] rfl rfl (any_of HT_.out (by kernel_rfl)) (fun _ _ _ h => h) (Or.inl ⟨by rfl, ?_⟩) ?_ ?_
            rotate_left
            · intro w'
              go_simp
              with_reducible rfl
            rotate_left
            · simp only [Act.put, List.setIfInBounds_toArray, List.set_cons_zero, List.set_cons_succ, i64_w, i32_w]
              rfl
            refine pure_ (i := 10) (N := some 89) (v := ?_) (a' := ?_) #[true, true, true, true, true, true, true, true, true, true, true, false, false, false, false, false] rfl rfl (any_of HT_.out (by kernel_rfl)) (fun _ _ _ h => h) (Or.inl ⟨by rfl, ?_⟩) ?_ ?_
            rotate_left
            · intro w'
              go_simp
              with_reducible rfl
            rotate_left
            · simp only [Act.put, List.setIfInBounds_toArray, List.set_cons_zero, List.set_cons_succ, i64_w, i32_w]
              rfl
            refine take_ (i := 11) (N := some 90) (v := ?_) (a' := ?_) #[true, true, true, true, true, true, true, true, true, true, true, true, false, false, false, false] rfl rfl (take_ofW HT_.out HW_.out (by kernel_rfl)) (fun _ _ _ h => h) (Or.inl ⟨by rfl, ?_⟩) hHeld ?_ ?_
            rotate_left
            · rintro w' h1_
              obtain ⟨⟨_, _⟩, _, _⟩ := h1_.cells
              go_simp
              with_reducible rfl
            rotate_left
            · simp only [Act.put, List.setIfInBounds_toArray, List.set_cons_zero, List.set_cons_succ, i64_w, i32_w]
              rfl
            refine pure_ (i := 12) (N := some 91) (v := ?_) (a' := ?_) #[true, true, true, true, true, true, true, true, true, true, true, true, true, false, false, false] rfl rfl (any_of HT_.out (by kernel_rfl)) (fun _ _ _ h => h) (Or.inl ⟨by rfl, ?_⟩) ?_ ?_
            rotate_left
            · intro w'
              go_simp
              with_reducible rfl
            rotate_left
            · simp only [Act.put, List.setIfInBounds_toArray, List.set_cons_zero, List.set_cons_succ, i64_w, i32_w]
              rfl
            refine pure_ (i := 13) (N := some 92) (v := ?_) (a' := ?_) #[true, true, true, true, true, true, true, true, true, true, true, true, true, true, false, false] rfl rfl (any_of HT_.out (by kernel_rfl)) (fun _ _ _ h => h) (Or.inl ⟨by rfl, ?_⟩) ?_ ?_
            rotate_left
            · intro w'
              go_simp
              with_reducible rfl
            rotate_left
            · simp only [Act.put, List.setIfInBounds_toArray, List.set_cons_zero, List.set_cons_succ, i64_w, i32_w]
              rfl
            refine pure_ (i := 14) (N := some 93) (v := ?_) (a' := ?_) #[true, true, true, true, true, true, true, true, true, true, true, true, true, true, true, false] rfl rfl (any_of HT_.out (by kernel_rfl)) (fun _ _ _ h => h) (Or.inl ⟨by rfl, ?_⟩) ?_ ?_
            rotate_left
            · intro w'
              go_simp
              with_reducible rfl
            rotate_left
            · simp only [Act.put, List.setIfInBounds_toArray, List.set_cons_zero, List.set_cons_succ, i64_w, i32_w]
              rfl
            refine pure_ (i := 15) (N := some 94) (v := ?_) (a' := ?_) #[true, true, true, true, true, true, true, true, true, true, true, true, true, true, true, true] rfl rfl (any_of HT_.out (by kernel_rfl)) (fun _ _ _ h => h) (Or.inl ⟨by rfl, ?_⟩) ?_ ?_
            rotate_left
            · intro w'
              go_simp
              with_reducible rfl
            rotate_left
            · simp only [Act.put, List.setIfInBounds_toArray, List.set_cons_zero, List.set_cons_succ, i64_w, i32_w]
              rfl
            refine done_ (done_of HT_.out (by kernel_rfl)) ?_
            clear HT_ HW_ hHeld
            go_wp2
            go_roundg (ko - 1)
            case measure => have := unhide HK; omega
            case rel =>
              refine ⟨i + 1, X, true, A0, c0, by go_num, by have := unhide HK; show i + 1 + (ko - 1) = n; omega, by rw [unhide XL]; exact hXm, ?_, ?_, unhide M0, unhide B0⟩
              · rw [unhide XL]; exact unhide W0
              · rw [unhide XL]; exact unhide O0
          have e2 : (k == 2) = false := beq_eq_false_iff_ne.2 hk2
          by_cases hk3 : k = 3
          · subst hk3
            obtain ⟨⟨m0, m1⟩, ⟨m2, m3⟩, m4⟩ := (unhide HM1).cells
            go_wp2_with fail
            refine (cut_ok w1.heap.size _ false _ (unhide HW1)).mono ?_
            rintro e w' ⟨rfl, rfl⟩
            go_wp2
            obtain ⟨m9, hm9⟩ : ∃ m9 : Nat, 0 = m9 := ⟨_, rfl⟩
            refine gen_world (fun w' => Wire w' w1.heap.size (.slice (none) m9 (0)) true ∧ Mb w' (w1.heap.size + 1) (([] : List Int)) true ∧ Own w' w.heap.size (.slice (none) m9 (0)) (([] : List Int)) ∧ Below w.heap.size w w') ⟨by rw [← hm9]; exact Wire.far (Wire.far (blk_put (blk_put (unhide HW1) 0 _ rfl) 1 _ rfl) (by simp)) (by simp), blk_put (blk_put (Mb.far (Mb.far (unhide HM1) (by simp)) (by simp)) 0 _ rfl) 1 _ rfl, by rw [← hm9]; exact Kd.R_nil _ _ _ _ _, below_set (below_set (below_set (below_set (unhide HB1) z1) z1) (by omega)) (by omega)⟩ (fun w9 h9 => ?_)
            obtain ⟨hW9, hM9, hO9, hB9⟩ := h9
            have hXl : (([] : List Int)).length = m9 := Eq.trans (show (([] : List Int)).length = 0 from rfl) hm9
            have hXm : m9 ≤ 131072 := by rw [← hm9]; exact (by omega)
            clear HM1 HW1 HO1 HB1 HC1 HN1 hm9
            generalize (([] : List Int)) = X at hM9 hO9 hXl
            have hsz : (strOfNums X).size = m9 := by rw [strOfNums_size]; exact hXl
            have hem : (strOfNums X).toList.isEmpty = (m9 == 0) := by rw [← hXl]; exact str_none X
            have M0 : Hid (Mb w9.drew (w1.heap.size + 1) X true) := hM9
            have W0 : Hid (Wire w9.drew w1.heap.size (.slice (none) m9 (0)) true) := hW9
            have O0 : Hid (Own w9.drew w.heap.size (.slice (none) m9 (0)) X) := hO9
            have B0 := hide (below_drew1 hB9)
            have XL := hide hXl
            clear hW9 hM9 hO9 hB9 hXl
            generalize hb0 : (m9 == 0) = b0 at hem
            have HEND := hide hb0
            clear hb0
            refine start_ (n := 16) (S := fun w' => Mb w' (w1.heap.size + 1) X true) (ds := []) #[false, false, false, false, false, false, false, false, false, false, false, false, false, false, false, false] (by kernel_rfl) rfl rfl (unhide M0) (fun hHeld => ?_)
            refine with_tabW tabT5_29 bitsT5_29 (fun HT_ HW_ => ?_)
            refine pure_ (i := 1) (N := some 80) (v := ?_) (a' := ?_) #[false, true, false, false, false, false, false, false, false, false, false, false, false, false, false, false] rfl rfl (any_of HT_.out (by kernel_rfl)) (fun _ _ _ h => h) (Or.inl ⟨by rfl, ?_⟩) ?_ ?_
            rotate_left
            · intro w'
              go_simp
              with_reducible rfl
            rotate_left
            · simp only [Act.put, List.setIfInBounds_toArray, List.set_cons_zero, List.set_cons_succ, i64_w, i32_w]
              rfl
            refine take_ (i := 2) (N := some 81) (v := ?_) (a' := ?_) #[false, true, true, false, false, false, false, false, false, false, false, false, false, false, false, false] rfl rfl (take_ofW HT_.out HW_.out (by kernel_rfl)) (fun _ _ _ h => h) (Or.inl ⟨by rfl, ?_⟩) hHeld ?_ ?_
            rotate_left
            · rintro w' h1_
              obtain ⟨⟨_, _⟩, _, _⟩ := h1_.cells
              go_simp
              with_reducible rfl
            rotate_left
            · simp only [Act.put, List.setIfInBounds_toArray, List.set_cons_zero, List.set_cons_succ, i64_w, i32_w]
              rfl
            refine pure_ (i := 3) (N := some 82) (v := ?_) (a' := ?_) #[false, true, true, true, false, false, false, false, false, false, false, false, false, false, false, false] rfl rfl (any_of HT_.out (by kernel_rfl)) (fun _ _ _ h => h) (Or.inl ⟨by rfl, ?_⟩) ?_ ?_
            rotate_left
            · intro w'
              go_simp
              with_reducible rfl
            rotate_left
            · simp only [Act.put, List.setIfInBounds_toArray, List.set_cons_zero, List.set_cons_succ, i64_w, i32_w]
              rfl
            refine one_ (i := 0) (N := some 79) #[true, true, true, true, false, false, false, false, false, false, false, false, false, false, false, false] rfl rfl (one_of HT_.out (by kernel_rfl)) (by decide) (fun K hK => ?_)
            refine goes_ Try.func17 (by kernel_rfl) rfl #[.pointer (some ⟨w1.heap.size, 0, none⟩)] (by rfl) rfl rfl (by (try simp only [List.map_toArray, List.map_cons, List.map_nil]); first | done | rfl) ?_
            refine (len_ok w1.heap.size (none) m9 (0) true _ (unhide W0)).mono ?_
            rintro e w' ⟨rfl, rfl⟩
            refine ⟨_, rfl, ?_⟩
            clear hHeld
            refine hK.out _ _ (unhide M0) (fun hHeld => ?_)
            clear hK K
            refine norm_ (a' := ?_) ?_ ?_
            rotate_left
            · show Act.put _ (some 79) _ = _
              simp only [Act.put, List.setIfInBounds_toArray, List.set_cons_zero, List.set_cons_succ, i64_w, i32_w]
              rfl
            refine pure_ (i := 4) (N := some 83) (v := ?_) (a' := ?_) #[true, true, true, true, true, false, false, false, false, false, false, false, false, false, false, false] rfl rfl (any_of HT_.out (by kernel_rfl)) (fun _ _ _ h => h) (Or.inl ⟨by rfl, ?_⟩) ?_ ?_
            rotate_left
            · intro w'
              go_simp
              with_reducible rfl
            rotate_left
            · simp only [Act.put, List.setIfInBounds_toArray, List.set_cons_zero, List.set_cons_succ, i64_w, i32_w]
              rfl
            refine pure_ (i := 5) (N := some 84) (v := ?_) (a' := ?_) #[true, true, true, true, true, true, false, false, false, false, false, false, false, false, false, false] rfl rfl (any_of HT_.out (by kernel_rfl)) (fun _ _ _ h => h) (Or.inl ⟨by rfl, ?_⟩) ?_ ?_
            rotate_left
            · intro w'
              go_simp
              with_reducible rfl
            rotate_left
            · simp only [Act.put, List.setIfInBounds_toArray, List.set_cons_zero, List.set_cons_succ, i64_w, i32_w]
              rfl
            refine pure_ (i := 7) (N := some 86) (v := ?_) (a' := ?_) #[true, true, true, true, true, true, false, true, false, false, false, false, false, false, false, false] rfl rfl (any_of HT_.out (by kernel_rfl)) (fun _ _ _ h => h) (Or.inl ⟨by rfl, ?_⟩) ?_ ?_
            rotate_left
            · intro w'
              go_simp
              with_reducible rfl
            rotate_left
            · simp only [Act.put, List.setIfInBounds_toArray, List.set_cons_zero, List.set_cons_succ, i64_w, i32_w]
              rfl
            refine take_ (i := 8) (N := some 87) (v := ?_) (a' := ?_) #[true, true, true, true, true, true, false, true, true, false, false, false, false, false, false, false] rfl rfl (take_ofW HT_.out HW_.out (by kernel_rfl)) (fun _ _ _ h => h) (Or.inl ⟨by rfl, ?_⟩) hHeld ?_ ?_
            rotate_left
            · rintro w' h1_
              obtain ⟨⟨_, _⟩, _, _⟩ := h1_.cells
              go_simp
              with_reducible rfl
            rotate_left
            · simp only [Act.put, List.setIfInBounds_toArray, List.set_cons_zero, List.set_cons_succ, i64_w, i32_w]
              rfl
            refine one_ (i := 6) (N := some 85) #[true, true, true, true, true, true, true, true, true, false, false, false, false, false, false, false] rfl rfl (one_of HT_.out (by kernel_rfl)) (by decide) (fun K hK => ?_)
            refine goes_ Try.func20 (by kernel_rfl) rfl #[.pointer (some ⟨w1.heap.size, 0, none⟩)] (by rfl) rfl rfl (by (try simp only [List.map_toArray, List.map_cons, List.map_nil]); first | done | rfl) ?_
            refine (ended_shutx w1.heap.size (none) m9 (0) b0 _ (unhide W0) (unhide HEND)).mono ?_
            rintro e w' ⟨rfl, rfl⟩
            refine ⟨_, rfl, ?_⟩
            clear hHeld
            refine hK.out _ _ (unhide M0) (fun hHeld => ?_)
            clear hK K
            refine norm_ (a' := ?_) ?_ ?_
            rotate_left
            · show Act.put _ (some 85) _ = _
              simp only [Act.put, List.setIfInBounds_toArray, List.set_cons_zero, List.set_cons_succ, i64_w, i32_w]
              rfl
            refine pure_ (i := 9) (N := some 88) (v := ?_) (a' := ?_) #[true, true, true, true, true, true, true, true, true, true, false, false, false, false, false, false] rfl rfl (any_of HT_.out (by kernel_rfl)) (fun _ _ _ h => h) (Or.inl ⟨by rfl, ?_⟩) ?_ ?_
            rotate_left
            · intro w'
              go_simp
              with_reducible rfl
            rotate_left
            · simp only [Act.put, List.setIfInBounds_toArray, List.set_cons_zero, List.set_cons_succ, i64_w, i32_w]
              rfl
            refine pure_ (i := 10) (N := some 89) (v := ?_) (a' := ?_) #[true, true, true, true, true, true, true, true, true, true, true, false, false, false, false, false] rfl rfl (any_of HT_.out (by kernel_rfl)) (fun _ _ _ h => h) (Or.inl ⟨by rfl, ?_⟩) ?_ ?_
            rotate_left
            · intro w'
              go_simp
              with_reducible rfl
            rotate_left
            · simp only [Act.put, List.setIfInBounds_toArray, List.set_cons_zero, List.set_cons_succ, i64_w, i32_w]
              rfl
            refine take_ (i := 11) (N := some 90) (v := ?_) (a' := ?_) #[true, true, true, true, true, true, true, true, true, true, true, true, false, false, false, false] rfl rfl (take_ofW HT_.out HW_.out (by kernel_rfl)) (fun _ _ _ h => h) (Or.inl ⟨by rfl, ?_⟩) hHeld ?_ ?_
            rotate_left
            · rintro w' h1_
              obtain ⟨⟨_, _⟩, _, _⟩ := h1_.cells
              go_simp
              with_reducible rfl
            rotate_left
            · simp only [Act.put, List.setIfInBounds_toArray, List.set_cons_zero, List.set_cons_succ, i64_w, i32_w]
              rfl
            refine pure_ (i := 12) (N := some 91) (v := ?_) (a' := ?_) #[true, true, true, true, true, true, true, true, true, true, true, true, true, false, false, false] rfl rfl (any_of HT_.out (by kernel_rfl)) (fun _ _ _ h => h) (Or.inl ⟨by rfl, ?_⟩) ?_ ?_
            rotate_left
            · intro w'
              go_simp
              with_reducible rfl
            rotate_left
            · simp only [Act.put, List.setIfInBounds_toArray, List.set_cons_zero, List.set_cons_succ, i64_w, i32_w]
              rfl
            refine pure_ (i := 13) (N := some 92) (v := ?_) (a' := ?_) #[true, true, true, true, true, true, true, true, true, true, true, true, true, true, false, false] rfl rfl (any_of HT_.out (by kernel_rfl)) (fun _ _ _ h => h) (Or.inl ⟨by rfl, ?_⟩) ?_ ?_
            rotate_left
            · intro w'
              go_simp
              with_reducible rfl
            rotate_left
            · simp only [Act.put, List.setIfInBounds_toArray, List.set_cons_zero, List.set_cons_succ, i64_w, i32_w]
              rfl
            refine pure_ (i := 14) (N := some 93) (v := ?_) (a' := ?_) #[true, true, true, true, true, true, true, true, true, true, true, true, true, true, true, false] rfl rfl (any_of HT_.out (by kernel_rfl)) (fun _ _ _ h => h) (Or.inl ⟨by rfl, ?_⟩) ?_ ?_
            rotate_left
            · intro w'
              go_simp
              with_reducible rfl
            rotate_left
            · simp only [Act.put, List.setIfInBounds_toArray, List.set_cons_zero, List.set_cons_succ, i64_w, i32_w]
              rfl
            refine pure_ (i := 15) (N := some 94) (v := ?_) (a' := ?_) #[true, true, true, true, true, true, true, true, true, true, true, true, true, true, true, true] rfl rfl (any_of HT_.out (by kernel_rfl)) (fun _ _ _ h => h) (Or.inl ⟨by rfl, ?_⟩) ?_ ?_
            rotate_left
            · intro w'
              go_simp
              with_reducible rfl
            rotate_left
            · simp only [Act.put, List.setIfInBounds_toArray, List.set_cons_zero, List.set_cons_succ, i64_w, i32_w]
              rfl
            refine done_ (done_of HT_.out (by kernel_rfl)) ?_
            clear HT_ HW_ hHeld
            go_wp2
            go_roundg (ko - 1)
            case measure => have := unhide HK; omega
            case rel =>
              refine ⟨i + 1, X, true, none, 0, by go_num, by have := unhide HK; show i + 1 + (ko - 1) = n; omega, by rw [unhide XL]; exact hXm, ?_, ?_, unhide M0, unhide B0⟩
              · rw [unhide XL]; exact unhide W0
              · rw [unhide XL]; exact unhide O0
          have e3 : (k == 3) = false := beq_eq_false_iff_ne.2 hk3
          go_wp2
          obtain ⟨m9, hm9⟩ : ∃ m9 : Nat, xs.length = m9 := ⟨_, rfl⟩
          refine gen_world (fun w' => Wire w' w1.heap.size (.slice (A0) m9 (c0)) false ∧ Mb w' (w1.heap.size + 1) (xs) false ∧ Own w' w.heap.size (.slice (A0) m9 (c0)) (xs) ∧ Below w.heap.size w w') ⟨by rw [← hm9]; exact unhide HW1, unhide HM1, by rw [← hm9]; exact unhide HO1, unhide HB1⟩ (fun w9 h9 => ?_)
          obtain ⟨hW9, hM9, hO9, hB9⟩ := h9
          have hXl : (xs).length = m9 := Eq.trans (show (xs).length = xs.length from rfl) hm9
          have hXm : m9 ≤ 131072 := by rw [← hm9]; exact hxl
          clear HM1 HW1 HO1 HB1 HC1 HN1 hm9
          generalize (xs) = X at hM9 hO9 hXl
          have hsz : (strOfNums X).size = m9 := by rw [strOfNums_size]; exact hXl
          have hem : (strOfNums X).toList.isEmpty = (m9 == 0) := by rw [← hXl]; exact str_none X
          have M0 : Hid (Mb w9.drew (w1.heap.size + 1) X false) := hM9
          have W0 : Hid (Wire w9.drew w1.heap.size (.slice (A0) m9 (c0)) false) := hW9
          have O0 : Hid (Own w9.drew w.heap.size (.slice (A0) m9 (c0)) X) := hO9
          have B0 := hide (below_drew1 hB9)
          have XL := hide hXl
          clear hW9 hM9 hO9 hB9 hXl
          generalize hb0 : (m9 == 0) = b0 at hem
          have HEND := hide hb0
          clear hb0
          refine start_ (n := 16) (S := fun w' => Mb w' (w1.heap.size + 1) X false) (ds := []) #[false, false, false, false, false, false, false, false, false, false, false, false, false, false, false, false] (by kernel_rfl) rfl rfl (unhide M0) (fun hHeld => ?_)
          refine with_tabW tabT5_29 bitsT5_29 (fun HT_ HW_ => ?_)
          refine pure_ (i := 1) (N := some 80) (v := ?_) (a' := ?_) #[false, true, false, false, false, false, false, false, false, false, false, false, false, false, false, false] rfl rfl (any_of HT_.out (by kernel_rfl)) (fun _ _ _ h => h) (Or.inl ⟨by rfl, ?_⟩) ?_ ?_
          rotate_left
          · intro w'
            go_simp
            with_reducible rfl
          rotate_left
          · simp only [Act.put, List.setIfInBounds_toArray, List.set_cons_zero, List.set_cons_succ, i64_w, i32_w]
            rfl
          refine take_ (i := 2) (N := some 81) (v := ?_) (a' := ?_) #[false, true, true, false, false, false, false, false, false, false, false, false, false, false, false, false] rfl rfl (take_ofW HT_.out HW_.out (by kernel_rfl)) (fun _ _ _ h => h) (Or.inl ⟨by rfl, ?_⟩) hHeld ?_ ?_
          rotate_left
          · rintro w' h1_
            obtain ⟨⟨_, _⟩, _, _⟩ := h1_.cells
            go_simp
            with_reducible rfl
          rotate_left
          · simp only [Act.put, List.setIfInBounds_toArray, List.set_cons_zero, List.set_cons_succ, i64_w, i32_w]
            rfl
          refine pure_ (i := 3) (N := some 82) (v := ?_) (a' := ?_) #[false, true, true, true, false, false, false, false, false, false, false, false, false, false, false, false] rfl rfl (any_of HT_.out (by kernel_rfl)) (fun _ _ _ h => h) (Or.inl ⟨by rfl, ?_⟩) ?_ ?_
          rotate_left
          · intro w'
            go_simp
            with_reducible rfl
          rotate_left
          · simp only [Act.put, List.setIfInBounds_toArray, List.set_cons_zero, List.set_cons_succ, i64_w, i32_w]
            rfl
          refine one_ (i := 0) (N := some 79) #[true, true, true, true, false, false, false, false, false, false, false, false, false, false, false, false] rfl rfl (one_of HT_.out (by kernel_rfl)) (by decide) (fun K hK => ?_)
          refine goes_ Try.func17 (by kernel_rfl) rfl #[.pointer (some ⟨w1.heap.size, 0, none⟩)] (by rfl) rfl rfl (by (try simp only [List.map_toArray, List.map_cons, List.map_nil]); first | done | rfl) ?_
          refine (len_ok w1.heap.size (A0) m9 (c0) false _ (unhide W0)).mono ?_
          rintro e w' ⟨rfl, rfl⟩
          refine ⟨_, rfl, ?_⟩
          clear hHeld
          refine hK.out _ _ (unhide M0) (fun hHeld => ?_)
          clear hK K
          refine norm_ (a' := ?_) ?_ ?_
          rotate_left
          · show Act.put _ (some 79) _ = _
            simp only [Act.put, List.setIfInBounds_toArray, List.set_cons_zero, List.set_cons_succ, i64_w, i32_w]
            rfl
          refine pure_ (i := 4) (N := some 83) (v := ?_) (a' := ?_) #[true, true, true, true, true, false, false, false, false, false, false, false, false, false, false, false] rfl rfl (any_of HT_.out (by kernel_rfl)) (fun _ _ _ h => h) (Or.inl ⟨by rfl, ?_⟩) ?_ ?_
          rotate_left
          · intro w'
            go_simp
            with_reducible rfl
          rotate_left
          · simp only [Act.put, List.setIfInBounds_toArray, List.set_cons_zero, List.set_cons_succ, i64_w, i32_w]
            rfl
          refine pure_ (i := 5) (N := some 84) (v := ?_) (a' := ?_) #[true, true, true, true, true, true, false, false, false, false, false, false, false, false, false, false] rfl rfl (any_of HT_.out (by kernel_rfl)) (fun _ _ _ h => h) (Or.inl ⟨by rfl, ?_⟩) ?_ ?_
          rotate_left
          · intro w'
            go_simp
            with_reducible rfl
          rotate_left
          · simp only [Act.put, List.setIfInBounds_toArray, List.set_cons_zero, List.set_cons_succ, i64_w, i32_w]
            rfl
          refine pure_ (i := 7) (N := some 86) (v := ?_) (a' := ?_) #[true, true, true, true, true, true, false, true, false, false, false, false, false, false, false, false] rfl rfl (any_of HT_.out (by kernel_rfl)) (fun _ _ _ h => h) (Or.inl ⟨by rfl, ?_⟩) ?_ ?_
          rotate_left
          · intro w'
            go_simp
            with_reducible rfl
          rotate_left
          · simp only [Act.put, List.setIfInBounds_toArray, List.set_cons_zero, List.set_cons_succ, i64_w, i32_w]
            rfl
          refine take_ (i := 8) (N := some 87) (v := ?_) (a' := ?_) #[true, true, true, true, true, true, false, true, true, false, false, false, false, false, false, false] rfl rfl (take_ofW HT_.out HW_.out (by kernel_rfl)) (fun _ _ _ h => h) (Or.inl ⟨by rfl, ?_⟩) hHeld ?_ ?_
          rotate_left
          · rintro w' h1_
            obtain ⟨⟨_, _⟩, _, _⟩ := h1_.cells
            go_simp
            with_reducible rfl
          rotate_left
          · simp only [Act.put, List.setIfInBounds_toArray, List.set_cons_zero, List.set_cons_succ, i64_w, i32_w]
            rfl
          refine one_ (i := 6) (N := some 85) #[true, true, true, true, true, true, true, true, true, false, false, false, false, false, false, false] rfl rfl (one_of HT_.out (by kernel_rfl)) (by decide) (fun K hK => ?_)
          refine goes_ Try.func20 (by kernel_rfl) rfl #[.pointer (some ⟨w1.heap.size, 0, none⟩)] (by rfl) rfl rfl (by (try simp only [List.map_toArray, List.map_cons, List.map_nil]); first | done | rfl) ?_
          refine (ended_open w1.heap.size _ _ (unhide W0)).mono ?_
          rintro e w' ⟨rfl, rfl⟩
          refine ⟨_, rfl, ?_⟩
          clear hHeld
          refine hK.out _ _ (unhide M0) (fun hHeld => ?_)
          clear hK K
          refine norm_ (a' := ?_) ?_ ?_
          rotate_left
          · show Act.put _ (some 85) _ = _
            simp only [Act.put, List.setIfInBounds_toArray, List.set_cons_zero, List.set_cons_succ, i64_w, i32_w]
            rfl
          refine pure_ (i := 9) (N := some 88) (v := ?_) (a' := ?_) #[true, true, true, true, true, true, true, true, true, true, false, false, false, false, false, false] rfl rfl (any_of HT_.out (by kernel_rfl)) (fun _ _ _ h => h) (Or.inl ⟨by rfl, ?_⟩) ?_ ?_
          rotate_left
          · intro w'
            go_simp
            with_reducible rfl
          rotate_left
          · simp only [Act.put, List.setIfInBounds_toArray, List.set_cons_zero, List.set_cons_succ, i64_w, i32_w]
            rfl
          refine pure_ (i := 10) (N := some 89) (v := undef) (a' := ?_) #[true, true, true, true, true, true, true, true, true, true, true, false, false, false, false, false] rfl rfl (any_of HT_.out (by kernel_rfl)) (fun _ _ _ h => h) (Or.inr ⟨by rfl, rfl⟩) ?_ ?_
          rotate_left
          · simp only [Act.put, List.setIfInBounds_toArray, List.set_cons_zero, List.set_cons_succ, i64_w, i32_w]
            rfl
          refine pure_ (i := 11) (N := some 90) (v := undef) (a' := ?_) #[true, true, true, true, true, true, true, true, true, true, true, true, false, false, false, false] rfl rfl (any_of HT_.out (by kernel_rfl)) (fun _ _ _ h => h) (Or.inr ⟨by rfl, rfl⟩) ?_ ?_
          rotate_left
          · simp only [Act.put, List.setIfInBounds_toArray, List.set_cons_zero, List.set_cons_succ, i64_w, i32_w]
            rfl
          refine pure_ (i := 12) (N := some 91) (v := undef) (a' := ?_) #[true, true, true, true, true, true, true, true, true, true, true, true, true, false, false, false] rfl rfl (any_of HT_.out (by kernel_rfl)) (fun _ _ _ h => h) (Or.inr ⟨by rfl, rfl⟩) ?_ ?_
          rotate_left
          · simp only [Act.put, List.setIfInBounds_toArray, List.set_cons_zero, List.set_cons_succ, i64_w, i32_w]
            rfl
          refine pure_ (i := 13) (N := some 92) (v := ?_) (a' := ?_) #[true, true, true, true, true, true, true, true, true, true, true, true, true, true, false, false] rfl rfl (any_of HT_.out (by kernel_rfl)) (fun _ _ _ h => h) (Or.inl ⟨by rfl, ?_⟩) ?_ ?_
          rotate_left
          · intro w'
            go_simp
            with_reducible rfl
          rotate_left
          · simp only [Act.put, List.setIfInBounds_toArray, List.set_cons_zero, List.set_cons_succ, i64_w, i32_w]
            rfl
          refine pure_ (i := 14) (N := some 93) (v := ?_) (a' := ?_) #[true, true, true, true, true, true, true, true, true, true, true, true, true, true, true, false] rfl rfl (any_of HT_.out (by kernel_rfl)) (fun _ _ _ h => h) (Or.inl ⟨by rfl, ?_⟩) ?_ ?_
          rotate_left
          · intro w'
            go_simp
            with_reducible rfl
          rotate_left
          · simp only [Act.put, List.setIfInBounds_toArray, List.set_cons_zero, List.set_cons_succ, i64_w, i32_w]
            rfl
          refine pure_ (i := 15) (N := some 94) (v := ?_) (a' := ?_) #[true, true, true, true, true, true, true, true, true, true, true, true, true, true, true, true] rfl rfl (any_of HT_.out (by kernel_rfl)) (fun _ _ _ h => h) (Or.inl ⟨by rfl, ?_⟩) ?_ ?_
          rotate_left
          · intro w'
            go_simp
            with_reducible rfl
          rotate_left
          · simp only [Act.put, List.setIfInBounds_toArray, List.set_cons_zero, List.set_cons_succ, i64_w, i32_w]
            rfl
          refine done_ (done_of HT_.out (by kernel_rfl)) ?_
          clear HT_ HW_ hHeld
          go_wp2
          go_roundg (ko - 1)
          case measure => have := unhide HK; omega
          case rel =>
            refine ⟨i + 1, X, false, A0, c0, by go_num, by have := unhide HK; show i + 1 + (ko - 1) = n; omega, by rw [unhide XL]; exact hXm, ?_, ?_, unhide M0, unhide B0⟩
            · rw [unhide XL]; exact unhide W0
            · rw [unhide XL]; exact unhide O0
        · skip
          by_cases hk0 : k = 0
          · subst hk0
            obtain ⟨⟨m0, m1⟩, ⟨m2, m3⟩, m4⟩ := (unhide HM1).cells
            have hcv := Kd.C_string (P := Try.prog) (c := ci) Try.underlying23 Try.underlying5 Try.underlying9 (unhide HC1)
            have sx := strOfNums_size xs
            have sp := strOfNums_size p
            have HR := hide (fun W : World => rput_shut (strOfNums xs) (strOfNums p) W)
            clear sx sp
            go_wp2_with fail
            refine ((unhide HR) _).mono ?_
            rintro e w3 ⟨rfl, hb⟩
            have N3 := hide (blk_below (unhide HN1) hb)
            have M3 := hide (blk_below (unhide HM1) hb)
            have W3 := hide ((unhide HW1).below hb)
            have O3 := hide (Kd.R_below (unhide HO1) hb)
            have B3 := hide (below_step (unhide HB1) hb)
            have C3 := hide (Kd.C_below (unhide HC1) hb)
            clear hb m0 m1 m2 m3 m4 hcv HR
            obtain ⟨⟨n0, n1, n2⟩, ⟨n3, n4, n5⟩, n6⟩ := box3 (unhide N3)
            go_wp2_with fail
            refine (put_shut w1.heap.size _ _ _ _ _ (blk_alloc (unhide W3) _)).mono ?_
            rintro e w' ⟨rfl, rfl⟩
            have M4 : Hid (Mb (w3.alloc (.cells #[.string (strOfNums xs), .bool true] 36)) (w1.heap.size + 1) xs true) := blk_alloc (unhide M3) _
            obtain ⟨⟨m0, m1⟩, ⟨m2, m3⟩, m4⟩ := (unhide M4).cells
            go_wp2
            obtain ⟨m9, hm9⟩ : ∃ m9 : Nat, xs.length = m9 := ⟨_, rfl⟩
            refine gen_world (fun w' => Wire w' w1.heap.size (.slice (A0) m9 (c0)) true ∧ Mb w' (w1.heap.size + 1) (xs) true ∧ Own w' w.heap.size (.slice (A0) m9 (c0)) (xs) ∧ Below w.heap.size w w') ⟨by rw [← hm9]; exact Wire.far (Wire.far (blk_alloc (unhide W3) _) (by simp)) (by simp), blk_put (blk_put (unhide M4) 0 _ rfl) 1 _ rfl, by rw [← hm9]; exact Kd.R_set (Kd.R_set (Kd.R_alloc (unhide O3) _) (unhide M4) hq 0 _) (blk_put (unhide M4) 0 _ rfl) hq 1 _, below_set (below_set (below_alloc (unhide B3) _) (by omega)) (by omega)⟩ (fun w9 h9 => ?_)
            obtain ⟨hW9, hM9, hO9, hB9⟩ := h9
            have hXl : (xs).length = m9 := Eq.trans (show (xs).length = xs.length from rfl) hm9
            have hXm : m9 ≤ 131072 := by rw [← hm9]; exact hxl
            clear HM1 HW1 HO1 HB1 HC1 HN1 hm9
            generalize (xs) = X at hM9 hO9 hXl
            have hsz : (strOfNums X).size = m9 := by rw [strOfNums_size]; exact hXl
            have hem : (strOfNums X).toList.isEmpty = (m9 == 0) := by rw [← hXl]; exact str_none X
            have M0 : Hid (Mb w9.drew (w1.heap.size + 1) X true) := hM9
            have W0 : Hid (Wire w9.drew w1.heap.size (.slice (A0) m9 (c0)) true) := hW9
            have O0 : Hid (Own w9.drew w.heap.size (.slice (A0) m9 (c0)) X) := hO9
            have B0 := hide (below_drew1 hB9)
            have XL := hide hXl
            clear hW9 hM9 hO9 hB9 hXl
            generalize hb0 : (m9 == 0) = b0 at hem
            have HEND := hide hb0
            clear hb0
            refine start_ (n := 16) (S := fun w' => Mb w' (w1.heap.size + 1) X true) (ds := []) #[false, false, false, false, false, false, false, false, false, false, false, false, false, false, false, false] (by kernel_rfl) rfl rfl (unhide M0) (fun hHeld => ?_)
            refine with_tabW tabT5_29 bitsT5_29 (fun HT_ HW_ => ?_)
            refine pure_ (i := 1) (N := some 80) (v := ?_) (a' := ?_) #[false, true, false, false, false, false, false, false, false, false, false, false, false, false, false, false] rfl rfl (any_of HT_.out (by kernel_rfl)) (fun _ _ _ h => h) (Or.inl ⟨by rfl, ?_⟩) ?_ ?_
            rotate_left
            · intro w'
              go_simp
              with_reducible rfl
            rotate_left
            · simp only [Act.put, List.setIfInBounds_toArray, List.set_cons_zero, List.set_cons_succ, i64_w, i32_w]
              rfl
            refine take_ (i := 2) (N := some 81) (v := ?_) (a' := ?_) #[false, true, true, false, false, false, false, false, false, false, false, false, false, false, false, false] rfl rfl (take_ofW HT_.out HW_.out (by kernel_rfl)) (fun _ _ _ h => h) (Or.inl ⟨by rfl, ?_⟩) hHeld ?_ ?_
            rotate_left
            · rintro w' h1_
              obtain ⟨⟨_, _⟩, _, _⟩ := h1_.cells
              go_simp
              with_reducible rfl
            rotate_left
            · simp only [Act.put, List.setIfInBounds_toArray, List.set_cons_zero, List.set_cons_succ, i64_w, i32_w]
              rfl
            refine pure_ (i := 3) (N := some 82) (v := ?_) (a' := ?_) #[false, true, true, true, false, false, false, false, false, false, false, false, false, false, false, false] rfl rfl (any_of HT_.out (by kernel_rfl)) (fun _ _ _ h => h) (Or.inl ⟨by rfl, ?_⟩) ?_ ?_
            rotate_left
            · intro w'
              go_simp
              with_reducible rfl
            rotate_left
            · simp only [Act.put, List.setIfInBounds_toArray, List.set_cons_zero, List.set_cons_succ, i64_w, i32_w]
              rfl
            refine one_ (i := 0) (N := some 79) #[true, true, true, true, false, false, false, false, false, false, false, false, false, false, false, false] rfl rfl (one_of HT_.out (by kernel_rfl)) (by decide) (fun K hK => ?_)
            refine goes_ Try.func17 (by kernel_rfl) rfl #[.pointer (some ⟨w1.heap.size, 0, none⟩)] (by rfl) rfl rfl (by (try simp only [List.map_toArray, List.map_cons, List.map_nil]); first | done | rfl) ?_
            refine (len_ok w1.heap.size (A0) m9 (c0) true _ (unhide W0)).mono ?_
            rintro e w' ⟨rfl, rfl⟩
            refine ⟨_, rfl, ?_⟩
            clear hHeld
            refine hK.out _ _ (unhide M0) (fun hHeld => ?_)
            clear hK K
            refine norm_ (a' := ?_) ?_ ?_
            rotate_left
            · show Act.put _ (some 79) _ = _
              simp only [Act.put, List.setIfInBounds_toArray, List.set_cons_zero, List.set_cons_succ, i64_w, i32_w]
              rfl
            refine pure_ (i := 4) (N := some 83) (v := ?_) (a' := ?_) #[true, true, true, true, true, false, false, false, false, false, false, false, false, false, false, false] rfl rfl (any_of HT_.out (by kernel_rfl)) (fun _ _ _ h => h) (Or.inl ⟨by rfl, ?_⟩) ?_ ?_
            rotate_left
            · intro w'
              go_simp
              with_reducible rfl
            rotate_left
            · simp only [Act.put, List.setIfInBounds_toArray, List.set_cons_zero, List.set_cons_succ, i64_w, i32_w]
              rfl
            refine pure_ (i := 5) (N := some 84) (v := ?_) (a' := ?_) #[true, true, true, true, true, true, false, false, false, false, false, false, false, false, false, false] rfl rfl (any_of HT_.out (by kernel_rfl)) (fun _ _ _ h => h) (Or.inl ⟨by rfl, ?_⟩) ?_ ?_
            rotate_left
            · intro w'
              go_simp
              with_reducible rfl
            rotate_left
            · simp only [Act.put, List.setIfInBounds_toArray, List.set_cons_zero, List.set_cons_succ, i64_w, i32_w]
              rfl
            refine pure_ (i := 7) (N := some 86) (v := ?_) (a' := ?_) #[true, true, true, true, true, true, false, true, false, false, false, false, false, false, false, false] rfl rfl (any_of HT_.out (by kernel_rfl)) (fun _ _ _ h => h) (Or.inl ⟨by rfl, ?_⟩) ?_ ?_
            rotate_left
            · intro w'
              go_simp
              with_reducible rfl
            rotate_left
            · simp only [Act.put, List.setIfInBounds_toArray, List.set_cons_zero, List.set_cons_succ, i64_w, i32_w]
              rfl
            refine take_ (i := 8) (N := some 87) (v := ?_) (a' := ?_) #[true, true, true, true, true, true, false, true, true, false, false, false, false, false, false, false] rfl rfl (take_ofW HT_.out HW_.out (by kernel_rfl)) (fun _ _ _ h => h) (Or.inl ⟨by rfl, ?_⟩) hHeld ?_ ?_
            rotate_left
            · rintro w' h1_
              obtain ⟨⟨_, _⟩, _, _⟩ := h1_.cells
              go_simp
              with_reducible rfl
            rotate_left
            · simp only [Act.put, List.setIfInBounds_toArray, List.set_cons_zero, List.set_cons_succ, i64_w, i32_w]
              rfl
            refine one_ (i := 6) (N := some 85) #[true, true, true, true, true, true, true, true, true, false, false, false, false, false, false, false] rfl rfl (one_of HT_.out (by kernel_rfl)) (by decide) (fun K hK => ?_)
            refine goes_ Try.func20 (by kernel_rfl) rfl #[.pointer (some ⟨w1.heap.size, 0, none⟩)] (by rfl) rfl rfl (by (try simp only [List.map_toArray, List.map_cons, List.map_nil]); first | done | rfl) ?_
            refine (ended_shutx w1.heap.size (A0) m9 (c0) b0 _ (unhide W0) (unhide HEND)).mono ?_
            rintro e w' ⟨rfl, rfl⟩
            refine ⟨_, rfl, ?_⟩
            clear hHeld
            refine hK.out _ _ (unhide M0) (fun hHeld => ?_)
            clear hK K
            refine norm_ (a' := ?_) ?_ ?_
            rotate_left
            · show Act.put _ (some 85) _ = _
              simp only [Act.put, List.setIfInBounds_toArray, List.set_cons_zero, List.set_cons_succ, i64_w, i32_w]
              rfl
            refine pure_ (i := 9) (N := some 88) (v := ?_) (a' := ?_) #[true, true, true, true, true, true, true, true, true, true, false, false, false, false, false, false] rfl rfl (any_of HT_.out (by kernel_rfl)) (fun _ _ _ h => h) (Or.inl ⟨by rfl, ?_⟩) ?_ ?_
            rotate_left
            · intro w'
              go_simp
              with_reducible rfl
            rotate_left
            · simp only [Act.put, List.setIfInBounds_toArray, List.set_cons_zero, List.set_cons_succ, i64_w, i32_w]
              rfl
            refine pure_ (i := 10) (N := some 89) (v := ?_) (a' := ?_) #[true, true, true, true, true, true, true, true, true, true, true, false, false, false, false, false] rfl rfl (any_of HT_.out (by kernel_rfl)) (fun _ _ _ h => h) (Or.inl ⟨by rfl, ?_⟩) ?_ ?_
            rotate_left
            · intro w'
              go_simp
              with_reducible rfl
            rotate_left
            · simp only [Act.put, List.setIfInBounds_toArray, List.set_cons_zero, List.set_cons_succ, i64_w, i32_w]
              rfl
            refine take_ (i := 11) (N := some 90) (v := ?_) (a' := ?_) #[true, true, true, true, true, true, true, true, true, true, true, true, false, false, false, false] rfl rfl (take_ofW HT_.out HW_.out (by kernel_rfl)) (fun _ _ _ h => h) (Or.inl ⟨by rfl, ?_⟩) hHeld ?_ ?_
            rotate_left
            · rintro w' h1_
              obtain ⟨⟨_, _⟩, _, _⟩ := h1_.cells
              go_simp
              with_reducible rfl
            rotate_left
            · simp only [Act.put, List.setIfInBounds_toArray, List.set_cons_zero, List.set_cons_succ, i64_w, i32_w]
              rfl
            refine pure_ (i := 12) (N := some 91) (v := ?_) (a' := ?_) #[true, true, true, true, true, true, true, true, true, true, true, true, true, false, false, false] rfl rfl (any_of HT_.out (by kernel_rfl)) (fun _ _ _ h => h) (Or.inl ⟨by rfl, ?_⟩) ?_ ?_
            rotate_left
            · intro w'
              go_simp
              with_reducible rfl
            rotate_left
            · simp only [Act.put, List.setIfInBounds_toArray, List.set_cons_zero, List.set_cons_succ, i64_w, i32_w]
              rfl
            refine pure_ (i := 13) (N := some 92) (v := ?_) (a' := ?_) #[true, true, true, true, true, true, true, true, true, true, true, true, true, true, false, false] rfl rfl (any_of HT_.out (by kernel_rfl)) (fun _ _ _ h => h) (Or.inl ⟨by rfl, ?_⟩) ?_ ?_
            rotate_left
            · intro w'
              go_simp
              with_reducible rfl
            rotate_left
            · simp only [Act.put, List.setIfInBounds_toArray, List.set_cons_zero, List.set_cons_succ, i64_w, i32_w]
              rfl
            refine pure_ (i := 14) (N := some 93) (v := ?_) (a' := ?_) #[true, true, true, true, true, true, true, true, true, true, true, true, true, true, true, false] rfl rfl (any_of HT_.out (by kernel_rfl)) (fun _ _ _ h => h) (Or.inl ⟨by rfl, ?_⟩) ?_ ?_
            rotate_left
            · intro w'
              go_simp
              with_reducible rfl
            rotate_left
            · simp only [Act.put, List.setIfInBounds_toArray, List.set_cons_zero, List.set_cons_succ, i64_w, i32_w]
              rfl
            refine pure_ (i := 15) (N := some 94) (v := ?_) (a' := ?_) #[true, true, true, true, true, true, true, true, true, true, true, true, true, true, true, true] rfl rfl (any_of HT_.out (by kernel_rfl)) (fun _ _ _ h => h) (Or.inl ⟨by rfl, ?_⟩) ?_ ?_
            rotate_left
            · intro w'
              go_simp
              with_reducible rfl
            rotate_left
            · simp only [Act.put, List.setIfInBounds_toArray, List.set_cons_zero, List.set_cons_succ, i64_w, i32_w]
              rfl
            refine done_ (done_of HT_.out (by kernel_rfl)) ?_
            clear HT_ HW_ hHeld
            go_wp2
            go_roundg (ko - 1)
            case measure => have := unhide HK; omega
            case rel =>
              refine ⟨i + 1, X, true, A0, c0, by go_num, by have := unhide HK; show i + 1 + (ko - 1) = n; omega, by rw [unhide XL]; exact hXm, ?_, ?_, unhide M0, unhide B0⟩
              · rw [unhide XL]; exact unhide W0
              · rw [unhide XL]; exact unhide O0
          have e0 : (k == 0) = false := beq_eq_false_iff_ne.2 hk0
          by_cases hk1 : k = 1
          · subst hk1
            obtain ⟨⟨m0, m1⟩, ⟨m2, m3⟩, m4⟩ := (unhide HM1).cells
            obtain ⟨_, _, _, hcl⟩ := came_as most xs.length
            have HR := hide (fun W : World => rtake_any xs true most W hxl)
            obtain ⟨m, hm⟩ : ∃ m, came most xs.length = m := ⟨_, rfl⟩
            rw [hm] at HR hcl
            have HMM := hide hm
            clear hm
            go_wp2_with fail
            refine ((unhide HR) _).mono ?_
            rintro e w3 ⟨rfl, hb⟩
            have N3 := hide (blk_below (unhide HN1) hb)
            have M3 := hide (blk_below (unhide HM1) hb)
            have W3 := hide ((unhide HW1).below hb)
            have O3 := hide (Kd.R_below (unhide HO1) hb)
            have B3 := hide (below_step (unhide HB1) hb)
            clear hb m0 m1 m2 m3 m4 HR
            obtain ⟨⟨n0, n1, n2⟩, ⟨n3, n4, n5⟩, n6⟩ := box3 (unhide N3)
            go_wp2_with fail
            refine (take_okn w1.heap.size w.heap.size (.slice A0 xs.length c0) true xs most m _ (blk_alloc (unhide W3) (.cells #[.string (strOfNums (xs.drop m)), .bool true] 36)) (Kd.R_alloc (unhide O3) (.cells #[.string (strOfNums (xs.drop m)), .bool true] 36)) (below_alloc (unhide B3) (.cells #[.string (strOfNums (xs.drop m)), .bool true] 36)).size z1 hxl (unhide HMM)).mono ?_
            rintro e w4 ⟨A4, c4, A5, c5, rfl, hO4, hW4, hO5, hB4, hK4, hsep⟩
            have M4 : Hid (Mb w4 (w1.heap.size + 1) xs true) := hide (hK4.blk (blk_alloc (unhide M3) (.cells #[.string (strOfNums (xs.drop m)), .bool true] 36)) (by omega) (by simp))
            have X4 : Hid (Mb w4 w3.heap.size (xs.drop m) true) := hide (hK4.blk (blk_new w3 (.cells #[.string (strOfNums (xs.drop m)), .bool true] 36)) (by omega) (by simp))
            have W4 := hide hW4
            have O4 := hide (Kd.R_lower hO5 (below_alloc (unhide B3) (.cells #[.string (strOfNums (xs.drop m)), .bool true] 36)).size)
            have B4 := hide ((below_alloc (unhide B3) (.cells #[.string (strOfNums (xs.drop m)), .bool true] 36)).trans hB4)
            have hcv2 := Kd.C_string (P := Try.prog) (c := c4) Try.underlying23 Try.underlying5 Try.underlying9 (own_reads hO4).2.2
            have hl4 : (xs.take m).length = m := (own_len hO4).symm
            rw [hl4] at hcv2
            clear hW4 hO4 hO5 hB4 hK4 hsep hl4
            obtain ⟨⟨m0, m1⟩, ⟨m2, m3⟩, m4⟩ := Mb.cells (unhide M4)
            obtain ⟨⟨x0, x1⟩, ⟨x2, x3⟩, x4⟩ := Mb.cells (unhide X4)
            go_wp2
            clear hcv2
            obtain ⟨m9, hm9⟩ : ∃ m9 : Nat, xs.length - m = m9 := ⟨_, rfl⟩
            refine gen_world (fun w' => Wire w' w1.heap.size (.slice (A5) m9 (c5)) true ∧ Mb w' (w1.heap.size + 1) (xs.drop m) true ∧ Own w' w.heap.size (.slice (A5) m9 (c5)) (xs.drop m) ∧ Below w.heap.size w w') ⟨by rw [← hm9]; exact Wire.far (Wire.far (unhide W4) (by simp)) (by simp), blk_put (blk_put (unhide M4) 0 _ rfl) 1 _ rfl, by rw [← hm9]; exact Kd.R_set (Kd.R_set (unhide O4) (unhide M4) hq 0 _) (blk_put (unhide M4) 0 _ rfl) hq 1 _, below_set (below_set (unhide B4) (by omega)) (by omega)⟩ (fun w9 h9 => ?_)
            obtain ⟨hW9, hM9, hO9, hB9⟩ := h9
            have hXl : (xs.drop m).length = m9 := Eq.trans (show (xs.drop m).length = xs.length - m from List.length_drop) hm9
            have hXm : m9 ≤ 131072 := by rw [← hm9]; exact (by omega)
            clear HM1 HW1 HO1 HB1 HC1 HN1 hm9
            generalize (xs.drop m) = X at hM9 hO9 hXl
            have hsz : (strOfNums X).size = m9 := by rw [strOfNums_size]; exact hXl
            have hem : (strOfNums X).toList.isEmpty = (m9 == 0) := by rw [← hXl]; exact str_none X
            have M0 : Hid (Mb w9.drew (w1.heap.size + 1) X true) := hM9
            have W0 : Hid (Wire w9.drew w1.heap.size (.slice (A5) m9 (c5)) true) := hW9
            have O0 : Hid (Own w9.drew w.heap.size (.slice (A5) m9 (c5)) X) := hO9
            have B0 := hide (below_drew1 hB9)
            have XL := hide hXl
            clear hW9 hM9 hO9 hB9 hXl
            generalize hb0 : (m9 == 0) = b0 at hem
            have HEND := hide hb0
            clear hb0
            refine start_ (n := 16) (S := fun w' => Mb w' (w1.heap.size + 1) X true) (ds := []) #[false, false, false, false, false, false, false, false, false, false, false, false, false, false, false, false] (by kernel_rfl) rfl rfl (unhide M0) (fun hHeld => ?_)
            refine with_tabW tabT5_29 bitsT5_29 (fun HT_ HW_ => ?_)
            refine pure_ (i := 1) (N := some 80) (v := ?_) (a' := ?_) #[false, true, false, false, false, false, false, false, false, false, false, false, false, false, false, false] rfl rfl (any_of HT_.out (by kernel_rfl)) (fun _ _ _ h => h) (Or.inl ⟨by rfl, ?_⟩) ?_ ?_
            rotate_left
            · intro w'
              go_simp
              with_reducible rfl
            rotate_left
            · simp only [Act.put, List.setIfInBounds_toArray, List.set_cons_zero, List.set_cons_succ, i64_w, i32_w]
              rfl
            refine take_ (i := 2) (N := some 81) (v := ?_) (a' := ?_) #[false, true, true, false, false, false, false, false, false, false, false, false, false, false, false, false] rfl rfl (take_ofW HT_.out HW_.out (by kernel_rfl)) (fun _ _ _ h => h) (Or.inl ⟨by rfl, ?_⟩) hHeld ?_ ?_
            rotate_left
            · rintro w' h1_
              obtain ⟨⟨_, _⟩, _, _⟩ := h1_.cells
              go_simp
              with_reducible rfl
            rotate_left
            · simp only [Act.put, List.setIfInBounds_toArray, List.set_cons_zero, List.set_cons_succ, i64_w, i32_w]
              rfl
            refine pure_ (i := 3) (N := some 82) (v := ?_) (a' := ?_) #[false, true, true, true, false, false, false, false, false, false, false, false, false, false, false, false] rfl rfl (any_of HT_.out (by kernel_rfl)) (fun _ _ _ h => h) (Or.inl ⟨by rfl, ?_⟩) ?_ ?_
            rotate_left
            · intro w'
              go_simp
              with_reducible rfl
            rotate_left
            · simp only [Act.put, List.setIfInBounds_toArray, List.set_cons_zero, List.set_cons_succ, i64_w, i32_w]
              rfl
            refine one_ (i := 0) (N := some 79) #[true, true, true, true, false, false, false, false, false, false, false, false, false, false, false, false] rfl rfl (one_of HT_.out (by kernel_rfl)) (by decide) (fun K hK => ?_)
            refine goes_ Try.func17 (by kernel_rfl) rfl #[.pointer (some ⟨w1.heap.size, 0, none⟩)] (by rfl) rfl rfl (by (try simp only [List.map_toArray, List.map_cons, List.map_nil]); first | done | rfl) ?_
            refine (len_ok w1.heap.size (A5) m9 (c5) true _ (unhide W0)).mono ?_
            rintro e w' ⟨rfl, rfl⟩
            refine ⟨_, rfl, ?_⟩
            clear hHeld
            refine hK.out _ _ (unhide M0) (fun hHeld => ?_)
            clear hK K
            refine norm_ (a' := ?_) ?_ ?_
            rotate_left
            · show Act.put _ (some 79) _ = _
              simp only [Act.put, List.setIfInBounds_toArray, List.set_cons_zero, List.set_cons_succ, i64_w, i32_w]
              rfl
            refine pure_ (i := 4) (N := some 83) (v := ?_) (a' := ?_) #[true, true, true, true, true, false, false, false, false, false, false, false, false, false, false, false] rfl rfl (any_of HT_.out (by kernel_rfl)) (fun _ _ _ h => h) (Or.inl ⟨by rfl, ?_⟩) ?_ ?_
            rotate_left
            · intro w'
              go_simp
              with_reducible rfl
            rotate_left
            · simp only [Act.put, List.setIfInBounds_toArray, List.set_cons_zero, List.set_cons_succ, i64_w, i32_w]
              rfl
            refine pure_ (i := 5) (N := some 84) (v := ?_) (a' := ?_) #[true, true, true, true, true, true, false, false, false, false, false, false, false, false, false, false] rfl rfl (any_of HT_.out (by kernel_rfl)) (fun _ _ _ h => h) (Or.inl ⟨by rfl, ?_⟩) ?_ ?_
            rotate_left
            · intro w'
              go_simp
              with_reducible rfl
            rotate_left
            · simp only [Act.put, List.setIfInBounds_toArray, List.set_cons_zero, List.set_cons_succ, i64_w, i32_w]
              rfl
            refine pure_ (i := 7) (N := some 86) (v := ?_) (a' := ?_) #[true, true, true, true, true, true, false, true, false, false, false, false, false, false, false, false] rfl rfl (any_of HT_.out (by kernel_rfl)) (fun _ _ _ h => h) (Or.inl ⟨by rfl, ?_⟩) ?_ ?_
            rotate_left
            · intro w'
              go_simp
              with_reducible rfl
            rotate_left
            · simp only [Act.put, List.setIfInBounds_toArray, List.set_cons_zero, List.set_cons_succ, i64_w, i32_w]
              rfl
            refine take_ (i := 8) (N := some 87) (v := ?_) (a' := ?_) #[true, true, true, true, true, true, false, true, true, false, false, false, false, false, false, false] rfl rfl (take_ofW HT_.out HW_.out (by kernel_rfl)) (fun _ _ _ h => h) (Or.inl ⟨by rfl, ?_⟩) hHeld ?_ ?_
            rotate_left
            · rintro w' h1_
              obtain ⟨⟨_, _⟩, _, _⟩ := h1_.cells
              go_simp
              with_reducible rfl
            rotate_left
            · simp only [Act.put, List.setIfInBounds_toArray, List.set_cons_zero, List.set_cons_succ, i64_w, i32_w]
              rfl
            refine one_ (i := 6) (N := some 85) #[true, true, true, true, true, true, true, true, true, false, false, false, false, false, false, false] rfl rfl (one_of HT_.out (by kernel_rfl)) (by decide) (fun K hK => ?_)
            refine goes_ Try.func20 (by kernel_rfl) rfl #[.pointer (some ⟨w1.heap.size, 0, none⟩)] (by rfl) rfl rfl (by (try simp only [List.map_toArray, List.map_cons, List.map_nil]); first | done | rfl) ?_
            refine (ended_shutx w1.heap.size (A5) m9 (c5) b0 _ (unhide W0) (unhide HEND)).mono ?_
            rintro e w' ⟨rfl, rfl⟩
            refine ⟨_, rfl, ?_⟩
            clear hHeld
            refine hK.out _ _ (unhide M0) (fun hHeld => ?_)
            clear hK K
            refine norm_ (a' := ?_) ?_ ?_
            rotate_left
            · show Act.put _ (some 85) _ = _
              simp only [Act.put, List.setIfInBounds_toArray, List.set_cons_zero, List.set_cons_succ, i64_w, i32_w]
              rfl
            refine pure_ (i := 9) (N := some 88) (v := ?_) (a' := ?_) #[true, true, true, true, true, true, true, true, true, true, false, false, false, false, false, false] rfl rfl (any_of HT_.out (by kernel_rfl)) (fun _ _ _ h => h) (Or.inl ⟨by rfl, ?_⟩) ?_ ?_
            rotate_left
            · intro w'
              go_simp
              with_reducible rfl
            rotate_left
            · simp only [Act.put, List.setIfInBounds_toArray, List.set_cons_zero, List.set_cons_succ, i64_w, i32_w]
              rfl
            refine pure_ (i := 10) (N := some 89) (v := ?_) (a' := ?_) #[true, true, true, true, true, true, true, true, true, true, true, false, false, false, false, false] rfl rfl (any_of HT_.out (by kernel_rfl)) (fun _ _ _ h => h) (Or.inl ⟨by rfl, ?_⟩) ?_ ?_
            rotate_left
            · intro w'
              go_simp
              with_reducible rfl
            rotate_left
            · simp only [Act.put, List.setIfInBounds_toArray, List.set_cons_zero, List.set_cons_succ, i64_w, i32_w]
              rfl
            refine take_ (i := 11) (N := some 90) (v := ?_) (a' := ?_) #[true, true, true, true, true, true, true, true, true, true, true, true, false, false, false, false] rfl rfl (take_ofW HT_.out HW_.out (by kernel_rfl)) (fun _ _ _ h => h) (Or.inl ⟨by rfl, ?_⟩) hHeld ?_ ?_
            rotate_left
            · rintro w' h1_
              obtain ⟨⟨_, _⟩, _, _⟩ := h1_.cells
              go_simp
              with_reducible rfl
            rotate_left
            · simp only [Act.put, List.setIfInBounds_toArray, List.set_cons_zero, List.set_cons_succ, i64_w, i32_w]
              rfl
            refine pure_ (i := 12) (N := some 91) (v := ?_) (a' := ?_) #[true, true, true, true, true, true, true, true, true, true, true, true, true, false, false, false] rfl rfl (any_of HT_.out (by kernel_rfl)) (fun _ _ _ h => h) (Or.inl ⟨by rfl, ?_⟩) ?_ ?_
            rotate_left
            · intro w'
              go_simp
              with_reducible rfl
            rotate_left
            · simp only [Act.put, List.setIfInBounds_toArray, List.set_cons_zero, List.set_cons_succ, i64_w, i32_w]
              rfl
            refine pure_ (i := 13) (N := some 92) (v := ?_) (a' := ?_) #[true, true, true, true, true, true, true, true, true, true, true, true, true, true, false, false] rfl rfl (any_of HT_.out (by kernel_rfl)) (fun _ _ _ h => h) (Or.inl ⟨by rfl, ?_⟩) ?_ ?_
            rotate_left
            · intro w'
              go_simp
              with_reducible rfl
            rotate_left
            · simp only [Act.put, List.setIfInBounds_toArray, List.set_cons_zero, List.set_cons_succ, i64_w, i32_w]
              rfl
            refine pure_ (i := 14) (N := some 93) (v := ?_) (a' := ?_) #[true, true, true, true, true, true, true, true, true, true, true, true, true, true, true, false] rfl rfl (any_of HT_.out (by kernel_rfl)) (fun _ _ _ h => h) (Or.inl ⟨by rfl, ?_⟩) ?_ ?_
            rotate_left
            · intro w'
              go_simp
              with_reducible rfl
            rotate_left
            · simp only [Act.put, List.setIfInBounds_toArray, List.set_cons_zero, List.set_cons_succ, i64_w, i32_w]
              rfl
            refine pure_ (i := 15) (N := some 94) (v := ?_) (a' := ?_) #[true, true, true, true, true, true, true, true, true, true, true, true, true, true, true, true] rfl rfl (any_of HT_.out (by kernel_rfl)) (fun _ _ _ h => h) (Or.inl ⟨by rfl, ?_⟩) ?_ ?_
            rotate_left
            · intro w'
              go_simp
              with_reducible rfl
            rotate_left
            · simp only [Act.put, List.setIfInBounds_toArray, List.set_cons_zero, List.set_cons_succ, i64_w, i32_w]
              rfl
            refine done_ (done_of HT_.out (by kernel_rfl)) ?_
            clear HT_ HW_ hHeld
            go_wp2
            go_roundg (ko - 1)
            case measure => have := unhide HK; omega
            case rel =>
              refine ⟨i + 1, X, true, A5, c5, by go_num, by have := unhide HK; show i + 1 + (ko - 1) = n; omega, by rw [unhide XL]; exact hXm, ?_, ?_, unhide M0, unhide B0⟩
              · rw [unhide XL]; exact unhide W0
              · rw [unhide XL]; exact unhide O0
          have e1 : (k == 1) = false := beq_eq_false_iff_ne.2 hk1
          by_cases hk2 : k = 2
          · subst hk2
            obtain ⟨⟨m0, m1⟩, ⟨m2, m3⟩, m4⟩ := (unhide HM1).cells
            go_wp2_with fail
            refine (shut_ok w1.heap.size _ true _ (unhide HW1)).mono ?_
            rintro e w' ⟨rfl, rfl⟩
            go_wp2
            obtain ⟨m9, hm9⟩ : ∃ m9 : Nat, xs.length = m9 := ⟨_, rfl⟩
            refine gen_world (fun w' => Wire w' w1.heap.size (.slice (A0) m9 (c0)) true ∧ Mb w' (w1.heap.size + 1) (xs) true ∧ Own w' w.heap.size (.slice (A0) m9 (c0)) (xs) ∧ Below w.heap.size w w') ⟨by rw [← hm9]; exact Wire.far (blk_put (unhide HW1) 1 _ rfl) (by simp), blk_put (Mb.far (unhide HM1) (by simp)) 1 _ rfl, by rw [← hm9]; exact Kd.R_set ((unhide HW1).own (unhide HO1) 1 _) (Mb.far (unhide HM1) (by simp)) hq 1 _, below_set (below_set (unhide HB1) z1) (by omega)⟩ (fun w9 h9 => ?_)
            obtain ⟨hW9, hM9, hO9, hB9⟩ := h9
            have hXl : (xs).length = m9 := Eq.trans (show (xs).length = xs.length from rfl) hm9
            have hXm : m9 ≤ 131072 := by rw [← hm9]; exact hxl
            clear HM1 HW1 HO1 HB1 HC1 HN1 hm9
            generalize (xs) = X at hM9 hO9 hXl
            have hsz : (strOfNums X).size = m9 := by rw [strOfNums_size]; exact hXl
            have hem : (strOfNums X).toList.isEmpty = (m9 == 0) := by rw [← hXl]; exact str_none X
            have M0 : Hid (Mb w9.drew (w1.heap.size + 1) X true) := hM9
            have W0 : Hid (Wire w9.drew w1.heap.size (.slice (A0) m9 (c0)) true) := hW9
            have O0 : Hid (Own w9.drew w.heap.size (.slice (A0) m9 (c0)) X) := hO9
            have B0 := hide (below_drew1 hB9)
            have XL := hide hXl
            clear hW9 hM9 hO9 hB9 hXl
            generalize hb0 : (m9 == 0) = b0 at hem
            have HEND := hide hb0
            clear hb0
            refine start_ (n := 16) (S := fun w' => Mb w' (w1.heap.size + 1) X true) (ds := []) #[false, false, false, false, false, false, false, false, false, false, false, false, false, false, false, false] (by kernel_rfl) rfl rfl (unhide M0) (fun hHeld => ?_)
            refine with_tabW tabT5_29 bitsT5_29 (fun HT_ HW_ => ?_)
            refine pure_ (i := 1) (N := some 80) (v := ?_) (a' := ?_) #[false, true, false, false, false, false, false, false, false, false, false, false, false, false, false, false] rfl rfl (any_of HT_.out (by kernel_rfl)) (fun _ _ _ h => h) (Or.inl ⟨by rfl, ?_⟩) ?_ ?_
            rotate_left
            · intro w'
              go_simp
              with_reducible rfl
            rotate_left
            · simp only [Act.put, List.setIfInBounds_toArray, List.set_cons_zero, List.set_cons_succ, i64_w, i32_w]
              rfl
            refine take_ (i := 2) (N := some 81) (v := ?_) (a' := ?_) #[false, true, true, false, false, false, false, false, false, false, false, false, false, false, false, false] rfl rfl (take_ofW HT_.out HW_.out (by kernel_rfl)) (fun _ _ _ h => h) (Or.inl ⟨by rfl, ?_⟩) hHeld ?_ ?_
            rotate_left
            · rintro w' h1_
              obtain ⟨⟨_, _⟩, _, _⟩ := h1_.cells
              go_simp
              with_reducible rfl
            rotate_left
            · simp only [Act.put, List.setIfInBounds_toArray, List.set_cons_zero, List.set_cons_succ, i64_w, i32_w]
              rfl
            refine pure_ (i := 3) (N := some 82) (v := ?_) (a' := ?_) #[false, true, true, true, false, false, false, false, false, false, false, false, false, false, false, false] rfl rfl (any_of HT_.out (by kernel_rfl)) (fun _ _ _ h => h) (Or.inl ⟨by rfl, ?_⟩) ?_ ?_
            rotate_left
            · intro w'
              go_simp
              with_reducible rfl
            rotate_left
            · simp only [Act.put, List.setIfInBounds_toArray, List.set_cons_zero, List.set_cons_succ, i64_w, i32_w]
              rfl
            refine one_ (i := 0) (N := some 79) #[true, true, true, true, false, false, false, false, false, false, false, false, false, false, false, false] rfl rfl (one_of HT_.out (by kernel_rfl)) (by decide) (fun K hK => ?_)
            refine goes_ Try.func17 (by kernel_rfl) rfl #[.pointer (some ⟨w1.heap.size, 0, none⟩)] (by rfl) rfl rfl (by (try simp only [List.map_toArray, List.map_cons, List.map_nil]); first | done | rfl) ?_
            refine (len_ok w1.heap.size (A0) m9 (c0) true _ (unhide W0)).mono ?_
            rintro e w' ⟨rfl, rfl⟩
            refine ⟨_, rfl, ?_⟩
            clear hHeld
            refine hK.out _ _ (unhide M0) (fun hHeld => ?_)
            clear hK K
            refine norm_ (a' := ?_) ?_ ?_
            rotate_left
            · show Act.put _ (some 79) _ = _
              simp only [Act.put, List.setIfInBounds_toArray, List.set_cons_zero, List.set_cons_succ, i64_w, i32_w]
              rfl
            refine pure_ (i := 4) (N := some 83) (v := ?_) (a' := ?_) #[true, true, true, true, true, false, false, false, false, false, false, false, false, false, false, false] rfl rfl (any_of HT_.out (by kernel_rfl)) (fun _ _ _ h => h) (Or.inl ⟨by rfl, ?_⟩) ?_ ?_
            rotate_left
            · intro w'
              go_simp
              with_reducible rfl
            rotate_left
            · simp only [Act.put, List.setIfInBounds_toArray, List.set_cons_zero, List.set_cons_succ, i64_w, i32_w]
              rfl
            refine pure_ (i := 5) (N := some 84) (v := ?_) (a' := ?_) #[true, true, true, true, true, true, false, false, false, false, false, false, false, false, false, false] rfl rfl (any_of HT_.out (by kernel_rfl)) (fun _ _ _ h => h) (Or.inl ⟨by rfl, ?_⟩) ?_ ?_
            rotate_left
            · intro w'
              go_simp
              with_reducible rfl
            rotate_left
            · simp only [Act.put, List.setIfInBounds_toArray, List.set_cons_zero, List.set_cons_succ, i64_w, i32_w]
              rfl
            refine pure_ (i := 7) (N := some 86) (v := ?_) (a' := ?_) #[true, true, true, true, true, true, false, true, false, false, false, false, false, false, false, false] rfl rfl (any_of HT_.out (by kernel_rfl)) (fun _ _ _ h => h) (Or.inl ⟨by rfl, ?_⟩) ?_ ?_
            rotate_left
            · intro w'
              go_simp
              with_reducible rfl
            rotate_left
            · simp only [Act.put, List.setIfInBounds_toArray, List.set_cons_zero, List.set_cons_succ, i64_w, i32_w]
              rfl
            refine take_ (i := 8) (N := some 87) (v := ?_) (a' := ?_) #[true, true, true, true, true, true, false, true, true, false, false, false, false, false, false, false] rfl rfl (take_ofW HT_.out HW_.out (by kernel_rfl)) (fun _ _ _ h => h) (Or.inl ⟨by rfl, ?_⟩) hHeld ?_ ?_
            rotate_left
            · rintro w' h1_
              obtain ⟨⟨_, _⟩, _, _⟩ := h1_.cells
              go_simp
              with_reducible rfl
            rotate_left
            · simp only [Act.put, List.setIfInBounds_toArray, List.set_cons_zero, List.set_cons_succ, i64_w, i32_w]
              rfl
            refine one_ (i := 6) (N := some 85) #[true, true, true, true, true, true, true, true, true, false, false, false, false, false, false, false] rfl rfl (one_of HT_.out (by kernel_rfl)) (by decide) (fun K hK => ?_)
            refine goes_ Try.func20 (by kernel_rfl) rfl #[.pointer (some ⟨w1.heap.size, 0, none⟩)] (by rfl) rfl rfl (by (try simp only [List.map_toArray, List.map_cons, List.map_nil]); first | done | rfl) ?_
            refine (ended_shutx w1.heap.size (A0) m9 (c0) b0 _ (unhide W0) (unhide HEND)).mono ?_
            rintro e w' ⟨rfl, rfl⟩
            refine ⟨_, rfl, ?_⟩
            clear hHeld
            refine hK.out _ _ (unhide M0) (fun hHeld => ?_)
            clear hK K
            refine norm_ (a' := ?_) ?_ ?_
            rotate_left
            · show Act.put _ (some 85) _ = _
              simp only [Act.put, List.setIfInBounds_toArray, List.set_cons_zero, List.set_cons_succ, i64_w, i32_w]
              rfl
            refine pure_ (i := 9) (N := some 88) (v := ?_) (a' := ?_) #[true, true, true, true, true, true, true, true, true, true, false, false, false, false, false, false] rfl rfl (any_of HT_.out (by kernel_rfl)) (fun _ _ _ h => h) (Or.inl ⟨by rfl, ?_⟩) ?_ ?_
            rotate_left
            · intro w'
              go_simp
              with_reducible rfl
            rotate_left
            · simp only [Act.put, List.setIfInBounds_toArray, List.set_cons_zero, List.set_cons_succ, i64_w, i32_w]
              rfl
            refine pure_ (i := 10) (N := some 89) (v := ?_) (a' := ?_) #[true, true, true, true, true, true, true, true, true, true, true, false, false, false, false, false] rfl rfl (any_of HT_.out (by kernel_rfl)) (fun _ _ _ h => h) (Or.inl ⟨by rfl, ?_⟩) ?_ ?_
            rotate_left
            · intro w'
              go_simp
              with_reducible rfl
            rotate_left
            · simp only [Act.put, List.setIfInBounds_toArray, List.set_cons_zero, List.set_cons_succ, i64_w, i32_w]
              rfl
            refine take_ (i := 11) (N := some 90) (v := ?_) (a' := ?_) #[true, true, true, true, true, true, true, true, true, true, true, true, false, false, false, false] rfl rfl (take_ofW HT_.out HW_.out (by kernel_rfl)) (fun _ _ _ h => h) (Or.inl ⟨by rfl, ?_⟩) hHeld ?_ ?_
            rotate_left
            · rintro w' h1_
              obtain ⟨⟨_, _⟩, _, _⟩ := h1_.cells
              go_simp
              with_reducible rfl
            rotate_left
            · simp only [Act.put, List.setIfInBounds_toArray, List.set_cons_zero, List.set_cons_succ, i64_w, i32_w]
              rfl
            refine pure_ (i := 12) (N := some 91) (v := ?_) (a' := ?_) #[true, true, true, true, true, true, true, true, true, true, true, true, true, false, false, false] rfl rfl (any_of HT_.out (by kernel_rfl)) (fun _ _ _ h => h) (Or.inl ⟨by rfl, ?_⟩) ?_ ?_
            rotate_left
            · intro w'
              go_simp
              with_reducible rfl
            rotate_left
            · simp only [Act.put, List.setIfInBounds_toArray, List.set_cons_zero, List.set_cons_succ, i64_w, i32_w]
              rfl
            refine pure_ (i := 13) (N := some 92) (v := ?_) (a' := ?_) #[true, true, true, true, true, true, true, true, true, true, true, true, true, true, false, false] rfl rfl (any_of HT_.out (by kernel_rfl)) (fun _ _ _ h => h) (Or.inl ⟨by rfl, ?_⟩) ?_ ?_
            rotate_left
            · intro w'
              go_simp
              with_reducible rfl
            rotate_left
            · simp only [Act.put, List.setIfInBounds_toArray, List.set_cons_zero, List.set_cons_succ, i64_w, i32_w]
              rfl
            refine pure_ (i := 14) (N := some 93) (v := ?_) (a' := ?_) #[true, true, true, true, true, true, true, true, true, true, true, true, true, true, true, false] rfl rfl (any_of HT_.out (by kernel_rfl)) (fun _ _ _ h => h) (Or.inl ⟨by rfl, ?_⟩) ?_ ?_
            rotate_left
            · intro w'
              go_simp
              with_reducible rfl
            rotate_left
            · simp only [Act.put, List.setIfInBounds_toArray, List.set_cons_zero, List.set_cons_succ, i64_w, i32_w]
              rfl
            refine pure_ (i := 15) (N := some 94) (v := ?_) (a' := ?_) #[true, true, true, true, true, true, true, true, true, true, true, true, true, true, true, true] rfl rfl (any_of HT_.out (by kernel_rfl)) (fun _ _ _ h => h) (Or.inl ⟨by rfl, ?_⟩) ?_ ?_
            rotate_left
            · intro w'
              go_simp
              with_reducible rfl
            rotate_left
            · simp only [Act.put, List.setIfInBounds_toArray, List.set_cons_zero, List.set_cons_succ, i64_w, i32_w]
              rfl
            refine done_ (done_of HT_.out (by kernel_rfl)) ?_
            clear HT_ HW_ hHeld
            go_wp2
            go_roundg (ko - 1)
            case measure => have := unhide HK; omega
            case rel =>
              refine ⟨i + 1, X, true, A0, c0, by go_num, by have := unhide HK; show i + 1 + (ko - 1) = n; omega, by rw [unhide XL]; exact hXm, ?_, ?_, unhide M0, unhide B0⟩
              · rw [unhide XL]; exact unhide W0
              · rw [unhide XL]; exact unhide O0
          have e2 : (k == 2) = false := beq_eq_false_iff_ne.2 hk2
          by_cases hk3 : k = 3
          · subst hk3
            obtain ⟨⟨m0, m1⟩, ⟨m2, m3⟩, m4⟩ := (unhide HM1).cells
            go_wp2_with fail
            refine (cut_ok w1.heap.size _ true _ (unhide HW1)).mono ?_
            rintro e w' ⟨rfl, rfl⟩
            go_wp2
            obtain ⟨m9, hm9⟩ : ∃ m9 : Nat, 0 = m9 := ⟨_, rfl⟩
            refine gen_world (fun w' => Wire w' w1.heap.size (.slice (none) m9 (0)) true ∧ Mb w' (w1.heap.size + 1) (([] : List Int)) true ∧ Own w' w.heap.size (.slice (none) m9 (0)) (([] : List Int)) ∧ Below w.heap.size w w') ⟨by rw [← hm9]; exact Wire.far (Wire.far (blk_put (blk_put (unhide HW1) 0 _ rfl) 1 _ rfl) (by simp)) (by simp), blk_put (blk_put (Mb.far (Mb.far (unhide HM1) (by simp)) (by simp)) 0 _ rfl) 1 _ rfl, by rw [← hm9]; exact Kd.R_nil _ _ _ _ _, below_set (below_set (below_set (below_set (unhide HB1) z1) z1) (by omega)) (by omega)⟩ (fun w9 h9 => ?_)
            obtain ⟨hW9, hM9, hO9, hB9⟩ := h9
            have hXl : (([] : List Int)).length = m9 := Eq.trans (show (([] : List Int)).length = 0 from rfl) hm9
            have hXm : m9 ≤ 131072 := by rw [← hm9]; exact (by omega)
            clear HM1 HW1 HO1 HB1 HC1 HN1 hm9
            generalize (([] : List Int)) = X at hM9 hO9 hXl
            have hsz : (strOfNums X).size = m9 := by rw [strOfNums_size]; exact hXl
            have hem : (strOfNums X).toList.isEmpty = (m9 == 0) := by rw [← hXl]; exact str_none X
            have M0 : Hid (Mb w9.drew (w1.heap.size + 1) X true) := hM9
            have W0 : Hid (Wire w9.drew w1.heap.size (.slice (none) m9 (0)) true) := hW9
            have O0 : Hid (Own w9.drew w.heap.size (.slice (none) m9 (0)) X) := hO9
            have B0 := hide (below_drew1 hB9)
            have XL := hide hXl
            clear hW9 hM9 hO9 hB9 hXl
            generalize hb0 : (m9 == 0) = b0 at hem
            have HEND := hide hb0
            clear hb0
            refine start_ (n := 16) (S := fun w' => Mb w' (w1.heap.size + 1) X true) (ds := []) #[false, false, false, false, false, false, false, false, false, false, false, false, false, false, false, false] (by kernel_rfl) rfl rfl (unhide M0) (fun hHeld => ?_)
            refine with_tabW tabT5_29 bitsT5_29 (fun HT_ HW_ => ?_)
            refine pure_ (i := 1) (N := some 80) (v := ?_) (a' := ?_) #[false, true, false, false, false, false, false, false, false, false, false, false, false, false, false, false] rfl rfl (any_of HT_.out (by kernel_rfl)) (fun _ _ _ h => h) (Or.inl ⟨by rfl, ?_⟩) ?_ ?_
            rotate_left
            · intro w'
              go_simp
              with_reducible rfl
            rotate_left
            · simp only [Act.put, List.setIfInBounds_toArray, List.set_cons_zero, List.set_cons_succ, i64_w, i32_w]
              rfl
            refine take_ (i := 2) (N := some 81) (v := ?_) (a' := ?_) #[false, true, true, false, false, false, false, false, false, false, false, false, false, false, false, false] rfl rfl (take_ofW HT_.out HW_.out (by kernel_rfl)) (fun _ _ _ h => h) (Or.inl ⟨by rfl, ?_⟩) hHeld ?_ ?_
            rotate_left
            · rintro w' h1_
              obtain ⟨⟨_, _⟩, _, _⟩ := h1_.cells
              go_simp
              with_reducible rfl
            rotate_left
            · simp only [Act.put, List.setIfInBounds_toArray, List.set_cons_zero, List.set_cons_succ, i64_w, i32_w]
              rfl
            refine pure_ (i := 3) (N := some 82) (v := ?_) (a' := ?_) #[false, true, true, true, false, false, false, false, false, false, false, false, false, false, false, false] rfl rfl (any_of HT_.out (by kernel_rfl)) (fun _ _ _ h => h) (Or.inl ⟨by rfl, ?_⟩) ?_ ?_
            rotate_left
            · intro w'
              go_simp
              with_reducible rfl
            rotate_left
            · simp only [Act.put, List.setIfInBounds_toArray, List.set_cons_zero, List.set_cons_succ, i64_w, i32_w]
              rfl
            refine one_ (i := 0) (N := some 79) #[true, true, true, true, false, false, false, false, false, false, false, false, false, false, false, false] rfl rfl (one_of HT_.out (by kernel_rfl)) (by decide) (fun K hK => ?_)
            refine goes_ Try.func17 (by kernel_rfl) rfl #[.pointer (some ⟨w1.heap.size, 0, none⟩)] (by rfl) rfl rfl (by (try simp only [List.map_toArray, List.map_cons, List.map_nil]); first | done | rfl) ?_
            refine (len_ok w1.heap.size (none) m9 (0) true _ (unhide W0)).mono ?_
            rintro e w' ⟨rfl, rfl⟩
            refine ⟨_, rfl, ?_⟩
            clear hHeld
            refine hK.out _ _ (unhide M0) (fun hHeld => ?_)
            clear hK K
            refine norm_ (a' := ?_) ?_ ?_
            rotate_left
            · show Act.put _ (some 79) _ = _
              simp only [Act.put, List.setIfInBounds_toArray, List.set_cons_zero, List.set_cons_succ, i64_w, i32_w]
              rfl
            refine pure_ (i := 4) (N := some 83) (v := ?_) (a' := ?_) #[true, true, true, true, true, false, false, false, false, false, false, false, false, false, false, false] rfl rfl (any_of HT_.out (by kernel_rfl)) (fun _ _ _ h => h) (Or.inl ⟨by rfl, ?_⟩) ?_ ?_
            rotate_left
            · intro w'
              go_simp
              with_reducible rfl
            rotate_left
            · simp only [Act.put, List.setIfInBounds_toArray, List.set_cons_zero, List.set_cons_succ, i64_w, i32_w]
              rfl
            refine pure_ (i := 5) (N := some 84) (v := ?_) (a' := ?_) #[true, true, true, true, true, true, false, false, false, false, false, false, false, false, false, false] rfl rfl (any_of HT_.out (by kernel_rfl)) (fun _ _ _ h => h) (Or.inl ⟨by rfl, ?_⟩) ?_ ?_
            rotate_left
            · intro w'
              go_simp
              with_reducible rfl
            rotate_left
            · simp only [Act.put, List.setIfInBounds_toArray, List.set_cons_zero, List.set_cons_succ, i64_w, i32_w]
              rfl
            refine pure_ (i := 7) (N := some 86) (v := ?_) (a' := ?_) #[true, true, true, true, true, true, false, true, false, false, false, false, false, false, false, false] rfl rfl (any_of HT_.out (by kernel_rfl)) (fun _ _ _ h => h) (Or.inl ⟨by rfl, ?_⟩) ?_ ?_
            rotate_left
            · intro w'
              go_simp
              with_reducible rfl
            rotate_left
            · simp only [Act.put, List.setIfInBounds_toArray, List.set_cons_zero, List.set_cons_succ, i64_w, i32_w]
              rfl
            refine take_ (i := 8) (N := some 87) (v := ?_) (a' := ?_) #[true, true, true, true, true, true, false, true, true, false, false, false, false, false, false, false] rfl rfl (take_ofW HT_.out HW_.out (by kernel_rfl)) (fun _ _ _ h => h) (Or.inl ⟨by rfl, ?_⟩) hHeld ?_ ?_
            rotate_left
            · rintro w' h1_
              obtain ⟨⟨_, _⟩, _, _⟩ := h1_.cells
              go_simp
              with_reducible rfl
            rotate_left
            · simp only [Act.put, List.setIfInBounds_toArray, List.set_cons_zero, List.set_cons_succ, i64_w, i32_w]
              rfl
            refine one_ (i := 6) (N := some 85) #[true, true, true, true, true, true, true, true, true, false, false, false, false, false, false, false] rfl rfl (one_of HT_.out (by kernel_rfl)) (by decide) (fun K hK => ?_)
            refine goes_ Try.func20 (by kernel_rfl) rfl #[.pointer (some ⟨w1.heap.size, 0, none⟩)] (by rfl) rfl rfl (by (try simp only [List.map_toArray, List.map_cons, List.map_nil]); first | done | rfl) ?_
            refine (ended_shutx w1.heap.size (none) m9 (0) b0 _ (unhide W0) (unhide HEND)).mono ?_
            rintro e w' ⟨rfl, rfl⟩
            refine ⟨_, rfl, ?_⟩
            clear hHeld
            refine hK.out _ _ (unhide M0) (fun hHeld => ?_)
            clear hK K
            refine norm_ (a' := ?_) ?_ ?_
            rotate_left
            · show Act.put _ (some 85) _ = _
              simp only [Act.put, List.setIfInBounds_toArray, List.set_cons_zero, List.set_cons_succ, i64_w, i32_w]
              rfl
            refine pure_ (i := 9) (N := some 88) (v := ?_) (a' := ?_) #[true, true, true, true, true, true, true, true, true, true, false, false, false, false, false, false] rfl rfl (any_of HT_.out (by kernel_rfl)) (fun _ _ _ h => h) (Or.inl ⟨by rfl, ?_⟩) ?_ ?_
            rotate_left
            · intro w'
              go_simp
              with_reducible rfl
            rotate_left
            · simp only [Act.put, List.setIfInBounds_toArray, List.set_cons_zero, List.set_cons_succ, i64_w, i32_w]
              rfl
            refine pure_ (i := 10) (N := some 89) (v := ?_) (a' := ?_) #[true, true, true, true, true, true, true, true, true, true, true, false, false, false, false, false] rfl rfl (any_of HT_.out (by kernel_rfl)) (fun _ _ _ h => h) (Or.inl ⟨by rfl, ?_⟩) ?_ ?_
            rotate_left
            · intro w'
              go_simp
              with_reducible rfl
            rotate_left
            · simp only [Act.put, List.setIfInBounds_toArray, List.set_cons_zero, List.set_cons_succ, i64_w, i32_w]
              rfl
            refine take_ (i := 11) (N := some 90) (v := ?_) (a' := ?_) #[true, true, true, true, true, true, true, true, true, true, true, true, false, false, false, false] rfl rfl (take_ofW HT_.out HW_.out (by kernel_rfl)) (fun _ _ _ h => h) (Or.inl ⟨by rfl, ?_⟩) hHeld ?_ ?_
            rotate_left
            · rintro w' h1_
              obtain ⟨⟨_, _⟩, _, _⟩ := h1_.cells
              go_simp
              with_reducible rfl
            rotate_left
            · simp only [Act.put, List.setIfInBounds_toArray, List.set_cons_zero, List.set_cons_succ, i64_w, i32_w]
              rfl
            refine pure_ (i := 12) (N := some 91) (v := ?_) (a' := ?_) #[true, true, true, true, true, true, true, true, true, true, true, true, true, false, false, false] rfl rfl (any_of HT_.out (by kernel_rfl)) (fun _ _ _ h => h) (Or.inl ⟨by rfl, ?_⟩) ?_ ?_
            rotate_left
            · intro w'
              go_simp
              with_reducible rfl
            rotate_left
            · simp only [Act.put, List.setIfInBounds_toArray, List.set_cons_zero, List.set_cons_succ, i64_w, i32_w]
              rfl
            refine pure_ (i := 13) (N := some 92) (v := ?_) (a' := ?_) #[true, true, true, true, true, true, true, true, true, true, true, true, true, true, false, false] rfl rfl (any_of HT_.out (by kernel_rfl)) (fun _ _ _ h => h) (Or.inl ⟨by rfl, ?_⟩) ?_ ?_
            rotate_left
            · intro w'
              go_simp
              with_reducible rfl
            rotate_left
            · simp only [Act.put, List.setIfInBounds_toArray, List.set_cons_zero, List.set_cons_succ, i64_w, i32_w]
              rfl
            refine pure_ (i := 14) (N := some 93) (v := ?_) (a' := ?_) #[true, true, true, true, true, true, true, true, true, true, true, true, true, true, true, false] rfl rfl (any_of HT_.out (by kernel_rfl)) (fun _ _ _ h => h) (Or.inl ⟨by rfl, ?_⟩) ?_ ?_
            rotate_left
            · intro w'
              go_simp
              with_reducible rfl
            rotate_left
            · simp only [Act.put, List.setIfInBounds_toArray, List.set_cons_zero, List.set_cons_succ, i64_w, i32_w]
              rfl
            refine pure_ (i := 15) (N := some 94) (v := ?_) (a' := ?_) #[true, true, true, true, true, true, true, true, true, true, true, true, true, true, true, true] rfl rfl (any_of HT_.out (by kernel_rfl)) (fun _ _ _ h => h) (Or.inl ⟨by rfl, ?_⟩) ?_ ?_
            rotate_left
            · intro w'
              go_simp
              with_reducible rfl
            rotate_left
            · simp only [Act.put, List.setIfInBounds_toArray, List.set_cons_zero, List.set_cons_succ, i64_w, i32_w]
              rfl
            refine done_ (done_of HT_.out (by kernel_rfl)) ?_
            clear HT_ HW_ hHeld
            go_wp2
            go_roundg (ko - 1)
            case measure => have := unhide HK; omega
            case rel =>
              refine ⟨i + 1, X, true, none, 0, by go_num, by have := unhide HK; show i + 1 + (ko - 1) = n; omega, by rw [unhide XL]; exact hXm, ?_, ?_, unhide M0, unhide B0⟩
              · rw [unhide XL]; exact unhide W0
              · rw [unhide XL]; exact unhide O0
          have e3 : (k == 3) = false := beq_eq_false_iff_ne.2 hk3
          go_wp2
          obtain ⟨m9, hm9⟩ : ∃ m9 : Nat, xs.length = m9 := ⟨_, rfl⟩
          refine gen_world (fun w' => Wire w' w1.heap.size (.slice (A0) m9 (c0)) true ∧ Mb w' (w1.heap.size + 1) (xs) true ∧ Own w' w.heap.size (.slice (A0) m9 (c0)) (xs) ∧ Below w.heap.size w w') ⟨by rw [← hm9]; exact unhide HW1, unhide HM1, by rw [← hm9]; exact unhide HO1, unhide HB1⟩ (fun w9 h9 => ?_)
          obtain ⟨hW9, hM9, hO9, hB9⟩ := h9
          have hXl : (xs).length = m9 := Eq.trans (show (xs).length = xs.length from rfl) hm9
          have hXm : m9 ≤ 131072 := by rw [← hm9]; exact hxl
          clear HM1 HW1 HO1 HB1 HC1 HN1 hm9
          generalize (xs) = X at hM9 hO9 hXl
          have hsz : (strOfNums X).size = m9 := by rw [strOfNums_size]; exact hXl
          have hem : (strOfNums X).toList.isEmpty = (m9 == 0) := by rw [← hXl]; exact str_none X
          have M0 : Hid (Mb w9.drew (w1.heap.size + 1) X true) := hM9
          have W0 : Hid (Wire w9.drew w1.heap.size (.slice (A0) m9 (c0)) true) := hW9
          have O0 : Hid (Own w9.drew w.heap.size (.slice (A0) m9 (c0)) X) := hO9
          have B0 := hide (below_drew1 hB9)
          have XL := hide hXl
          clear hW9 hM9 hO9 hB9 hXl
          generalize hb0 : (m9 == 0) = b0 at hem
          have HEND := hide hb0
          clear hb0
          refine start_ (n := 16) (S := fun w' => Mb w' (w1.heap.size + 1) X true) (ds := []) #[false, false, false, false, false, false, false, false, false, false, false, false, false, false, false, false] (by kernel_rfl) rfl rfl (unhide M0) (fun hHeld => ?_)
          refine with_tabW tabT5_29 bitsT5_29 (fun HT_ HW_ => ?_)
          refine pure_ (i := 1) (N := some 80) (v := ?_) (a' := ?_) #[false, true, false, false, false, false, false, false, false, false, false, false, false, false, false, false] rfl rfl (any_of HT_.out (by kernel_rfl)) (fun _ _ _ h => h) (Or.inl ⟨by rfl, ?_⟩) ?_ ?_
          rotate_left
          · intro w'
            go_simp
            with_reducible rfl
          rotate_left
          · simp only [Act.put, List.setIfInBounds_toArray, List.set_cons_zero, List.set_cons_succ, i64_w, i32_w]
            rfl
          refine take_ (i := 2) (N := some 81) (v := ?_) (a' := ?_) #[false, true, true, false, false, false, false, false, false, false, false, false, false, false, false, false] rfl rfl (take_ofW HT_.out HW_.out (by kernel_rfl)) (fun _ _ _ h => h) (Or.inl ⟨by rfl, ?_⟩) hHeld ?_ ?_
          rotate_left
          · rintro w' h1_
            obtain ⟨⟨_, _⟩, _, _⟩ := h1_.cells
            go_simp
            with_reducible rfl
          rotate_left
          · simp only [Act.put, List.setIfInBounds_toArray, List.set_cons_zero, List.set_cons_succ, i64_w, i32_w]
            rfl
          refine pure_ (i := 3) (N := some 82) (v := ?_) (a' := ?_) #[false, true, true, true, false, false, false, false, false, false, false, false, false, false, false, false] rfl rfl (any_of HT_.out (by kernel_rfl)) (fun _ _ _ h => h) (Or.inl ⟨by rfl, ?_⟩) ?_ ?_
          rotate_left
          · intro w'
            go_simp
            with_reducible rfl
          rotate_left
          · simp only [Act.put, List.setIfInBounds_toArray, List.set_cons_zero, List.set_cons_succ, i64_w, i32_w]
            rfl
          refine one_ (i := 0) (N := some 79) #[true, true, true, true, false, false, false, false, false, false, false, false, false, false, false, false] rfl rfl (one_of HT_.out (by kernel_rfl)) (by decide) (fun K hK => ?_)
          refine goes_ Try.func17 (by kernel_rfl) rfl #[.pointer (some ⟨w1.heap.size, 0, none⟩)] (by rfl) rfl rfl (by (try simp only [List.map_toArray, List.map_cons, List.map_nil]); first | done | rfl) ?_
          refine (len_ok w1.heap.size (A0) m9 (c0) true _ (unhide W0)).mono ?_
          rintro e w' ⟨rfl, rfl⟩
          refine ⟨_, rfl, ?_⟩
          clear hHeld
          refine hK.out _ _ (unhide M0) (fun hHeld => ?_)
          clear hK K
          refine norm_ (a' := ?_) ?_ ?_
          rotate_left
          · show Act.put _ (some 79) _ = _
            simp only [Act.put, List.setIfInBounds_toArray, List.set_cons_zero, List.set_cons_succ, i64_w, i32_w]
            rfl
          refine pure_ (i := 4) (N := some 83) (v := ?_) (a' := ?_) #[true, true, true, true, true, false, false, false, false, false, false, false, false, false, false, false] rfl rfl (any_of HT_.out (by kernel_rfl)) (fun _ _ _ h => h) (Or.inl ⟨by rfl, ?_⟩) ?_ ?_
          rotate_left
          · intro w'
            go_simp
            with_reducible rfl
          rotate_left
          · simp only [Act.put, List.setIfInBounds_toArray, List.set_cons_zero, List.set_cons_succ, i64_w, i32_w]
            rfl
          refine pure_ (i := 5) (N := some 84) (v := ?_) (a' := ?_) #[true, true, true, true, true, true, false, false, false, false, false, false, false, false, false, false] rfl rfl (any_of HT_.out (by kernel_rfl)) (fun _ _ _ h => h) (Or.inl ⟨by rfl, ?_⟩) ?_ ?_
          rotate_left
          · intro w'
            go_simp
            with_reducible rfl
          rotate_left
          · simp only [Act.put, List.setIfInBounds_toArray, List.set_cons_zero, List.set_cons_succ, i64_w, i32_w]
            rfl
          refine pure_ (i := 7) (N := some 86) (v := ?_) (a' := ?_) #[true, true, true, true, true, true, false, true, false, false, false, false, false, false, false, false] rfl rfl (any_of HT_.out (by kernel_rfl)) (fun _ _ _ h => h) (Or.inl ⟨by rfl, ?_⟩) ?_ ?_
          rotate_left
          · intro w'
            go_simp
            with_reducible rfl
          rotate_left
          · simp only [Act.put, List.setIfInBounds_toArray, List.set_cons_zero, List.set_cons_succ, i64_w, i32_w]
            rfl
          refine take_ (i := 8) (N := some 87) (v := ?_) (a' := ?_) #[true, true, true, true, true, true, false, true, true, false, false, false, false, false, false, false] rfl rfl (take_ofW HT_.out HW_.out (by kernel_rfl)) (fun _ _ _ h => h) (Or.inl ⟨by rfl, ?_⟩) hHeld ?_ ?_
          rotate_left
          · rintro w' h1_
            obtain ⟨⟨_, _⟩, _, _⟩ := h1_.cells
            go_simp
            with_reducible rfl
          rotate_left
          · simp only [Act.put, List.setIfInBounds_toArray, List.set_cons_zero, List.set_cons_succ, i64_w, i32_w]
            rfl
          refine one_ (i := 6) (N := some 85) #[true, true, true, true, true, true, true, true, true, false, false, false, false, false, false, false] rfl rfl (one_of HT_.out (by kernel_rfl)) (by decide) (fun K hK => ?_)
          refine goes_ Try.func20 (by kernel_rfl) rfl #[.pointer (some ⟨w1.heap.size, 0, none⟩)] (by rfl) rfl rfl (by (try simp only [List.map_toArray, List.map_cons, List.map_nil]); first | done | rfl) ?_
          refine (ended_shutx w1.heap.size (A0) m9 (c0) b0 _ (unhide W0) (unhide HEND)).mono ?_
          rintro e w' ⟨rfl, rfl⟩
          refine ⟨_, rfl, ?_⟩
          clear hHeld
          refine hK.out _ _ (unhide M0) (fun hHeld => ?_)
          clear hK K
          refine norm_ (a' := ?_) ?_ ?_
          rotate_left
          · show Act.put _ (some 85) _ = _
            simp only [Act.put, List.setIfInBounds_toArray, List.set_cons_zero, List.set_cons_succ, i64_w, i32_w]
            rfl
          refine pure_ (i := 9) (N := some 88) (v := ?_) (a' := ?_) #[true, true, true, true, true, true, true, true, true, true, false, false, false, false, false, false] rfl rfl (any_of HT_.out (by kernel_rfl)) (fun _ _ _ h => h) (Or.inl ⟨by rfl, ?_⟩) ?_ ?_
          rotate_left
          · intro w'
            go_simp
            with_reducible rfl
          rotate_left
          · simp only [Act.put, List.setIfInBounds_toArray, List.set_cons_zero, List.set_cons_succ, i64_w, i32_w]
            rfl
          refine pure_ (i := 10) (N := some 89) (v := ?_) (a' := ?_) #[true, true, true, true, true, true, true, true, true, true, true, false, false, false, false, false] rfl rfl (any_of HT_.out (by kernel_rfl)) (fun _ _ _ h => h) (Or.inl ⟨by rfl, ?_⟩) ?_ ?_
          rotate_left
          · intro w'
            go_simp
            with_reducible rfl
          rotate_left
          · simp only [Act.put, List.setIfInBounds_toArray, List.set_cons_zero, List.set_cons_succ, i64_w, i32_w]
            rfl
          refine take_ (i := 11) (N := some 90) (v := ?_) (a' := ?_) #[true, true, true, true, true, true, true, true, true, true, true, true, false, false, false, false] rfl rfl (take_ofW HT_.out HW_.out (by kernel_rfl)) (fun _ _ _ h => h) (Or.inl ⟨by rfl, ?_⟩) hHeld ?_ ?_
          rotate_left
          · rintro w' h1_
            obtain ⟨⟨_, _⟩, _, _⟩ := h1_.cells
            go_simp
            with_reducible rfl
          rotate_left
          · simp only [Act.put, List.setIfInBounds_toArray, List.set_cons_zero, List.set_cons_succ, i64_w, i32_w]
            rfl
          refine pure_ (i := 12) (N := some 91) (v := ?_) (a' := ?_) #[true, true, true, true, true, true, true, true, true, true, true, true, true, false, false, false] rfl rfl (any_of HT_.out (by kernel_rfl)) (fun _ _ _ h => h) (Or.inl ⟨by rfl, ?_⟩) ?_ ?_
          rotate_left
          · intro w'
            go_simp
            with_reducible rfl
          rotate_left
          · simp only [Act.put, List.setIfInBounds_toArray, List.set_cons_zero, List.set_cons_succ, i64_w, i32_w]
            rfl
          refine pure_ (i := 13) (N := some 92) (v := ?_) (a' := ?_) #[true, true, true, true, true, true, true, true, true, true, true, true, true, true, false, false] rfl rfl (any_of HT_.out (by kernel_rfl)) (fun _ _ _ h => h) (Or.inl ⟨by rfl, ?_⟩) ?_ ?_
          rotate_left
          · intro w'
            go_simp
            with_reducible rfl
          rotate_left
          · simp only [Act.put, List.setIfInBounds_toArray, List.set_cons_zero, List.set_cons_succ, i64_w, i32_w]
            rfl
          refine pure_ (i := 14) (N := some 93) (v := ?_) (a' := ?_) #[true, true, true, true, true, true, true, true, true, true, true, true, true, true, true, false] rfl rfl (any_of HT_.out (by kernel_rfl)) (fun _ _ _ h => h) (Or.inl ⟨by rfl, ?_⟩) ?_ ?_
          rotate_left
          · intro w'
            go_simp
            with_reducible rfl
          rotate_left
          · simp only [Act.put, List.setIfInBounds_toArray, List.set_cons_zero, List.set_cons_succ, i64_w, i32_w]
            rfl
          refine pure_ (i := 15) (N := some 94) (v := ?_) (a' := ?_) #[true, true, true, true, true, true, true, true, true, true, true, true, true, true, true, true] rfl rfl (any_of HT_.out (by kernel_rfl)) (fun _ _ _ h => h) (Or.inl ⟨by rfl, ?_⟩) ?_ ?_
          rotate_left
          · intro w'
            go_simp
            with_reducible rfl
          rotate_left
          · simp only [Act.put, List.setIfInBounds_toArray, List.set_cons_zero, List.set_cons_succ, i64_w, i32_w]
            rfl
          refine done_ (done_of HT_.out (by kernel_rfl)) ?_
          clear HT_ HW_ hHeld
          go_wp2
          go_roundg (ko - 1)
          case measure => have := unhide HK; omega
          case rel =>
            refine ⟨i + 1, X, true, A0, c0, by go_num, by have := unhide HK; show i + 1 + (ko - 1) = n; omega, by rw [unhide XL]; exact hXm, ?_, ?_, unhide M0, unhide B0⟩
            · rw [unhide XL]; exact unhide W0
            · rw [unhide XL]; exact unhide O0
    · have HBE := hide hbel
      clear hW hO hM hbel HREL
      go_wp2
      go_ret
      exact ⟨rfl, unhide HBE⟩

theorem law_any (A : Option Addr) (n c : Nat) (K N : Nat → Int) (D : Nat → List Int) (w : World) (hp : Ops w A n K N D) (hn : n ≤ maxLen) :
    Calls Try.prog 5 #[.slice A n c] w fun e w' => e = .returned (.bool true) ∧ Below w.heap.size w w' := by
  by_cases h1 : 60 < n
  · exact law_not A n c w hn h1
  exact law_yes A n c K N D w hp (by omega)
end Go.Proofs.Ytjdkeicjhmdcfaa.WiPlays
