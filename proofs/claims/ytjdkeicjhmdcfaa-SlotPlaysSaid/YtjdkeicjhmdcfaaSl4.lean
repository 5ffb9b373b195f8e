import Derived.Test.YtjdkeicjhmdcfaaSl3
set_option linter.unusedSimpArgs false
set_option linter.unusedVariables false
namespace Go.Proofs.Ytjdkeicjhmdcfaa.Sl
open Go.RowKit Go.Maps Go.Proofs.YtjdkeicjhmdcfaaW.PrintWords Go.Proofs.YtjdkeicjhmdcfaaW.PrintLast Go.Proofs.YtjdkeicjhmdcfaaW.PrintMore Go.Proofs.Ytjdkeicjhmdcfaa.Wk

/-- A module's box: its name, its number of slots. -/
def Mod (w : World) (n : Nat) (m : ByteArray) (x1 x2 : Value) (c : Int) (x4 x5 : Value) : Prop := w.heap[n]? = some (.cells #[.string m, x1, x2, .int .i64 c, x4, x5] 49 (0, 0))
theorem Mod.cells {w : World} {n : Nat} {m : ByteArray} {x1 x2 x4 x5 : Value} {c : Int} (h : Mod w n m x1 x2 c x4 x5) :
    w.cell? ⟨n, 0, none⟩ = some (.string m) ∧ w.cell? ⟨n, 3, none⟩ = some (.int .i64 c) := ⟨(blk_cell h 0).trans rfl, (blk_cell h 3).trans rfl⟩
def T26_4 : Bool × List (List Nat × List Nat) := (true, [([], []), ([], []), ([1], [1]), ([0, 2], [0, 2]), ([], []), ([4], [4]), ([3, 5], [3, 5])])
def BT26_4 : List Nat := [0, 0, 2, 7, 0, 16, 63]
theorem tabT26_4 : rtab .any (opsOf Try.f26 4) = T26_4 := by kernel_rfl
theorem bitsT26_4 : waitsOk T26_4.2 BT26_4 = true := by kernel_rfl
def T26_6 : Bool × List (List Nat × List Nat) := (true, [([], []), ([0], [0]), ([1], [1]), ([2], [2]), ([], []), ([], []), ([5], [5]), ([3, 4, 6, 0, 1, 2, 3, 4, 5, 6], [3, 4, 6])])
def BT26_6 : List Nat := [0, 1, 3, 7, 0, 0, 32, 127]
theorem tabT26_6 : rtab .any (opsOf Try.f26 6) = T26_6 := by kernel_rfl
theorem bitsT26_6 : waitsOk T26_6.2 BT26_6 = true := by kernel_rfl

def eres (l : List (Int × ByteArray)) (k : Int) (m : ByteArray) (c : Int) : Int := if at_ l k then 5 else if c ≤ (cnt_ l m : Int) then 150 else 0
def eput (l : List (Int × ByteArray)) (k : Int) (m : ByteArray) (c : Int) : List (Int × ByteArray) := if at_ l k then l else if c ≤ (cnt_ l m : Int) then l else l ++ [(k, m)]
set_option maxRecDepth 100000 in
theorem enter_twice (g b : Nat) (l : List (Int × ByteArray)) (k : Int) (m : ByteArray) (x1 x2 x4 x5 : Value) (c : Int) (w : World) (h : Slots w g b l) (hk : (Lit.int .i64 k).wf = true) (ha : at_ l k = true) :
    Calls Try.prog 26 #[.pointer (some ⟨g, 0, none⟩), .int .i64 k, .agg #[.string m, x1, x2, .int .i64 c, x4, x5]] w fun e w' => e = .returned (.int .i64 5) ∧ Slots w' g b l ∧ Below w.heap.size w w' := by
  have hu77 := Try.underlying77
  have hu49 := Try.underlying49
  have h1 := h.alloc (.cells #[.string m, x1, x2, .int .i64 c, x4, x5] 49)
  obtain ⟨c1, c2, c3⟩ := h1.cell
  have hlook := h1.look k hk
  rw [ha] at hlook
  have H1 := hide h1
  clear h h1
  go_enter Try.func26, Try.ntmps26
  go_wp2
  go_ret
  exact ⟨rfl, unhide H1, below_alloc (Below.refl _ _) _⟩
set_option maxRecDepth 100000 in
set_option maxHeartbeats 1000000 in
theorem enter_full (g b : Nat) (l : List (Int × ByteArray)) (k : Int) (m : ByteArray) (x1 x2 x4 x5 : Value) (c : Int) (w : World) (h : Slots w g b l) (hk : (Lit.int .i64 k).wf = true) (hl : l.length ≤ 1000) (ha : at_ l k = false) (hc : c ≤ (cnt_ l m : Int)) :
    Calls Try.prog 26 #[.pointer (some ⟨g, 0, none⟩), .int .i64 k, .agg #[.string m, x1, x2, .int .i64 c, x4, x5]] w fun e w' => e = .returned (.int .i64 150) ∧ Slots w' g b l ∧ Below w.heap.size w w' := by
  have hu77 := Try.underlying77
  have hu49 := Try.underlying49
  have h1 := h.alloc (.cells #[.string m, x1, x2, .int .i64 c, x4, x5] 49)
  obtain ⟨c1, c2, c3⟩ := h1.cell
  have hlook := h1.look k hk
  rw [ha] at hlook
  have H1 := hide h1
  have M1 : Hid (Mod (w.alloc (.cells #[.string m, x1, x2, .int .i64 c, x4, x5] 49)) w.heap.size m x1 x2 c x4 x5) := blk_new _ _
  have B1 := hide (below_alloc (Below.refl w.heap.size w) (.cells #[.string m, x1, x2, .int .i64 c, x4, x5] 49))
  have HL := hide hl
  clear h h1
  go_enter Try.func26, Try.ntmps26
  go_wp2
  clear c1 c2 c3 hlook
  replace H1 : Hid (Slots (w.alloc (.cells #[.string m, x1, x2, .int .i64 c, x4, x5] 49)).drew g b l) := unhide H1
  replace M1 : Hid (Mod (w.alloc (.cells #[.string m, x1, x2, .int .i64 c, x4, x5] 49)).drew w.heap.size m x1 x2 c x4 x5) := unhide M1
  replace B1 := hide (below_drew1 (unhide B1))
  refine start_ (n := 7) (S := fun w' => Mod w' w.heap.size m x1 x2 c x4 x5) (ds := []) #[false, false, false, false, false, false, false] (by kernel_rfl) rfl rfl (unhide M1) (fun hHeld => ?_)
  refine with_tabW tabT26_4 bitsT26_4 (fun HT_ HW_ => ?_)
  refine pure_ (i := 0) (N := some 19) (v := ?_) (a' := ?_) #[true, false, false, false, false, false, false] rfl rfl (any_of HT_.out (by kernel_rfl)) (fun _ _ _ h => h) (Or.inl ⟨by rfl, ?_⟩) ?_ ?_
  rotate_left
  · intro w'
    go_simp
    with_reducible rfl
  rotate_left
  · simp only [Act.put, List.setIfInBounds_toArray, List.set_cons_zero, List.set_cons_succ, i64_w, i32_w]
    rfl
  refine pure_ (i := 1) (N := some 20) (v := ?_) (a' := ?_) #[true, true, false, false, false, false, false] rfl rfl (any_of HT_.out (by kernel_rfl)) (fun _ _ _ h => h) (Or.inl ⟨by rfl, ?_⟩) ?_ ?_
  rotate_left
  · intro w'
    go_simp
    with_reducible rfl
  rotate_left
  · simp only [Act.put, List.setIfInBounds_toArray, List.set_cons_zero, List.set_cons_succ, i64_w, i32_w]
    rfl
  refine take_ (i := 2) (N := some 21) (v := ?_) (a' := ?_) #[true, true, true, false, false, false, false] rfl rfl (take_ofW HT_.out HW_.out (by kernel_rfl)) (fun _ _ _ h => h) (Or.inl ⟨by rfl, ?_⟩) hHeld ?_ ?_
  rotate_left
  · rintro w' h1_
    obtain ⟨_, _⟩ := Mod.cells h1_
    go_simp
    with_reducible rfl
  rotate_left
  · simp only [Act.put, List.setIfInBounds_toArray, List.set_cons_zero, List.set_cons_succ, i64_w, i32_w]
    rfl
  refine pure_ (i := 4) (N := some 23) (v := ?_) (a' := ?_) #[true, true, true, false, true, false, false] rfl rfl (any_of HT_.out (by kernel_rfl)) (fun _ _ _ h => h) (Or.inl ⟨by rfl, ?_⟩) ?_ ?_
  rotate_left
  · intro w'
    go_simp
    with_reducible rfl
  rotate_left
  · simp only [Act.put, List.setIfInBounds_toArray, List.set_cons_zero, List.set_cons_succ, i64_w, i32_w]
    rfl
  refine take_ (i := 5) (N := some 24) (v := ?_) (a' := ?_) #[true, true, true, false, true, true, false] rfl rfl (take_ofW HT_.out HW_.out (by kernel_rfl)) (fun _ _ _ h => h) (Or.inl ⟨by rfl, ?_⟩) hHeld ?_ ?_
  rotate_left
  · rintro w' h1_
    obtain ⟨_, _⟩ := Mod.cells h1_
    go_simp
    with_reducible rfl
  rotate_left
  · simp only [Act.put, List.setIfInBounds_toArray, List.set_cons_zero, List.set_cons_succ, i64_w, i32_w]
    rfl
  refine one_ (i := 3) (N := some 22) #[true, true, true, true, true, true, false] rfl rfl (one_of HT_.out (by kernel_rfl)) (by decide) (fun K hK => ?_)
  refine goes_ Try.func27 (by kernel_rfl) rfl #[.pointer (some ⟨g, 0, none⟩), .string m] (by rfl) rfl rfl (by (try simp only [List.map_toArray, List.map_cons, List.map_nil]); first | done | rfl) ?_
  refine (count_ok g b l m _ (unhide H1) (unhide HL)).mono ?_
  rintro e w1 ⟨rfl, hb1⟩
  refine ⟨_, rfl, ?_⟩
  have H2 := hide ((unhide H1).below hb1)
  have M2 := hide (blk_below (unhide M1) hb1)
  have B2 := hide (below_step (unhide B1) hb1)
  clear hb1
  clear hHeld
  refine hK.out _ _ (unhide M2) (fun hHeld => ?_)
  clear hK K
  refine norm_ (a' := ?_) ?_ ?_
  rotate_left
  · show Act.put _ (some 22) _ = _
    simp only [Act.put, List.setIfInBounds_toArray, List.set_cons_zero, List.set_cons_succ, i64_w, i32_w]
    rfl
  refine pure_ (i := 6) (N := some 25) (v := ?_) (a' := ?_) #[true, true, true, true, true, true, true] rfl rfl (any_of HT_.out (by kernel_rfl)) (fun _ _ _ h => h) (Or.inl ⟨by rfl, ?_⟩) ?_ ?_
  rotate_left
  · intro w'
    go_simp
    with_reducible rfl
  rotate_left
  · simp only [Act.put, List.setIfInBounds_toArray, List.set_cons_zero, List.set_cons_succ, i64_w, i32_w]
    rfl
  refine done_ (done_of HT_.out (by kernel_rfl)) ?_
  clear HT_ HW_ hHeld
  go_wp2
  go_ret
  exact ⟨rfl, unhide H2, unhide B2⟩
set_option maxRecDepth 100000 in
set_option maxHeartbeats 1000000 in
theorem enter_put (g b base : Nat) (l : List (Int × ByteArray)) (k : Int) (m : ByteArray) (x1 x2 x4 x5 : Value) (c : Int) (w : World) (h : Slots w g b l) (hk : (Lit.int .i64 k).wf = true) (hl : l.length ≤ 1000) (ha : at_ l k = false) (hc : ¬ c ≤ (cnt_ l m : Int)) (hm : m.size ≤ maxLen) (hb : base ≤ b) (hbw : base ≤ w.heap.size) :
    Calls Try.prog 26 #[.pointer (some ⟨g, 0, none⟩), .int .i64 k, .agg #[.string m, x1, x2, .int .i64 c, x4, x5]] w fun e w' => e = .returned (.int .i64 0) ∧ Slots w' g b (l ++ [(k, m)]) ∧ Below base w w' ∧ KeepBut w w' b none := by
  have hu77 := Try.underlying77
  have hu49 := Try.underlying49
  have h1 := h.alloc (.cells #[.string m, x1, x2, .int .i64 c, x4, x5] 49)
  obtain ⟨c1, c2, c3⟩ := h1.cell
  have hlook := h1.look k hk
  rw [ha] at hlook
  have H1 := hide h1
  have M1 : Hid (Mod (w.alloc (.cells #[.string m, x1, x2, .int .i64 c, x4, x5] 49)) w.heap.size m x1 x2 c x4 x5) := blk_new _ _
  have B1 := hide (below_alloc (Below.refl w.heap.size w) (.cells #[.string m, x1, x2, .int .i64 c, x4, x5] 49))
  have HL := hide hl
  clear h h1
  go_enter Try.func26, Try.ntmps26
  go_wp2
  clear c1 c2 c3 hlook
  replace H1 : Hid (Slots (w.alloc (.cells #[.string m, x1, x2, .int .i64 c, x4, x5] 49)).drew g b l) := unhide H1
  replace M1 : Hid (Mod (w.alloc (.cells #[.string m, x1, x2, .int .i64 c, x4, x5] 49)).drew w.heap.size m x1 x2 c x4 x5) := unhide M1
  replace B1 := hide (below_drew1 (unhide B1))
  refine start_ (n := 7) (S := fun w' => Mod w' w.heap.size m x1 x2 c x4 x5) (ds := []) #[false, false, false, false, false, false, false] (by kernel_rfl) rfl rfl (unhide M1) (fun hHeld => ?_)
  refine with_tabW tabT26_4 bitsT26_4 (fun HT_ HW_ => ?_)
  refine pure_ (i := 0) (N := some 19) (v := ?_) (a' := ?_) #[true, false, false, false, false, false, false] rfl rfl (any_of HT_.out (by kernel_rfl)) (fun _ _ _ h => h) (Or.inl ⟨by rfl, ?_⟩) ?_ ?_
  rotate_left
  · intro w'
    go_simp
    with_reducible rfl
  rotate_left
  · simp only [Act.put, List.setIfInBounds_toArray, List.set_cons_zero, List.set_cons_succ, i64_w, i32_w]
    rfl
  refine pure_ (i := 1) (N := some 20) (v := ?_) (a' := ?_) #[true, true, false, false, false, false, false] rfl rfl (any_of HT_.out (by kernel_rfl)) (fun _ _ _ h => h) (Or.inl ⟨by rfl, ?_⟩) ?_ ?_
  rotate_left
  · intro w'
    go_simp
    with_reducible rfl
  rotate_left
  · simp only [Act.put, List.setIfInBounds_toArray, List.set_cons_zero, List.set_cons_succ, i64_w, i32_w]
    rfl
  refine take_ (i := 2) (N := some 21) (v := ?_) (a' := ?_) #[true, true, true, false, false, false, false] rfl rfl (take_ofW HT_.out HW_.out (by kernel_rfl)) (fun _ _ _ h => h) (Or.inl ⟨by rfl, ?_⟩) hHeld ?_ ?_
  rotate_left
  · rintro w' h1_
    obtain ⟨_, _⟩ := Mod.cells h1_
    go_simp
    with_reducible rfl
  rotate_left
  · simp only [Act.put, List.setIfInBounds_toArray, List.set_cons_zero, List.set_cons_succ, i64_w, i32_w]
    rfl
  refine pure_ (i := 4) (N := some 23) (v := ?_) (a' := ?_) #[true, true, true, false, true, false, false] rfl rfl (any_of HT_.out (by kernel_rfl)) (fun _ _ _ h => h) (Or.inl ⟨by rfl, ?_⟩) ?_ ?_
  rotate_left
  · intro w'
    go_simp
    with_reducible rfl
  rotate_left
  · simp only [Act.put, List.setIfInBounds_toArray, List.set_cons_zero, List.set_cons_succ, i64_w, i32_w]
    rfl
  refine take_ (i := 5) (N := some 24) (v := ?_) (a' := ?_) #[true, true, true, false, true, true, false] rfl rfl (take_ofW HT_.out HW_.out (by kernel_rfl)) (fun _ _ _ h => h) (Or.inl ⟨by rfl, ?_⟩) hHeld ?_ ?_
  rotate_left
  · rintro w' h1_
    obtain ⟨_, _⟩ := Mod.cells h1_
    go_simp
    with_reducible rfl
  rotate_left
  · simp only [Act.put, List.setIfInBounds_toArray, List.set_cons_zero, List.set_cons_succ, i64_w, i32_w]
    rfl
  refine one_ (i := 3) (N := some 22) #[true, true, true, true, true, true, false] rfl rfl (one_of HT_.out (by kernel_rfl)) (by decide) (fun K hK => ?_)
  refine goes_ Try.func27 (by kernel_rfl) rfl #[.pointer (some ⟨g, 0, none⟩), .string m] (by rfl) rfl rfl (by (try simp only [List.map_toArray, List.map_cons, List.map_nil]); first | done | rfl) ?_
  refine (count_ok g b l m _ (unhide H1) (unhide HL)).mono ?_
  rintro e w1 ⟨rfl, hb1⟩
  refine ⟨_, rfl, ?_⟩
  have H2 := hide ((unhide H1).below hb1)
  have M2 := hide (blk_below (unhide M1) hb1)
  have B2 := hide (below_step (unhide B1) hb1)
  clear hb1
  clear hHeld
  refine hK.out _ _ (unhide M2) (fun hHeld => ?_)
  clear hK K
  refine norm_ (a' := ?_) ?_ ?_
  rotate_left
  · show Act.put _ (some 22) _ = _
    simp only [Act.put, List.setIfInBounds_toArray, List.set_cons_zero, List.set_cons_succ, i64_w, i32_w]
    rfl
  refine pure_ (i := 6) (N := some 25) (v := ?_) (a' := ?_) #[true, true, true, true, true, true, true] rfl rfl (any_of HT_.out (by kernel_rfl)) (fun _ _ _ h => h) (Or.inl ⟨by rfl, ?_⟩) ?_ ?_
  rotate_left
  · intro w'
    go_simp
    with_reducible rfl
  rotate_left
  · simp only [Act.put, List.setIfInBounds_toArray, List.set_cons_zero, List.set_cons_succ, i64_w, i32_w]
    rfl
  refine done_ (done_of HT_.out (by kernel_rfl)) ?_
  clear HT_ HW_ hHeld
  go_wp2
  replace H2 : Hid (Slots w1.drew g b l) := unhide H2
  replace M2 : Hid (Mod w1.drew w.heap.size m x1 x2 c x4 x5) := unhide M2
  replace B2 := hide (below_drew1 (unhide B2))
  obtain ⟨w2, hst, hs2, ht⟩ := (unhide H2).store_ k m hk hm (by unfold maxLen; have := unhide HL; omega) ha
  have H3 := hide hs2
  have HT := hide ht
  have HST := hide hst
  clear hs2 ht hst
  refine start_ (n := 8) (S := fun w' => Mod w' w.heap.size m x1 x2 c x4 x5 ∧ Slots w' g b l) (ds := [7]) #[false, false, false, false, false, false, false, false] (by kernel_rfl) rfl rfl ⟨unhide M2, unhide H2⟩ (fun hHeld => ?_)
  refine with_tabW tabT26_6 bitsT26_6 (fun HT_ HW_ => ?_)
  refine pure_ (i := 0) (N := some 26) (v := ?_) (a' := ?_) #[true, false, false, false, false, false, false, false] rfl rfl (any_of HT_.out (by kernel_rfl)) (fun _ _ _ h => h) (Or.inl ⟨by rfl, ?_⟩) ?_ ?_
  rotate_left
  · intro w'
    go_simp
    with_reducible rfl
  rotate_left
  · simp only [Act.put, List.setIfInBounds_toArray, List.set_cons_zero, List.set_cons_succ, i64_w, i32_w]
    rfl
  refine pure_ (i := 1) (N := some 27) (v := ?_) (a' := ?_) #[true, true, false, false, false, false, false, false] rfl rfl (any_of HT_.out (by kernel_rfl)) (fun _ _ _ h => h) (Or.inl ⟨by rfl, ?_⟩) ?_ ?_
  rotate_left
  · intro w'
    go_simp
    with_reducible rfl
  rotate_left
  · simp only [Act.put, List.setIfInBounds_toArray, List.set_cons_zero, List.set_cons_succ, i64_w, i32_w]
    rfl
  refine pure_ (i := 2) (N := some 28) (v := ?_) (a' := ?_) #[true, true, true, false, false, false, false, false] rfl rfl (any_of HT_.out (by kernel_rfl)) (fun _ _ _ h => h) (Or.inl ⟨by rfl, ?_⟩) ?_ ?_
  rotate_left
  · intro w'
    go_simp
    with_reducible rfl
  rotate_left
  · simp only [Act.put, List.setIfInBounds_toArray, List.set_cons_zero, List.set_cons_succ, i64_w, i32_w]
    rfl
  refine take_ (i := 3) (N := some 29) (v := ?_) (a' := ?_) #[true, true, true, true, false, false, false, false] rfl rfl (take_ofW HT_.out HW_.out (by kernel_rfl)) (fun _ _ _ h => h) (Or.inl ⟨by rfl, ?_⟩) hHeld ?_ ?_
  rotate_left
  · rintro w' ⟨h1_, h2_⟩
    obtain ⟨_, _⟩ := Mod.cells h1_
    obtain ⟨_, _, _⟩ := h2_.cell
    go_simp
    with_reducible rfl
  rotate_left
  · simp only [Act.put, List.setIfInBounds_toArray, List.set_cons_zero, List.set_cons_succ, i64_w, i32_w]
    rfl
  refine pure_ (i := 4) (N := some 30) (v := ?_) (a' := ?_) #[true, true, true, true, true, false, false, false] rfl rfl (any_of HT_.out (by kernel_rfl)) (fun _ _ _ h => h) (Or.inl ⟨by rfl, ?_⟩) ?_ ?_
  rotate_left
  · intro w'
    go_simp
    with_reducible rfl
  rotate_left
  · simp only [Act.put, List.setIfInBounds_toArray, List.set_cons_zero, List.set_cons_succ, i64_w, i32_w]
    rfl
  refine pure_ (i := 5) (N := some 31) (v := ?_) (a' := ?_) #[true, true, true, true, true, true, false, false] rfl rfl (any_of HT_.out (by kernel_rfl)) (fun _ _ _ h => h) (Or.inl ⟨by rfl, ?_⟩) ?_ ?_
  rotate_left
  · intro w'
    go_simp
    with_reducible rfl
  rotate_left
  · simp only [Act.put, List.setIfInBounds_toArray, List.set_cons_zero, List.set_cons_succ, i64_w, i32_w]
    rfl
  refine take_ (i := 6) (N := some 32) (v := ?_) (a' := ?_) #[true, true, true, true, true, true, true, false] rfl rfl (take_ofW HT_.out HW_.out (by kernel_rfl)) (fun _ _ _ h => h) (Or.inl ⟨by rfl, ?_⟩) hHeld ?_ ?_
  rotate_left
  · rintro w' ⟨h1_, h2_⟩
    obtain ⟨_, _⟩ := Mod.cells h1_
    obtain ⟨_, _, _⟩ := h2_.cell
    go_simp
    with_reducible rfl
  rotate_left
  · simp only [Act.put, List.setIfInBounds_toArray, List.set_cons_zero, List.set_cons_succ, i64_w, i32_w]
    rfl
  refine last_ (i := 7) (N := none) #[true, true, true, true, true, true, true, true] rfl rfl (one_of HT_.out (by kernel_rfl)) (by decide) (fun K hK => ?_)
  have hst := unhide HST
  refine skip_ (w1 := w2) (by rfl) rfl ?hrun ?_
  case hrun =>
    go_simp
  refine hK.out _ _ ?_
  clear hst
  clear hK K
  refine done_ (done_of HT_.out (by kernel_rfl)) ?_
  clear HT_ HW_; (try clear hHeld)
  go_wp2
  go_ret
  refine ⟨rfl, unhide H3, ((unhide B2).mono (by omega)).grown (unhide HT).grown (by have := (unhide B2).size; omega) (fun j hj => by cases hj; exact hb), ?_⟩
  refine ⟨Nat.le_trans (unhide B2).size (unhide HT).grown.size, fun i hi hn _ => ((unhide HT).grown.block i (Nat.lt_of_lt_of_le hi (unhide B2).size) (fun e => hn (Option.some.inj e))).trans ((unhide B2).block i hi)⟩
/-- Enter. -/
theorem enter_ok (g b base : Nat) (l : List (Int × ByteArray)) (k : Int) (m : ByteArray) (x1 x2 x4 x5 : Value) (c : Int) (w : World) (h : Slots w g b l) (hk : (Lit.int .i64 k).wf = true) (hl : l.length ≤ 1000) (hm : m.size ≤ maxLen) (hb : base ≤ b) :
    Calls Try.prog 26 #[.pointer (some ⟨g, 0, none⟩), .int .i64 k, .agg #[.string m, x1, x2, .int .i64 c, x4, x5]] w fun e w' => e = .returned (.int .i64 (eres l k m c)) ∧ Slots w' g b (eput l k m c) ∧ Below base w w' ∧ KeepBut w w' b none := by
  have hbw : base ≤ w.heap.size := Nat.le_of_lt (Nat.lt_of_le_of_lt hb h.lt)
  unfold eres eput
  cases ha : at_ l k
  · by_cases hc : c ≤ (cnt_ l m : Int)
    · refine (enter_full g b l k m x1 x2 x4 x5 c w h hk hl ha hc).mono ?_
      rintro e w' ⟨rfl, h1, h2⟩
      exact ⟨by simp [hc], by simpa [hc] using h1, h2.mono hbw, KeepBut.of_below h2 _ _⟩
    · refine (enter_put g b base l k m x1 x2 x4 x5 c w h hk hl ha hc hm hb hbw).mono ?_
      rintro e w' ⟨rfl, h1, h2, h3⟩
      exact ⟨by simp [hc], by simpa [hc] using h1, h2, h3⟩
  · refine (enter_twice g b l k m x1 x2 x4 x5 c w h hk ha).mono ?_
    rintro e w' ⟨rfl, h1, h2⟩
    exact ⟨by simp, by simpa using h1, h2.mono hbw, KeepBut.of_below h2 _ _⟩
end Go.Proofs.Ytjdkeicjhmdcfaa.Sl
