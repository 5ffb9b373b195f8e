/- Texts of the proof, merged: Vi4 Lk1 Lk2 Pl2 Pl3 Rq1 Lv1 Lv2. -/
import Derived.Test.YtgoephcembgmcaaGreatDoorZ04
import Derived.Deep.CutRange
set_option linter.unusedSimpArgs false
set_option linter.unusedVariables false
namespace Go.Proofs.YtgoephcembgmcaaGreatDoor.G
open Go.RowKit Go.Maps Go.Proofs.YtgoephcembgmcaaGreatDoorW.PrintWords Go.Proofs.YtgoephcembgmcaaGreatDoorW.PrintLast
/-! The store: New, Pin, Unpin. -/
theorem made_view (w : World) (base : Nat) (hb : base ≤ w.heap.size) :
    ViewAt ((((w.alloc (.map #[] 0)).alloc (.cells #[.int .i64 0, .map (some w.heap.size)] 83)).alloc (.map #[] 0)).alloc (.cells #[.pointer (some ⟨w.heap.size + 1, 0, none⟩), .map (some (w.heap.size + 2)), .int .i64 0] 54)) base (w.heap.size + 3) (w.heap.size + 1) w.heap.size (w.heap.size + 2) 0 0 0 0 (fun _ => none) (fun _ => []) (fun _ => 0) := by
  obtain ⟨w1, h1⟩ : ∃ z, z = w.alloc (.map #[] 0) := ⟨_, rfl⟩
  have s1 : w1.heap.size = w.heap.size + 1 := by rw [h1, World.size_alloc]
  have m1 : MF CS w1 w.heap.size 0 (fun _ => none) := by rw [h1]; exact MF.made w
  obtain ⟨w2, h2⟩ : ∃ z, z = w1.alloc (.cells #[.int .i64 0, .map (some w.heap.size)] 83) := ⟨_, rfl⟩
  have s2 : w2.heap.size = w.heap.size + 2 := by rw [h2, World.size_alloc, s1]
  have b2 : Below w1.heap.size w1 w2 := by rw [h2]; exact below_alloc (Below.refl _ _) _
  have t2 : TC w2 (w.heap.size + 1) 0 w.heap.size := by
    have := blk_new w1 (.cells #[.int .i64 0, .map (some w.heap.size)] 83)
    rw [← h2, s1] at this
    exact this
  obtain ⟨w3, h3⟩ : ∃ z, z = w2.alloc (.map #[] 0) := ⟨_, rfl⟩
  have s3 : w3.heap.size = w.heap.size + 3 := by rw [h3, World.size_alloc, s2]
  have b3 : Below w2.heap.size w2 w3 := by rw [h3]; exact below_alloc (Below.refl _ _) _
  have m3 : MF CI w3 (w.heap.size + 2) 0 (fun _ => none) := by
    have := MF.made (C := CI) w2
    rw [← h3, s2] at this
    exact this
  obtain ⟨w4, h4⟩ : ∃ z, z = w3.alloc (.cells #[.pointer (some ⟨w.heap.size + 1, 0, none⟩), .map (some (w.heap.size + 2)), .int .i64 0] 54) := ⟨_, rfl⟩
  have b4 : Below w3.heap.size w3 w4 := by rw [h4]; exact below_alloc (Below.refl _ _) _
  have c4 : SC w4 (w.heap.size + 3) (w.heap.size + 1) (w.heap.size + 2) 0 := by
    have := blk_new w3 (.cells #[.pointer (some ⟨w.heap.size + 1, 0, none⟩), .map (some (w.heap.size + 2)), .int .i64 0] 54)
    rw [← h4, s3] at this
    exact this
  rw [← h1, ← h2, ← h3, ← h4]
  refine ⟨c4, ⟨(b4.block _ (by omega)).trans ((b3.block _ (by omega)).trans t2), ⟨((m1.below b2).below b3).below b4, fun p _ => rfl, fun p v h => by (cases h), fun p q v u _ h => by (cases h)⟩, by omega, hb⟩, ?_, by omega, by omega, by omega⟩
  have e : pinF (fun _ => 0) = fun _ => none := rfl
  rw [e]
  exact m3.below b4
set_option maxRecDepth 100000 in
theorem vnew_ok (w : World) : Calls Tryz.prog 5 #[] w fun e w' => e = .returned (.pointer (some ⟨w.heap.size + 3, 0, none⟩)) ∧ w' = (((w.alloc (.map #[] 0)).alloc (.cells #[.int .i64 0, .map (some w.heap.size)] 83)).alloc (.map #[] 0)).alloc (.cells #[.pointer (some ⟨w.heap.size + 1, 0, none⟩), .map (some (w.heap.size + 2)), .int .i64 0] 54) := by
  have hu54 := Tryz.underlying54
  have hmm := @run_makeMap Tryz.prog
  go_enter Tryz.func5, Tryz.ntmps5
  go_wp2_with fail
  refine (tnew_ok w).mono ?_
  rintro e w1 ⟨rfl, rfl⟩
  go_wp2_with fail
  go_ret
  exact ⟨rfl, rfl⟩
section
variable {w : World} {base S T b pb n np now all : Nat} {F : ByteArray → Option Value} {g : ByteArray → List St} {P : Int → Nat}
theorem ViewAt.setAll (h : ViewAt w base S T b pb n np now all F g P) (all1 : Nat) : ViewAt (w.setCell ⟨S, 2, none⟩ (.int .i64 (all1 : Int))) base S T b pb n np now all1 F g P := by
  have hS := h.s
  unfold SC at hS
  obtain ⟨es, cl, hmp⟩ := h.p.isMap
  have hfr : Fr base [54] w (w.setCell ⟨S, 2, none⟩ (.int .i64 (all1 : Int))) := Fr.set (cells := _) (fz := (0, 0)) (t := 54) _ h.hS hS (by simp)
  refine ⟨?_, h.t.fr hfr (by decide) (by decide) (by decide), h.p.kept (heap_setCell_other w ⟨S, 2, none⟩ pb _ (fun e => ?_)), h.hS, h.hp, h.ne⟩
  · have h2 := heap_setCell_same w S 2 #[.pointer (some ⟨T, 0, none⟩), .map (some pb), .int .i64 (all : Int)] 54 (.int .i64 (all1 : Int)) hS
    exact h2
  · have e : pb = S := e
    rw [e, hS] at hmp
    cases hmp
/-- The map of pins is written. -/
theorem ViewAt.repin {w1 : World} (h : ViewAt w base S T b pb n np now all F g P) (hg : w.grownBy w1 (some pb)) {np1 : Nat} {P1 : Int → Nat} (hm : MF CI w1 pb np1 (pinF P1)) : ViewAt w1 base S T b pb n np1 now all F g P1 := by
  obtain ⟨es, cl, hmp⟩ := h.p.isMap
  obtain ⟨es2, cl2, hmb⟩ := h.t.r.1.isMap
  have hno : ∀ k o, w.heap[k]? = some o → (∀ es c, o ≠ Obj.map es c) → some k ≠ some pb := fun k o ho hn e => by
    rw [Option.some.inj e, hmp] at ho
    exact hn _ _ (Option.some.inj ho).symm
  refine ⟨(hg.block S h.s.lt (hno S _ h.s (fun _ _ e => by cases e))).trans h.s, ⟨(hg.block T h.t.c.lt (hno T _ h.t.c (fun _ _ e => by cases e))).trans h.t.c, h.t.r.move (hg.block b h.t.r.1.lt (fun e => h.ne (Option.some.inj e).symm)) (fun k _ hlt hq => ?_), h.t.hT, h.t.hb⟩, hm, h.hS, h.hp, h.ne⟩
  obtain ⟨cells, q, _, hc⟩ := hq
  exact hg.block k hlt (hno k _ hc (fun _ _ e => by cases e))
end
structure FP (w : World) (S T pb : Nat) (now : Int) (x : Int) : Prop where
  s0 : w.cell? ⟨S, 0, none⟩ = some (.pointer (some ⟨T, 0, none⟩))
  s1 : w.cell? ⟨S, 1, none⟩ = some (.map (some pb))
  lk : (Instr.lookup 52 (.map (some pb)) (.int .i64 now) false).run Tryz.prog w = .ok (.int .i64 x) w
def PinSays (w : World) (base S T b pb n np now all : Nat) (F : ByteArray → Option Value) (g : ByteArray → List St) (P : Int → Nat) (e : Ending) (w' : World) : Prop :=
  e = .returned (.tuple #[.int .i64 (now : Int), .int .i64 0]) ∧ Fm base [54] [pb] w w' ∧ ViewAt w' base S T b pb n (np + 1) now (all + 1) F g (updP P (now : Int) (P (now : Int) + 1))
def T8_4 : Bool × List (List Nat × List Nat) := (true, [([], []), ([0], [0]), ([1], [1]), ([2], [2]), ([], []), ([4], [4]), ([5], [5]), ([6], [6]), ([7], [7]), ([3, 8], [3, 8]), ([9], [9]), ([3, 8, 10, 8, 0, 1, 2, 3, 4, 5, 6, 7, 8, 9, 10], [3, 8, 10])])
def BT8_4 : List Nat := [0, 1, 3, 7, 0, 16, 48, 112, 240, 511, 1023, 2047]
theorem tabT8_4 : rtab .any (opsOf Tryz.f8 4) = T8_4 := by kernel_rfl
theorem bitsT8_4 : waitsOk T8_4.2 BT8_4 = true := by kernel_rfl
set_option maxHeartbeats 2000000 in
set_option maxRecDepth 100000 in
theorem pin_ok (base S T b pb n np now all : Nat) (F : ByteArray → Option Value) (g : ByteArray → List St) (P : Int → Nat) (w : World) (h : ViewAt w base S T b pb n np now all F g P) (hbw : base ≤ w.heap.size) (hnp : np ≤ 500) (hnow : now ≤ 500) (hall : all < 64) (hP : ∀ v, P v ≤ 1000) :
    Calls Tryz.prog 8 #[.pointer (some ⟨S, 0, none⟩)] w (PinSays w base S T b pb n np now all F g P) := by
  obtain ⟨c0, c1, c2⟩ := h.s.cells
  have z2 : w.frozen? ⟨S, 2, none⟩ = false := frozen_of_row w S 2 _ 54 h.s
  have d0 : ((all : Int) == 64) = false := by rw [beq_eq_false_iff_ne]; omega
  have hw0 : wrap64 ((all : Int) + 1) = (all : Int) + 1 := by unfold wrap64; omega
  have hu54 := Tryz.underlying54
  have hv1 : ViewAt (w.setCell ⟨S, 2, none⟩ (.int .i64 ((all : Int) + 1))) base S T b pb n np now (all + 1) F g P := h.setAll (all + 1)
  have hf1 : Fm base [54] [pb] w (w.setCell ⟨S, 2, none⟩ (.int .i64 ((all : Int) + 1))) := Fm.set (cells := _) (fz := (0, 0)) (t := 54) _ h.hS h.s (by simp)
  have hpn := hP (now : Int)
  obtain ⟨x, hx⟩ : ∃ z, z = P (now : Int) := ⟨_, rfl⟩
  have HV1 := hide hv1
  have HF1 := hide hf1
  have HBW := hide hbw
  have HNP := hide hnp
  have HNOW := hide hnow
  have HX := hide hx
  have HPN := hide hpn
  clear h hbw hnp hnow hall hP hv1 hf1 hx hpn
  go_enter Tryz.func8, Tryz.ntmps8
  go_wp2_with fail
  generalize w.setCell ⟨S, 2, none⟩ (.int .i64 ((all : Int) + 1)) = w1 at HV1 HF1 ⊢
  clear c0 c1 c2 z2 d0 hw0
  have hlk := (unhide HV1).pin (now : Int) (by have := unhide HNOW; omega)
  rw [← unhide HX] at hlk
  obtain ⟨s0, s1, _⟩ := (unhide HV1).s.cells
  have HST : Hid (FP w1.drew S T pb (now : Int) (x : Int)) := by
    have hv := (unhide HV1).below (below_drew (Below.refl w1.heap.size w1))
    have h2 := hv.pin (now : Int) (by have := unhide HNOW; omega)
    rw [← unhide HX] at h2
    exact ⟨hv.s.cells.1, hv.s.cells.2.1, h2⟩
  have hmf := (unhide HV1).p
  obtain ⟨w7, hr7, hmf7, ht7⟩ := (hmf.below (below_drew (Below.refl w1.heap.size w1))).put (t := 52) Tryz.underlying52 (by have := unhide HNP; simp only [maxLen]; omega) (x := (now : Int)) (show (Lit.int .i64 (now : Int)).wf = true from WalkArith.wf_i64 (by have := unhide HNOW; omega)) (.int .i64 (wrap64 ((x : Int) + 1)))
  replace hr7 : (Instr.mapUpdate 52 (.map (some pb)) (.int .i64 (now : Int)) (.int .i64 (wrap64 ((x : Int) + 1)))).run Tryz.prog w1.drew = .ok () w7 := hr7
  have hwx : wrap64 ((x : Int) + 1) = ((P (now : Int) + 1 : Nat) : Int) := by have := unhide HPN; rw [← unhide HX] at this ⊢; unfold wrap64; omega
  rw [hwx, pinF_put _ _ _ (by omega)] at hmf7
  have hv7 := ((unhide HV1).below (below_drew (Below.refl w1.heap.size w1))).repin ht7.grown hmf7
  have HF7 : Hid (Fm base [54] [pb] w w7) := (unhide HF1).trans ((Fm.of_below (below_drew (Below.refl w1.heap.size w1)) (Nat.le_trans (unhide HBW) (unhide HF1).b.size)).trans (Fm.grown ht7.grown (Nat.le_trans (unhide HBW) (unhide HF1).b.size) (fun k hk => by
    cases hk
    exact ⟨(unhide HV1).hp, .inl (by simp)⟩)))
  have HR7 := hide hr7
  have HV7 := hide hv7
  have HNO := hide (now_ok base T b n now F g w1.drew ((unhide HV1).t.below (below_drew (Below.refl w1.heap.size w1))))
  clear hlk s0 s1 hmf hr7 hmf7 ht7 hwx hv7
  refine start_ (n := 12) (S := fun w' => FP w' S T pb (now : Int) (x : Int)) (ds := [11]) #[false, false, false, false, false, false, false, false, false, false, false, false] (by kernel_rfl) rfl rfl (unhide HST) (fun hHeld => ?_)
  refine with_tabW tabT8_4 bitsT8_4 (fun HT_ HW_ => ?_)
  refine pure_ (i := 0) (N := some 16) (v := ?_) (a' := ?_) #[true, false, false, false, false, false, false, false, false, false, false, false] rfl rfl (any_of HT_.out (by kernel_rfl)) (fun _ _ _ h => h) (Or.inl ⟨by rfl, ?_⟩) ?_ ?_
  rotate_left
  · intro w'
    go_simp
    with_reducible rfl
  rotate_left
  · simp only [Act.put, List.setIfInBounds_toArray, List.set_cons_zero, List.set_cons_succ, i64_w, i32_w]
    rfl
  refine pure_ (i := 1) (N := some 17) (v := ?_) (a' := ?_) #[true, true, false, false, false, false, false, false, false, false, false, false] rfl rfl (any_of HT_.out (by kernel_rfl)) (fun _ _ _ h => h) (Or.inl ⟨by rfl, ?_⟩) ?_ ?_
  rotate_left
  · intro w'
    go_simp
    with_reducible rfl
  rotate_left
  · simp only [Act.put, List.setIfInBounds_toArray, List.set_cons_zero, List.set_cons_succ, i64_w, i32_w]
    rfl
  refine pure_ (i := 2) (N := some 18) (v := ?_) (a' := ?_) #[true, true, true, false, false, false, false, false, false, false, false, false] rfl rfl (any_of HT_.out (by kernel_rfl)) (fun _ _ _ h => h) (Or.inl ⟨by rfl, ?_⟩) ?_ ?_
  rotate_left
  · intro w'
    go_simp
    with_reducible rfl
  rotate_left
  · simp only [Act.put, List.setIfInBounds_toArray, List.set_cons_zero, List.set_cons_succ, i64_w, i32_w]
    rfl
  refine take_ (i := 3) (N := some 19) (v := ?_) (a' := ?_) #[true, true, true, true, false, false, false, false, false, false, false, false] rfl rfl (take_ofW HT_.out HW_.out (by kernel_rfl)) (fun _ _ _ h => h) (Or.inl ⟨by rfl, ?_⟩) hHeld ?_ ?_
  rotate_left
  · rintro w' h1_
    obtain ⟨s0_, s1_, lk_⟩ := h1_
    go_simp
    with_reducible rfl
  rotate_left
  · simp only [Act.put, List.setIfInBounds_toArray, List.set_cons_zero, List.set_cons_succ, i64_w, i32_w]
    rfl
  refine pure_ (i := 4) (N := some 20) (v := ?_) (a' := ?_) #[true, true, true, true, true, false, false, false, false, false, false, false] rfl rfl (any_of HT_.out (by kernel_rfl)) (fun _ _ _ h => h) (Or.inl ⟨by rfl, ?_⟩) ?_ ?_
  rotate_left
  · intro w'
    go_simp
    with_reducible rfl
  rotate_left
  · simp only [Act.put, List.setIfInBounds_toArray, List.set_cons_zero, List.set_cons_succ, i64_w, i32_w]
    rfl
  refine pure_ (i := 5) (N := some 21) (v := ?_) (a' := ?_) #[true, true, true, true, true, true, false, false, false, false, false, false] rfl rfl (any_of HT_.out (by kernel_rfl)) (fun _ _ _ h => h) (Or.inl ⟨by rfl, ?_⟩) ?_ ?_
  rotate_left
  · intro w'
    go_simp
    with_reducible rfl
  rotate_left
  · simp only [Act.put, List.setIfInBounds_toArray, List.set_cons_zero, List.set_cons_succ, i64_w, i32_w]
    rfl
  refine pure_ (i := 6) (N := some 22) (v := ?_) (a' := ?_) #[true, true, true, true, true, true, true, false, false, false, false, false] rfl rfl (any_of HT_.out (by kernel_rfl)) (fun _ _ _ h => h) (Or.inl ⟨by rfl, ?_⟩) ?_ ?_
  rotate_left
  · intro w'
    go_simp
    with_reducible rfl
  rotate_left
  · simp only [Act.put, List.setIfInBounds_toArray, List.set_cons_zero, List.set_cons_succ, i64_w, i32_w]
    rfl
  refine take_ (i := 7) (N := some 23) (v := ?_) (a' := ?_) #[true, true, true, true, true, true, true, true, false, false, false, false] rfl rfl (take_ofW HT_.out HW_.out (by kernel_rfl)) (fun _ _ _ h => h) (Or.inl ⟨by rfl, ?_⟩) hHeld ?_ ?_
  rotate_left
  · rintro w' h1_
    obtain ⟨s0_, s1_, lk_⟩ := h1_
    go_simp
    with_reducible rfl
  rotate_left
  · simp only [Act.put, List.setIfInBounds_toArray, List.set_cons_zero, List.set_cons_succ, i64_w, i32_w]
    rfl
  refine one_ (i := 8) (N := some 24) #[true, true, true, true, true, true, true, true, true, false, false, false] rfl rfl (one_of HT_.out (by kernel_rfl)) (by decide) (fun K hK => ?_)
  refine goes_ Tryz.func16 (by kernel_rfl) rfl #[.pointer (some ⟨T, 0, none⟩)] (by rfl) rfl rfl (by (try simp only [List.map_toArray, List.map_cons, List.map_nil]); first | done | rfl) ?_
  refine (unhide HNO).mono ?_
  rintro e w5 ⟨rfl, rfl⟩
  refine ⟨_, rfl, ?_⟩
  clear hHeld
  refine hK.out _ _ (unhide HST) (fun hHeld => ?_)
  clear hK K
  refine norm_ (a' := ?_) ?_ ?_
  rotate_left
  · show Act.put _ (some 24) _ = _
    simp only [Act.put, List.setIfInBounds_toArray, List.set_cons_zero, List.set_cons_succ, i64_w, i32_w]
    rfl
  refine take_ (i := 9) (N := some 25) (v := ?_) (a' := ?_) #[true, true, true, true, true, true, true, true, true, true, false, false] rfl rfl (take_ofW HT_.out HW_.out (by kernel_rfl)) (fun _ _ _ h => h) (Or.inl ⟨by rfl, ?_⟩) hHeld ?_ ?_
  rotate_left
  · rintro w' h1_
    obtain ⟨s0_, s1_, lk_⟩ := h1_
    go_simp
    with_reducible rfl
  rotate_left
  · simp only [Act.put, List.setIfInBounds_toArray, List.set_cons_zero, List.set_cons_succ, i64_w, i32_w]
    rfl
  refine pure_ (i := 10) (N := some 26) (v := ?_) (a' := ?_) #[true, true, true, true, true, true, true, true, true, true, true, false] rfl rfl (any_of HT_.out (by kernel_rfl)) (fun _ _ _ h => h) (Or.inl ⟨by rfl, ?_⟩) ?_ ?_
  rotate_left
  · intro w'
    go_simp
    with_reducible rfl
  rotate_left
  · simp only [Act.put, List.setIfInBounds_toArray, List.set_cons_zero, List.set_cons_succ, i64_w, i32_w]
    rfl
  refine last_ (i := 11) (N := none) #[true, true, true, true, true, true, true, true, true, true, true, true] rfl rfl (one_of HT_.out (by kernel_rfl)) (by decide) (fun K hK => ?_)
  refine skip_ (w1 := w7) (wanted_none rfl) rfl ?hrun ?_
  case hrun =>
    refine exec_update (m := .tmp 19) (x := .tmp 24) (v := .tmp 26) ?_ ?_ ?_ ?_ (unhide HR7)
    all_goals rfl
  refine hK.out _ _ ?_
  clear hK K
  refine done_ (done_of HT_.out (by kernel_rfl)) ?_
  clear HT_ HW_; (try clear hHeld)
  obtain ⟨s0, s1, _⟩ := (unhide HV7).s.cells
  have HNO7 := hide (now_ok base T b n now F g w7 (unhide HV7).t)
  clear HR7 HNO HST
  go_wp2_with fail
  refine (unhide HNO7).mono ?_
  rintro e w8 ⟨rfl, rfl⟩
  go_wp2_with fail
  go_ret2
  exact ⟨rfl, unhide HF7, unhide HV7⟩
def UnpinSays (w : World) (base S T b pb n np now all : Nat) (g : ByteArray → List St) (P : Int → Nat) (v : Int) (e : Ending) (w' : World) : Prop :=
  e = .returned (.int .i64 0) ∧ Fm base [54] [b, pb] w w' ∧ ∃ F' g', ViewAt w' base S T b pb n (np + 1) now (all - 1) F' g' (updP P v (P v - 1)) ∧ ((P v ≠ 1 ∧ g' = g) ∨ (P v = 1 ∧ ∃ ks, (∀ x, x ∈ ks ↔ updP P v 0 x ≠ 0) ∧ g' = fun p => kept (now : Int) ks (g p)))
set_option maxHeartbeats 4000000 in
set_option maxRecDepth 100000 in
theorem unpin_ok (base S T b pb n np now all : Nat) (F : ByteArray → Option Value) (g : ByteArray → List St) (P : Int → Nat) (v : Int) (w : World) (h : ViewAt w base S T b pb n np now all F g P) (hbw : base ≤ w.heap.size) (hn : n ≤ 1000) (hnp : np ≤ 500) (hg : ∀ p, (g p).length ≤ 500) (hnow : now ≤ 500) (hle : ∀ p, ∀ s ∈ g p, s.frm ≤ now) (hall : 1 ≤ all ∧ all ≤ 1000) (hP : P v ≤ 1000) (hP0 : P v ≠ 0) (hv : 0 ≤ v ∧ v ≤ 1000) :
    Calls Tryz.prog 15 #[.pointer (some ⟨S, 0, none⟩), .int .i64 v] w (UnpinSays w base S T b pb n np now all g P v) := by
  obtain ⟨c0, c1, c2⟩ := h.s.cells
  have z2 : w.frozen? ⟨S, 2, none⟩ = false := frozen_of_row w S 2 _ 54 h.s
  have hlk := h.pin v (by omega)
  obtain ⟨x, hx⟩ : ∃ z, z = P v := ⟨_, rfl⟩
  rw [← hx] at hlk
  have d0 : ((x : Int) == 0) = false := by rw [beq_eq_false_iff_ne]; omega
  obtain ⟨a1, ha1⟩ : ∃ z, all = z + 1 := ⟨all - 1, by omega⟩
  subst ha1
  have hw0 : wrap64 (a1 : Int) = (a1 : Int) := by unfold wrap64; omega
  have hu54 := Tryz.underlying54
  have hv1 : ViewAt (w.setCell ⟨S, 2, none⟩ (.int .i64 (a1 : Int))) base S T b pb n np now a1 F g P := h.setAll a1
  have hf1 : Fm base [54] [b, pb] w (w.setCell ⟨S, 2, none⟩ (.int .i64 (a1 : Int))) := Fm.set (cells := _) (fz := (0, 0)) (t := 54) _ h.hS h.s (by simp)
  have hlk1 := hv1.pin v (by omega)
  rw [← hx] at hlk1
  obtain ⟨s0, s1, _⟩ := hv1.s.cells
  obtain ⟨w2, hr2, hmf2, ht2⟩ := hv1.p.put (t := 52) Tryz.underlying52 (by simp only [maxLen]; omega) (x := v) (show (Lit.int .i64 v).wf = true from WalkArith.wf_i64 (by omega)) (.int .i64 ((x : Int) - 1))
  replace hr2 : (Instr.mapUpdate 52 (.map (some pb)) (.int .i64 v) (.int .i64 ((x : Int) - 1))).run Tryz.prog (w.setCell ⟨S, 2, none⟩ (.int .i64 (a1 : Int))) = .ok () w2 := hr2
  have hw1 : wrap64 ((x : Int) - 1) = (x : Int) - 1 := by unfold wrap64; omega
  have hf2 : Fm base [54] [b, pb] w w2 := hf1.trans (Fm.grown ht2.grown (Nat.le_trans hbw hf1.b.size) (fun k hk => by
    cases hk
    exact ⟨h.hp, .inl (by simp)⟩))
  have hsz : base ≤ w2.heap.size := Nat.le_trans hbw hf2.b.size
  have HV1 := hide hv1
  have HF2 := hide hf2
  have HT2 := hide ht2.grown
  have HM2 := hide hmf2
  have HX := hide hx
  have HPX := hide hP
  have HP0 := hide hP0
  have HSZ := hide hsz
  have HN := hide hn
  have HNP := hide hnp
  have HGL := hide hg
  have HNOW := hide hnow
  have HLE := hide hle
  have HVV := hide hv
  by_cases h1 : x = 1
  · -- the last look: the version goes
    have hv2 : ∀ w3, MF CI w3 pb (np + 1) (upd (upd (pinF P) v (some (.int .i64 ((x : Int) - 1)))) v none) → MF CI w3 pb (np + 1) (pinF (updP P v 0)) := fun w3 hm => by
      rw [upd_twice, pinF_del] at hm
      exact hm
    have hs2 : ∀ k o, (w.setCell ⟨S, 2, none⟩ (.int .i64 (a1 : Int))).heap[k]? = some o → (∀ es c, o ≠ Obj.map es c) → w2.heap[k]? = some o := fun k o ho hno => by
      obtain ⟨es, cl, hmp⟩ := hv1.p.isMap
      exact (ht2.grown.block k (Array.getElem?_eq_some_iff.1 ho).1 (fun e => by
        rw [Option.some.inj e, hmp] at ho
        exact hno _ _ (Option.some.inj ho).symm)).trans ho
    have hsc2 : SC w2 S T pb (a1 : Int) := hs2 S _ hv1.s (fun _ _ e => by cases e)
    obtain ⟨q0, q1, _⟩ := hsc2.cells
    have hlk2 := hmf2.look (t := 52) (e := 3) (z := .int .i64 0) Tryz.underlying52 (by kernel_rfl) (x := v) (show (Lit.int .i64 v).wf = true from WalkArith.wf_i64 (by omega))
    rw [upd_same] at hlk2
    replace hlk2 : (Instr.lookup 52 (.map (some pb)) (.int .i64 v) false).run Tryz.prog w2 = .ok (.int .i64 ((x : Int) - 1)) w2 := hlk2
    obtain ⟨w3, hr3, hmf3, ht3⟩ := hmf2.del (t := 52) (e := 3) Tryz.underlying52 (x := v) (show (Lit.int .i64 v).wf = true from WalkArith.wf_i64 (by omega)) 0
    replace hr3 : (Builtin.delete_ #[52, 3] 0 #[.map (some pb), .int .i64 v]).run Tryz.prog w2 = .ok (.tuple #[]) w3 := hr3
    have hg13 : (w.setCell ⟨S, 2, none⟩ (.int .i64 (a1 : Int))).grownBy w3 (some pb) := ht2.grown.trans ht3.grown
    have hv3 := hv1.repin hg13 (hv2 w3 hmf3)
    have hf3 : Fm base [54] [b, pb] w w3 := hf2.trans (Fm.grown ht3.grown hsz (fun k hk => by
      cases hk
      exact ⟨h.hp, .inl (by simp)⟩))
    have hti := tidy_ok base S T b pb n (np + 1) now a1 F g (updP P v 0) w3 hv3 (Nat.le_trans hbw hf3.b.size) hn (by omega) hg hnow hle
    have HTI := hide hti
    have HF3 := hide hf3
    have H1 := hide h1
    have d2 : (((x : Int) - 1) == 0) = true := by rw [beq_iff_eq]; omega
    clear h hbw hn hnp hg hnow hle hall hP hP0 hv hx hv1 hf1 ht2 hmf2 hf2 hsz h1 hv2 hs2 hsc2 hmf3 ht3 hg13 hv3 hf3 hti
    go_enter Tryz.func15, Tryz.ntmps15
    go_wp2_with fail
    refine (unhide HTI).mono ?_
    rintro e w4 ⟨rfl, hf4, F4, ks, hks, hv4⟩
    have HF4 := hide hf4
    have HKS := hide hks
    have HV4 := hide hv4
    clear hf4 hks hv4
    go_wp2_with fail
    go_ret
    have hv4 := unhide HV4
    have e1 : P v = 1 := (unhide HX).symm.trans (unhide H1)
    refine ⟨rfl, (unhide HF3).trans ((unhide HF4).more (by simp) (by simp)), F4, _, ?_, .inr ⟨e1, ks, unhide HKS, rfl⟩⟩
    rw [e1]
    exact hv4
  · have hne : P v - 1 ≠ 0 := by omega
    have hmf2' : MF CI w2 pb (np + 1) (pinF (updP P v (P v - 1))) := by
      rw [show ((x : Int) - 1) = ((P v - 1 : Nat) : Int) from by omega, pinF_put _ _ _ hne] at hmf2
      exact hmf2
    have hv2 := hv1.repin ht2.grown hmf2'
    have hlk2 := hv2.pin v (by omega)
    rw [updP_same] at hlk2
    have e2 : ((P v - 1 : Nat) : Int) = (x : Int) - 1 := by omega
    rw [e2] at hlk2
    obtain ⟨q0, q1, _⟩ := hv2.s.cells
    have d2 : (((x : Int) - 1) == 0) = false := by rw [beq_eq_false_iff_ne]; omega
    have HV2 := hide hv2
    have H1 : Hid (P v ≠ 1) := by show _ ≠ _; omega
    clear h hbw hn hnp hg hnow hle hall hP hP0 hv hx hv1 hf1 ht2 hmf2 hf2 hsz h1 hne hmf2' hv2 e2
    go_enter Tryz.func15, Tryz.ntmps15
    go_wp2_with fail
    go_ret
    exact ⟨rfl, unhide HF2, F, g, unhide HV2, .inl ⟨unhide H1, rfl⟩⟩
end Go.Proofs.YtgoephcembgmcaaGreatDoor.G
namespace Go.Proofs.YtgoephcembgmcaaGreatDoor.G
open Go.RowKit Go.Maps Go.Proofs.YtgoephcembgmcaaGreatDoorW.PrintWords Go.Proofs.YtgoephcembgmcaaGreatDoorW.PrintLast
/-! The law's own clone and like. -/
section
variable {κ κ' : Type} {C : KC κ} {C' : KC κ'} {w w1 : World} {b b' r n n' cnt : Nat} {F : κ → Option Value} {F' : κ' → Option Value} {vis : List κ}
theorem MG.other (hm : MG C w b r n F vis cnt) (h : MF C' w b' n' F') (hne : b' ≠ b) (hg : w.grownBy w1 (some b')) : MG C w1 b r n F vis cnt := by
  refine hm.kept (hg.block b hm.owns.lt (fun e => hne (Option.some.inj e).symm)) (hg.block r hm.iter.2 (fun e => ?_))
  obtain ⟨_, _, _, hi⟩ := hm.isIter
  obtain ⟨_, _, hb⟩ := h.isMap
  rw [Option.some.inj e, hb] at hi
  cases hi
theorem MF.iter (h : MF C' w b' n' F') (hm : MG C w b r n F vis cnt) (hg : w.grownBy w1 (some r)) : MF C' w1 b' n' F' :=
  h.kept (hg.block b' h.lt (fun e => by
    obtain ⟨_, _, _, hi⟩ := hm.isIter
    obtain ⟨_, _, hb⟩ := h.isMap
    rw [← Option.some.inj e, hb] at hi
    cases hi))
end
set_option maxHeartbeats 2000000 in
set_option maxRecDepth 100000 in
theorem mclone_ok (mb n : Nat) (W : ByteArray → Option Value) (w : World) (hm : MF CS w mb n W) (hn : n ≤ 1000) :
    Calls Tryz.prog 9 #[.map (some mb)] w fun e w' => e = .returned (.map (some w.heap.size)) ∧ MF CS w' w.heap.size n W ∧ Below w.heap.size w w' := by
  have hmm := @run_makeMap Tryz.prog
  have ha := below_alloc (Below.refl w.heap.size w) (.map #[] 0)
  have HMO := hide (MF.made (C := CS) w)
  have hmf := hm.below ha
  have HB1 := hide ha
  have HLT := hide hm.lt
  have HN := hide hn
  clear hm hn ha
  go_enter Tryz.func9, Tryz.ntmps9
  go_wp2_with (first
    | (at_range; refine range_w _ CS rfl _ 39 5 rfl Tryz.underlying39 mb n W rfl hmf ?_; intro w0 cnt0 hrg0 hg0 hs0)
    | go_in)
  (try go_frame)
  have HR0 := hide hrg0
  have hb0 : Below (w.alloc (.map #[] 0)).heap.size (w.alloc (.map #[] 0)) w0 := (Below.refl _ _).grown hg0 (by simp) (fun j hj => by cases hj)
  have B0 := hide (below_step (unhide HB1) hb0)
  have M0 := hide ((unhide HMO).below hb0)
  have e0 : (w.alloc (.map #[] 0)).heap.size = w.heap.size + 1 := by rw [World.size_alloc]
  clear hmm hmf hrg0 hg0 hs0 hb0 HMO HB1
  rw [e0] at HR0
  (try rw [e0])
  clear e0
  obtain ⟨r, hr⟩ : ∃ z, z = w.heap.size + 1 := ⟨_, rfl⟩
  rw [← hr] at HR0
  (try rw [← hr])
  have HRR : Hid (w.heap.size ≤ r) := by show _ ≤ _; omega
  clear hr
  obtain ⟨ob, hob⟩ : ∃ z, z = w.heap.size := ⟨_, rfl⟩
  have HOB := hide hob
  go_loopg [] cnt0 (fun kq wr => ∃ (vis : List ByteArray) (G : ByteArray → Option Value), Hid (MG CS wr mb r n W vis kq) ∧ Hid (MF CS wr w.heap.size vis.length G) ∧ Hid (∀ q, (q ∈ vis → G q = W q) ∧ (q ∉ vis → G q = none)) ∧ Hid (Below w.heap.size w wr))
  case atStart => exact ⟨[], _, unhide HR0, unhide M0, fun q => ⟨fun h => by simp at h, fun _ => rfl⟩, unhide B0⟩
  case round =>
    obtain ⟨vis, G, HRG, HMG, HG, HB⟩ := hrel
    have hrg := unhide HRG
    have hvis := hrg.visited
    have HV := hide hvis
    clear hvis hob
    go_wp2_with (first
      | (at_next; refine next_s _ rfl _ rfl mb r n W vis _ rfl hrg ?_ ?_)
      | go_in)
    · intro hdone
      have hG : G = W := by
        funext q
        by_cases hq : q ∈ vis
        · exact (unhide HG q).1 hq
        · rw [(unhide HG q).2 hq]
          cases hw : W q with
          | none => rfl
          | some v => exact absurd (hdone q (by rw [hw]; rfl)) hq
      have hmo := unhide HMG
      rw [hG] at hmo
      have HMO := hide (hmo.mono (n' := n) (by have := (unhide HV).2.2; omega))
      clear hdone hG hmo hrg
      go_wp2
      go_ret
      exact ⟨rfl, unhide HMO, unhide HB⟩
    · intro p v w1 cnt1 hok hnv hfp hrg1 hlt hg1 hen
      have hB1 : Below w.heap.size w w1 := (unhide HB).grown hg1 (unhide HB).size (fun j hj => by cases hj; exact unhide HRR)
      have hmo1 := (unhide HMG).iter hrg hg1
      obtain ⟨w2, hr2, hm2, ht2⟩ := hmo1.put (t := 39) Tryz.underlying39 (by have := (unhide HV).2.2; have := unhide HN; simp only [maxLen]; omega) (x := p) hok v
      replace hr2 : (Instr.mapUpdate 39 (.map (some w.heap.size)) (.string p) v).run Tryz.prog w1 = .ok () w2 := hr2
      have hne : w.heap.size ≠ mb := by have := unhide HLT; omega
      have HRG2 := hide (hrg1.other hmo1 hne ht2.grown)
      have HB2 := hide (below_row hB1 hB1.size ht2.grown (fun k hk => by cases hk; exact Nat.le_refl _))
      have HM2 := hide hm2
      have HL := hide hlt
      have HG2 : Hid (∀ q, (q ∈ vis ++ [p] → upd G p (some v) q = W q) ∧ (q ∉ vis ++ [p] → upd G p (some v) q = none)) := fun q => by
        by_cases e : q = p
        · subst e
          rw [upd_same]
          exact ⟨fun _ => hfp.symm, fun h => absurd (List.mem_append_right _ (List.mem_singleton.2 rfl)) h⟩
        · rw [upd_other e]
          refine ⟨fun hq => (unhide HG q).1 ?_, fun hq => (unhide HG q).2 (fun h2 => hq (List.mem_append_left _ h2))⟩
          rcases List.mem_append.1 hq with hq | hq
          · exact hq
          · exact absurd (List.mem_singleton.1 hq) e
      clear hok hnv hfp hrg1 hlt hg1 hB1 hmo1 hm2 ht2 hne hrg
      go_wp2
      go_roundg cnt1
      case measure => exact unhide HL
      case rel => exact ⟨vis ++ [p], _, unhide HRG2, by rw [List.length_append]; exact unhide HM2, unhide HG2, unhide HB2⟩
end Go.Proofs.YtgoephcembgmcaaGreatDoor.G
namespace Go.Proofs.YtgoephcembgmcaaGreatDoor.G
open Go.RowKit Go.Maps Go.Proofs.YtgoephcembgmcaaGreatDoorW.PrintWords Go.Proofs.YtgoephcembgmcaaGreatDoorW.PrintLast
/-! like: where a version's files are those of the map. -/
def mapOf (g : ByteArray → List St) (v : Int) : ByteArray → Option Value := fun p => (lastAt (g p) v).map fun s => .int .u8 s.mrk
theorem zero5 (w : World) : (zeroValue 5).run Tryz.prog w = .ok (.int .u8 0) w := by kernel_rfl
theorem not_empty {p : ByteArray} (h : pathOK p = true) : p.toList.isEmpty = false := by
  unfold pathOK at h
  simp only [Bool.and_eq_true, Bool.not_eq_true'] at h
  exact h.1.1.1
set_option maxHeartbeats 4000000 in
set_option maxRecDepth 100000 in
theorem like_ok (base S T b pb n np now all mb nm : Nat) (F : ByteArray → Option Value) (g : ByteArray → List St) (P : Int → Nat) (v : Int) (w : World) (hG : Glob w) (h : ViewAt w base S T b pb n np now all F g P) (hnow : now ≤ 1000) (h0 : 0 ≤ v) (h1 : v ≤ (now : Int)) (h2 : v = (now : Int) ∨ P v ≠ 0) (hn : n ≤ 1000) (hg : ∀ p, (g p).length ≤ 1000) (hwf : WF g now)
    (hm : MF CS w mb nm (mapOf g v)) :
    Calls Tryz.prog 14 #[.pointer (some ⟨S, 0, none⟩), .int .i64 v, .map (some mb)] w fun e w' => e = .returned (.bool true) ∧ Below w.heap.size w w' := by
  have hli := vlist_ok base S T b pb n np now all F g P v w h hnow h0 h1 h2 hn hg (fun p hp => not_empty (hwf.path p hp))
  obtain ⟨ls0, hls0, hls0n⟩ := h.t.lists v
  have HLI := hide hli
  have HG := hide hG
  have HV := hide h
  have HNOW := hide hnow
  have H0 := hide h0
  have H1 := hide h1
  have H2 := hide h2
  have HN := hide hn
  have HGL := hide hg
  have HWF := hide hwf
  have HM := hide hm
  have HLS0 := hide hls0
  have HLS0N := hide hls0n
  clear hli hG h hnow h0 h1 h2 hn hg hwf hm hls0 hls0n
  go_enter Tryz.func14, Tryz.ntmps14
  go_wp2_with fail
  refine (unhide HLI).mono ?_
  rintro e w2 ⟨⟨lv, ls, rfl, hx2, hnd, hmem⟩, hb2⟩
  obtain ⟨LA, lc, rfl, _, _⟩ := XR.slice hx2
  have hls : Lists g v ls := ⟨hnd, hmem⟩
  have hll : ls.length ≤ 1000 := by
    rw [((unhide HLS0).perm hls).length_eq.symm]
    have := unhide HLS0N
    have := unhide HN
    omega
  have hks : Keys (mapOf g v) ls := ⟨hnd, fun p => by rw [hmem]; unfold mapOf; cases lastAt (g p) v <;> rfl⟩
  obtain ⟨L, hL⟩ : ∃ z, z = ls.length := ⟨_, rfl⟩
  have hlen : ∀ ty, (Builtin.len_ #[39] ty #[.map (some mb)]).run Tryz.prog w2 = .ok (.int .i64 (L : Int)) w2 := fun ty => by
    rw [hL]
    exact ((unhide HM).below hb2).len (t := 39) (e := 5) Tryz.underlying39 ty hks
  have dL : ((L : Int) == (L : Int)) = true := by simp
  rw [← hL] at hx2 ⊢
  have HX := hide hx2
  have HLS := hide hls
  have HL := hide hL
  have HLL := hide hll
  have HB2 := hide hb2
  clear hx2 hnd hmem hb2 hls hll hks hL
  go_wp2_with fail
  clear hlen dL
  go_loopg [32] L (fun kq v32 wr => ∃ (i : Nat), v32 = .int .i64 (i : Int) ∧ Hid (i + kq = L) ∧ Hid (Below w.heap.size w wr) ∧ Hid (Below w2.heap.size w2 wr))
  case atStart => exact ⟨0, rfl, Nat.zero_add _, unhide HB2, Below.refl _ _⟩
  case round =>
    obtain ⟨i, rfl, HI, HB, HBB⟩ := hrel
    by_cases hlt : i < L
    · have d1 : (i : Int) < (L : Int) := by omega
      obtain ⟨p, hp⟩ : ∃ z, ls[i]? = some z := ⟨_, List.getElem?_eq_getElem (by rw [← unhide HL]; exact hlt)⟩
      obtain ⟨ad, rfl, k0⟩ := XR.at_ (V1.below (unhide HX) (unhide HBB)) i p hp
      obtain ⟨s, hs⟩ := Option.isSome_iff_exists.1 (((unhide HLS).2 p).1 (List.mem_of_getElem? hp))
      have hpok : pathOK p = true := (unhide HWF).path p (fun e => by rw [e] at hs; cases hs)
      have hpz := path_size hpok
      have hrd := vread_ok base S T b pb n np now all F g P v p s wr ((unhide HV).below (unhide HB)) (unhide HNOW) (unhide H0) (unhide H1) (unhide H2) (by simp only [maxLen]; omega) (unhide HGL p) hs
      have hmp : mapOf g v p = some (.int .u8 s.mrk) := by unfold mapOf; rw [hs]; rfl
      have HRD := hide hrd
      have HMP := hide hmp
      have HPOK := hide hpok
      have HPZ := hide hpz
      have HLT := hide hlt
      clear hp hs hpok hpz hrd hmp hlt
      go_wp2_with fail
      refine (unhide HRD).mono ?_
      rintro e w3 ⟨⟨d1, rfl, hd⟩, hb3⟩
      obtain ⟨dg, dc, rfl, hc, _, _, _⟩ := hd.form
      have hb3w := below_step (unhide HB) hb3
      have hlk := ((unhide HM).below hb3w).look_ok (t := 39) (e := 5) Tryz.underlying39 (zero5 w3) (x := p) (show p.size ≤ maxLen from by have := unhide HPZ; simp only [maxLen]; omega)
      rw [unhide HMP] at hlk
      replace hlk : (Instr.lookup 39 (.map (some mb)) (.string p) true).run Tryz.prog w3 = .ok (.tuple #[.int .u8 s.mrk, .bool true]) w3 := hlk
      have hpc := pathcheck_ok p w3 ((unhide HG).below hb3w) (by have := unhide HPZ; omega)
      have HPC := hide hpc
      have HB3 := hide hb3w
      have HBB3 := hide (below_step (unhide HBB) hb3)
      obtain ⟨mk, hmk⟩ : ∃ z, z = s.mrk := ⟨_, rfl⟩
      rw [← hmk] at hc hlk
      have dM : ((mk : Int) == mk) = true := by simp
      clear hd hb3 hb3w hpc hmk k0
      dsimp only [slv]
      go_wp2_with fail
      refine (unhide HPC).mono ?_
      rintro e w4 ⟨vv, rfl, htold, hb4⟩
      rw [unhide HPOK] at htold
      obtain rfl : vv = .nilIface := htold
      have HB4 := hide (below_step (unhide HB3) hb4)
      have HBB4 := hide (below_step (unhide HBB3) hb4)
      clear hb4 hlk hc dM
      go_wp2_with fail
      go_roundg (gk - 1)
      case measure => have := unhide HI; have := unhide HLT; omega
      case rel => exact ⟨i + 1, congrArg (Value.int .i64) (by have := unhide HLL; have := unhide HL; have := unhide HLT; (try unfold wrap64); omega), (by have := unhide HI; have := unhide HLT; show _ = _; omega), unhide HB4, unhide HBB4⟩
    · have d1 : ¬ (i : Int) < (L : Int) := by omega
      clear hlt
      go_wp2_with fail
      go_ret
      exact ⟨rfl, unhide HB⟩
end Go.Proofs.YtgoephcembgmcaaGreatDoor.G
namespace Go.Proofs.YtgoephcembgmcaaGreatDoor.G
/-! Plain law of the store. -/
structure VI (g : ByteArray → List St) (now : Nat) (P : Int → Nat) : Prop where
  wf : WF g now
  pins : ∀ v, P v ≠ 0 → 0 ≤ v ∧ v ≤ (now : Int)
  tight : (∀ v, P v = 0) → ∀ p, (g p).length ≤ 1
theorem len_le (N : Nat) : ∀ (ss : List St) (k : Nat), ss.Pairwise (fun a b => a.frm < b.frm) → (∀ s ∈ ss, k ≤ s.frm ∧ s.frm ≤ N) → ss.length ≤ N + 1 - k
  | [], _, _, _ => Nat.zero_le _
  | s :: rest, k, hp, h => by
    have h1 := h s (List.mem_cons_self ..)
    have h2 := len_le N rest (s.frm + 1) (List.pairwise_cons.1 hp).2 (fun x hx => ⟨(List.pairwise_cons.1 hp).1 x hx, (h x (List.mem_cons_of_mem _ hx)).2⟩)
    rw [List.length_cons]
    omega
section
variable {g g' : ByteArray → List St} {now : Nat} {P P' : Int → Nat} {ps : List ByteArray} {mk : Int} {ks : List Int}
theorem VI.len (h : VI g now P) (p : ByteArray) : (g p).length ≤ now + 1 := by
  have := len_le now (g p) 0 (h.wf.rise p) (fun s hs => ⟨Nat.zero_le _, h.wf.le p s hs⟩)
  omega
theorem VI.start : VI (fun _ => []) 0 (fun _ => 0) := ⟨⟨fun _ => List.Pairwise.nil, fun _ _ h => (by simp at h), fun _ h => absurd rfl h⟩, fun _ h => absurd rfl h, fun _ _ => Nat.zero_le _⟩
theorem VI.pin (h : VI g now P) : VI g now (updP P (now : Int) (P (now : Int) + 1)) := by
  refine ⟨h.wf, fun v hv => ?_, fun hz => ?_⟩
  · by_cases e : v = (now : Int)
    · rw [e]; exact ⟨Int.natCast_nonneg _, Int.le_refl _⟩
    · rw [updP_other e] at hv
      exact h.pins v hv
  · have := hz (now : Int)
    rw [updP_same] at this
    omega
theorem VI.unpin (h : VI g now P) (v : Int) (hv : P v ≠ 0) (h1 : P v ≠ 1) : VI g now (updP P v (P v - 1)) := by
  refine ⟨h.wf, fun x hx => ?_, fun hz => ?_⟩
  · by_cases e : x = v
    · rw [e]; exact h.pins v hv
    · rw [updP_other e] at hx
      exact h.pins x hx
  · have := hz v
    rw [updP_same] at this
    omega
theorem WF.tidy {N : Nat} (h : WF g N) (ks : List Int) :
    WF (fun p => kept (N : Int) ks (g p)) N ∧ (∀ v, (v ∈ ks ∨ v = (N : Int)) → mapOf (fun p => kept (N : Int) ks (g p)) v = mapOf g v) ∧ (ks = [] → ∀ p, (kept (N : Int) ks (g p)).length ≤ 1) := by
  have hle : ∀ p, ∀ s ∈ g p, (s.frm : Int) ≤ (N : Int) := fun p s hs => Int.ofNat_le.2 (h.le p s hs)
  refine ⟨⟨fun p => (h.rise p).sublist (kept_sub _ _ _), fun p s hs => h.le p s ((kept_sub _ _ _).subset hs), fun p hp => h.path p (fun e => hp (by show kept _ _ (g p) = _; rw [e]; rfl))⟩, fun v hv => ?_, fun hz p => ?_⟩
  · funext p
    unfold mapOf
    rw [kept_last (h.rise p) (hle p) hv]
  · rw [hz]
    exact kept_one (hle p)
theorem none_kept (hks : ∀ x, x ∈ ks ↔ P x ≠ 0) (hz : ∀ v, P v = 0) : ks = [] := by
  rcases ks with _ | ⟨x, ks⟩
  · rfl
  · exact absurd (hz x) ((hks x).1 (List.mem_cons_self ..))
theorem VI.tidy (h : VI g now P) (hsub : ∀ v, P' v ≠ 0 → P v ≠ 0) (hks : ∀ x, x ∈ ks ↔ P' x ≠ 0) :
    VI (fun p => kept (now : Int) ks (g p)) now P' ∧ (∀ v, P' v ≠ 0 → mapOf (fun p => kept (now : Int) ks (g p)) v = mapOf g v) ∧ mapOf (fun p => kept (now : Int) ks (g p)) (now : Int) = mapOf g (now : Int) := by
  obtain ⟨h1, h2, h3⟩ := h.wf.tidy ks
  exact ⟨⟨h1, fun v hv => h.pins v (hsub v hv), fun hz => h3 (none_kept hks hz)⟩, fun v hv => h2 v (.inl ((hks v).2 hv)), h2 _ (.inr rfl)⟩
theorem VI.commit (h : VI g now P) (hpu : Pushed g g' (now + 1) mk ps) (hok : ∀ p ∈ ps, pathOK p = true) (hks : ∀ x, x ∈ ks ↔ P x ≠ 0) :
    VI (fun p => kept ((now + 1 : Nat) : Int) ks (g' p)) (now + 1) P ∧ (∀ v, P v ≠ 0 → mapOf (fun p => kept ((now + 1 : Nat) : Int) ks (g' p)) v = mapOf g v) ∧
      (∀ p, (p ∈ ps → mapOf (fun p => kept ((now + 1 : Nat) : Int) ks (g' p)) ((now + 1 : Nat) : Int) p = some (.int .u8 mk)) ∧ (p ∉ ps → mapOf (fun p => kept ((now + 1 : Nat) : Int) ks (g' p)) ((now + 1 : Nat) : Int) p = mapOf g (now : Int) p)) ∧
      ∀ p, kept ((now + 1 : Nat) : Int) ks (g' p) ≠ [] ↔ (p ∈ ps ∨ g p ≠ []) := by
  have hwf : WF g' (now + 1) := by
    refine ⟨fun p => ?_, fun p s hs => ?_, fun p hp => ?_⟩
    · by_cases e : p ∈ ps
      · obtain ⟨d, hd⟩ := hpu.2 p e
        rw [hd]
        refine List.pairwise_append.2 ⟨h.wf.rise p, by simp, fun a ha b hb => ?_⟩
        rw [List.mem_singleton.1 hb]
        exact Nat.lt_succ_of_le (h.wf.le p a ha)
      · rw [hpu.1 p e]; exact h.wf.rise p
    · by_cases e : p ∈ ps
      · obtain ⟨d, hd⟩ := hpu.2 p e
        rw [hd] at hs
        rcases List.mem_append.1 hs with hs | hs
        · exact Nat.le_succ_of_le (h.wf.le p s hs)
        · rw [List.mem_singleton.1 hs]
          exact Nat.le_refl _
      · rw [hpu.1 p e] at hs; exact Nat.le_succ_of_le (h.wf.le p s hs)
    · by_cases e : p ∈ ps
      · exact hok p e
      · rw [hpu.1 p e] at hp; exact h.wf.path p hp
  have hold : ∀ v, v ≤ (now : Int) → ∀ p, lastAt (g' p) v = lastAt (g p) v := fun v hv p => by
    by_cases e : p ∈ ps
    · obtain ⟨d, hd⟩ := hpu.2 p e
      rw [hd]
      exact lastAt_push_over (by show ¬ ((now + 1 : Nat) : Int) ≤ v; omega) _
    · rw [hpu.1 p e]
  obtain ⟨h1, h2, h3⟩ := hwf.tidy ks
  refine ⟨⟨h1, fun v hv => ?_, fun hz => h3 (none_kept hks hz)⟩, fun v hv => ?_, fun p => ?_, fun p => ?_⟩
  · have := h.pins v hv
    exact ⟨this.1, by omega⟩
  · rw [h2 v (.inl ((hks v).2 hv))]
    funext p
    unfold mapOf
    rw [hold v (h.pins v hv).2 p]
  · rw [h2 _ (.inr rfl)]
    refine ⟨fun e => ?_, fun e => ?_⟩
    · obtain ⟨d, hd⟩ := hpu.2 p e
      unfold mapOf
      rw [hd, lastAt_push (Int.le_refl _)]
      rfl
    · unfold mapOf
      rw [hpu.1 p e]
      have e2 : lastAt (g p) ((now + 1 : Nat) : Int) = lastAt (g p) (now : Int) := by
        have hs : ∀ ss : List St, (∀ s ∈ ss, s.frm ≤ now) → lastAt ss ((now + 1 : Nat) : Int) = lastAt ss (now : Int) := by
          intro ss
          induction ss with
          | nil => intro _; rfl
          | cons s rest ih =>
            intro hs
            unfold lastAt
            rw [ih (fun x hx => hs x (List.mem_cons_of_mem _ hx))]
            have := hs s (List.mem_cons_self ..)
            rw [if_pos (by omega), if_pos (by omega)]
        exact hs _ (h.wf.le p)
      rw [e2]
  · have hk : kept ((now + 1 : Nat) : Int) ks (g' p) ≠ [] ↔ g' p ≠ [] := ⟨fun h e => h (by rw [e]; rfl), kept_some _ _⟩
    rw [hk]
    by_cases e : p ∈ ps
    · obtain ⟨d, hd⟩ := hpu.2 p e
      rw [hd]
      simp [e]
    · rw [hpu.1 p e]
      simp [e]
theorem mapOf_some (h : VI g now P) (p : ByteArray) : (mapOf g (now : Int) p).isSome = true ↔ g p ≠ [] := by
  unfold mapOf
  rw [Option.isSome_map]
  constructor
  · intro hs e
    rw [e] at hs
    cases hs
  · intro hs
    obtain ⟨s, hs2⟩ := lastAt_now hs (fun s hs => Int.ofNat_le.2 (h.wf.le p s hs))
    rw [hs2]
    rfl
/-- How many files there are at most behind a commit. -/
theorem keys_le {ls : List ByteArray} {F' : ByteArray → Option Value} {G : ByteArray → List St} (h : VI g now P) (hls : Lists g (now : Int) ls) (hcan : CanL ps ls) (hG : ∀ p, G p ≠ [] ↔ (p ∈ ps ∨ g p ≠ [])) (hF : ∀ p, (F' p).isSome = true ↔ G p ≠ []) {qs : List ByteArray} (hk : Keys F' qs) : qs.length ≤ 64 := by
  have hnd : (after_ ps ls).Nodup := by
    unfold after_
    refine List.nodup_append.2 ⟨hcan.2.1, hls.1.filter _, fun a ha b hb e => ?_⟩
    subst e
    have := (List.mem_filter.1 hb).2
    rw [inB_iff.2 ha] at this
    cases this
  have hp : qs.Perm (after_ ps ls) := (List.perm_ext_iff_of_nodup hk.1 hnd).2 fun p => by
    rw [hk.2, hF, hG]
    have hl : p ∈ ls ↔ g p ≠ [] := by
      rw [hls.2, ← mapOf_some h p]
      unfold mapOf
      rw [Option.isSome_map]
    unfold after_
    rw [List.mem_append, List.mem_filter, hl]
    constructor
    · rintro (h1 | h1)
      · exact .inl h1
      · by_cases e : p ∈ ps
        · exact .inl e
        · refine .inr ⟨h1, ?_⟩
          cases hb : inB ps p
          · rfl
          · exact absurd (inB_iff.1 hb) e
    · rintro (h1 | h1)
      · exact .inl h1
      · exact .inr h1.1
  rw [hp.length_eq]
  exact hcan.2.2.2
/-- At the end: one state a file. -/
theorem total_one (h : VI g now P) (hz : ∀ v, P v = 0) {F' : ByteArray → Option Value} (hF : ∀ p, (F' p).isSome = true ↔ g p ≠ []) {qs rs : List ByteArray} (hk : Keys F' qs) (hr : Keys (mapOf g (now : Int)) rs) : total g qs = rs.length := by
  have h1 : total g qs = qs.length := by
    have : ∀ l : List ByteArray, (∀ p ∈ l, g p ≠ []) → total g l = l.length := by
      intro l
      induction l with
      | nil => intro _; rfl
      | cons p l ih =>
        intro hl
        have ha := h.tight hz p
        have hb := List.length_pos_iff.2 (hl p (List.mem_cons_self ..))
        have hi := ih (fun q hq => hl q (List.mem_cons_of_mem _ hq))
        unfold total at hi ⊢
        rw [List.map_cons, List.sum_cons, hi, List.length_cons]
        omega
    exact this qs (fun p hp => (hF p).1 ((hk.2 p).1 hp))
  have hp : qs.Perm rs := (List.perm_ext_iff_of_nodup hk.1 hr.1).2 fun p => by rw [hk.2, hr.2, hF, mapOf_some h]
  rw [h1, hp.length_eq]
end
end Go.Proofs.YtgoephcembgmcaaGreatDoor.G
namespace Go.Proofs.YtgoephcembgmcaaGreatDoor.G
/-! Plain law of the locks. -/
theorem free_iff {zs : List (Ask × Sc)} {i : Nat} : freeAt zs i = true ↔ ∀ j, j < i → meetAt zs i j = false := by
  unfold freeAt
  constructor
  · intro h j hj
    cases hm : meetAt zs i j with
    | false => rfl
    | true =>
      rw [anyAt_true hj hm] at h
      cases h
  · intro h
    rw [anyAt_false h]
    rfl
structure LI (psOf : Int → List ByteArray) (zs : List (Ask × Sc)) : Prop where
  nd : zs.Pairwise (fun a b => a.1.1 ≠ b.1.1)
  has : ∀ (k : Nat) (z : Ask × Sc), zs[k]? = some z → z.1.2.2 = freeAt zs k
  par : ∀ z ∈ zs, z.1.2.1.Perm (psOf z.1.1)
  ok : ∀ z ∈ zs, AskOK z.1
def RI (ready : List Int) (zs : List (Ask × Sc)) : Prop := ready.Nodup ∧ ∀ x, x ∈ ready ↔ ∃ z ∈ zs, z.1.1 = x ∧ z.1.2.2 = true
section
variable {psOf : Int → List ByteArray} {zs : List (Ask × Sc)} {ready : List Int}
theorem LI.start : LI psOf [] := ⟨List.Pairwise.nil, fun k z h => by simp at h, fun z h => by simp at h, fun z h => by simp at h⟩
theorem RI.start : RI [] [] := ⟨List.nodup_nil, fun x => by simp⟩
theorem LI.uniq (h : LI psOf zs) {a b : Ask × Sc} (ha : a ∈ zs) (hb : b ∈ zs) (e : a.1.1 = b.1.1) : a = b := by
  obtain ⟨i, hi⟩ := List.mem_iff_getElem?.1 ha
  obtain ⟨j, hj⟩ := List.mem_iff_getElem?.1 hb
  have h1 := List.getElem?_eq_some_iff.1 hi
  have h2 := List.getElem?_eq_some_iff.1 hj
  have hp := List.pairwise_iff_getElem.1 h.nd
  rcases Nat.lt_trichotomy i j with hij | hij | hij
  · exact absurd (by rw [h1.2, h2.2]; exact e) (hp i j h1.1 h2.1 hij)
  · subst hij
    exact Option.some.inj (hi.symm.trans hj)
  · exact absurd (by rw [h1.2, h2.2]; exact e.symm) (hp j i h2.1 h1.1 hij)
theorem meetAt_congr {zs zs' : List (Ask × Sc)} {i i' j j' : Nat} (h1 : (zs[j]?).map (·.1.2.1) = (zs'[j']?).map (·.1.2.1)) (h2 : (zs[i]?).map (·.1.2.1) = (zs'[i']?).map (·.1.2.1)) : meetAt zs i j = meetAt zs' i' j' := by
  unfold meetAt
  cases hj : zs[j]? <;> cases hj' : zs'[j']? <;> cases hi : zs[i]? <;> cases hi' : zs'[i']? <;> simp [hj, hj', hi, hi'] at h1 h2 ⊢
  rw [h1, h2]
theorem LI.ask (h : LI psOf zs) {who : Int} {qs : List ByteArray} {s : Sc} {f : Bool} (hno : ∀ z ∈ zs, z.1.1 ≠ who) (hf : f = freeAt (zs ++ [((who, qs, false), s)]) zs.length) (hp : qs.Perm (psOf who)) (ho : AskOK (who, qs, f)) : LI psOf (zs ++ [((who, qs, f), s)]) := by
  refine ⟨List.pairwise_append.2 ⟨h.nd, by simp, fun a ha b hb => by rw [List.mem_singleton.1 hb]; exact hno a ha⟩, fun k z hz => ?_, fun z hz => ?_, fun z hz => ?_⟩
  · have hk := (List.getElem?_eq_some_iff.1 hz).1
    rw [List.length_append] at hk
    simp only [List.length_cons, List.length_nil] at hk
    by_cases e : k < zs.length
    · rw [List.getElem?_append_left e] at hz
      rw [h.has k z hz]
      unfold freeAt
      congr 1
      have : ∀ j, j < k → meetAt zs k j = meetAt (zs ++ [((who, qs, f), s)]) k j := fun j hj => meetAt_congr (by rw [List.getElem?_append_left (by omega)]) (by rw [List.getElem?_append_left e])
      unfold anyAt
      rw [Bool.eq_iff_iff, List.any_eq_true, List.any_eq_true]
      constructor
      · rintro ⟨j, h1, h2⟩
        exact ⟨j, h1, by rw [← this j (List.mem_range.1 h1)]; exact h2⟩
      · rintro ⟨j, h1, h2⟩
        exact ⟨j, h1, by rw [this j (List.mem_range.1 h1)]; exact h2⟩
    · obtain rfl : k = zs.length := by omega
      rw [List.getElem?_append_right (Nat.le_refl _), Nat.sub_self] at hz
      obtain rfl : ((who, qs, f), s) = z := by simpa using hz
      show f = _
      have this : ∀ j, j < zs.length → meetAt (zs ++ [((who, qs, false), s)]) zs.length j = meetAt (zs ++ [((who, qs, f), s)]) zs.length j := fun j hj => meetAt_congr (by rw [List.getElem?_append_left hj, List.getElem?_append_left hj]) (by rw [List.getElem?_append_right (Nat.le_refl _), List.getElem?_append_right (Nat.le_refl _), Nat.sub_self]; rfl)
      have e2 : freeAt (zs ++ [((who, qs, false), s)]) zs.length = freeAt (zs ++ [((who, qs, f), s)]) zs.length := by
        unfold freeAt
        congr 1
        unfold anyAt
        rw [Bool.eq_iff_iff, List.any_eq_true, List.any_eq_true]
        constructor
        · rintro ⟨j, h1, h2⟩
          exact ⟨j, h1, by rw [← this j (List.mem_range.1 h1)]; exact h2⟩
        · rintro ⟨j, h1, h2⟩
          exact ⟨j, h1, by rw [this j (List.mem_range.1 h1)]; exact h2⟩
      exact hf.trans e2
  · rcases List.mem_append.1 hz with hz | hz
    · exact h.par z hz
    · rw [List.mem_singleton.1 hz]; exact hp
  · rcases List.mem_append.1 hz with hz | hz
    · exact h.ok z hz
    · rw [List.mem_singleton.1 hz]; exact ho
theorem RI.ask (h : RI ready zs) {who : Int} {qs : List ByteArray} {s : Sc} {f : Bool} (hno : ∀ z ∈ zs, z.1.1 ≠ who) : RI (if f = true then ready ++ [who] else ready) (zs ++ [((who, qs, f), s)]) := by
  have hnr : who ∉ ready := fun hin => by
    obtain ⟨z, hz, e, _⟩ := (h.2 who).1 hin
    exact hno z hz e
  cases f with
  | true =>
    rw [if_pos rfl]
    refine ⟨List.nodup_append.2 ⟨h.1, by simp, fun a ha b hb => by rw [List.mem_singleton.1 hb]; exact fun e => hnr (e ▸ ha)⟩, fun x => ?_⟩
    rw [List.mem_append, h.2]
    constructor
    · rintro (⟨z, h1, h2⟩ | h1)
      · exact ⟨z, List.mem_append_left _ h1, h2⟩
      · exact ⟨_, List.mem_append_right _ (List.mem_singleton.2 rfl), (List.mem_singleton.1 h1).symm, rfl⟩
    · rintro ⟨z, h1, h2⟩
      rcases List.mem_append.1 h1 with h1 | h1
      · exact .inl ⟨z, h1, h2⟩
      · rw [List.mem_singleton.1 h1] at h2
        exact .inr (List.mem_singleton.2 h2.1.symm)
  | false =>
    rw [if_neg Bool.false_ne_true]
    refine ⟨h.1, fun x => ?_⟩
    rw [h.2]
    constructor
    · rintro ⟨z, h1, h2⟩
      exact ⟨z, List.mem_append_left _ h1, h2⟩
    · rintro ⟨z, h1, h2⟩
      rcases List.mem_append.1 h1 with h1 | h1
      · exact ⟨z, h1, h2⟩
      · rw [List.mem_singleton.1 h1] at h2
        cases h2.2
theorem LI.done (h : LI psOf zs) (hr : RI [] zs) : zs = [] := by
  rcases zs with _ | ⟨z, zs⟩
  · rfl
  · have h1 : z.1.2.2 = true := by
      rw [h.has 0 z rfl]
      exact free_iff.2 (fun j hj => absurd hj (Nat.not_lt_zero _))
    have := (hr.2 z.1.1).2 ⟨z, List.mem_cons_self .., rfl, h1⟩
    cases this
theorem meets_self {p : ByteArray} {ps qs : List ByteArray} (h1 : p ∈ ps) (h2 : p ∈ qs) : meets ps qs = true := by
  unfold meets meet1
  rw [List.any_eq_true]
  refine ⟨p, h1, ?_⟩
  rw [List.any_eq_true]
  exact ⟨p, h2, by simp⟩
theorem LI.held (h : LI psOf zs) {z : Ask × Sc} (hz : z ∈ zs) (hh : z.1.2.2 = true) {p : ByteArray} (hp : p ∈ psOf z.1.1) {r : Int} {b : Bool} (hd : Held zs p r b) : r = z.1.1 ∧ b = true := by
  have hz2 : holds p z = true := by
    unfold holds
    rw [hh, (Lib.containsS_iff _ _).2 ((h.par z hz).mem_iff.2 hp)]
    rfl
  obtain ⟨k, hk⟩ := List.mem_iff_getElem?.1 hz
  rcases hd with ⟨_, _, hall⟩ | ⟨hb, k', y, hy, hyh, hr, hfirst⟩
  · rw [hall z hz] at hz2
    cases hz2
  · refine ⟨?_, hb⟩
    rcases Nat.lt_trichotomy k' k with hlt | e | hlt
    · exfalso
      have hf := h.has k z hk
      rw [hh] at hf
      have hm := free_iff.1 hf.symm k' hlt
      unfold meetAt at hm
      rw [hy, hk] at hm
      simp only at hm
      unfold holds at hyh
      rw [Bool.and_eq_true] at hyh
      rw [meets_self ((Lib.containsS_iff _ _).1 hyh.2) ((h.par z hz).mem_iff.2 hp)] at hm
      cases hm
    · subst e
      rw [hk] at hy
      rw [hr, Option.some.inj hy]
    · have := hfirst k z hlt hk
      rw [hz2] at this
      cases this
theorem erase_get {α : Type} (l : List α) (k j : Nat) : (l.eraseIdx k)[j]? = l[if j < k then j else j + 1]? := by
  rw [List.getElem?_eraseIdx]
  split <;> rfl
theorem marks_mem {zs1 : List (Ask × Sc)} {m : Nat} (hm : m = zs1.length) {z : Ask × Sc} : z ∈ marks zs1 m ↔ ∃ (j : Nat) (y : Ask × Sc), zs1[j]? = some y ∧ z = mark y (y.1.2.2 || freeAt zs1 j) := by
  constructor
  · intro hz
    obtain ⟨j, hj⟩ := List.mem_iff_getElem?.1 hz
    have hl := (List.getElem?_eq_some_iff.1 hj).1
    rw [marks_len] at hl
    obtain ⟨y, hy⟩ : ∃ y, zs1[j]? = some y := ⟨_, List.getElem?_eq_getElem hl⟩
    rw [marks_get _ _ _ _ hy, if_pos (by omega)] at hj
    exact ⟨j, y, hy, (Option.some.inj hj).symm⟩
  · rintro ⟨j, y, hy, rfl⟩
    have hl := (List.getElem?_eq_some_iff.1 hy).1
    refine List.mem_iff_getElem?.2 ⟨j, ?_⟩
    rw [marks_get _ _ _ _ hy, if_pos (by omega)]
theorem free_erase {k j : Nat} (h : freeAt zs (if j < k then j else j + 1) = true) : freeAt (zs.eraseIdx k) j = true := by
  rw [free_iff] at h ⊢
  intro i hi
  have h1 := h (if i < k then i else i + 1) (by split <;> split <;> omega)
  rw [← h1]
  exact meetAt_congr (by rw [erase_get]) (by rw [erase_get])
theorem LI.release (h : LI psOf zs) {who : Int} {k : Nat} (hk : k < zs.length) (hw : whoAt zs who k = true) (hr : RI (who :: ready) zs) :
    LI psOf (marks (zs.eraseIdx k) (zs.length - 1)) ∧ RI (ready ++ readies (zs.eraseIdx k) (zs.length - 1)) (marks (zs.eraseIdx k) (zs.length - 1)) := by
  obtain ⟨z0, hz0⟩ : ∃ z, zs[k]? = some z := ⟨_, List.getElem?_eq_getElem hk⟩
  have hw0 : z0.1.1 = who := by
    unfold whoAt at hw
    rw [hz0] at hw
    simpa using hw
  obtain ⟨zs1, hzs1⟩ : ∃ z, z = zs.eraseIdx k := ⟨_, rfl⟩
  obtain ⟨m, hm⟩ : ∃ z, z = zs.length - 1 := ⟨_, rfl⟩
  have hl1 : m = zs1.length := by rw [hzs1, List.length_eraseIdx_of_lt hk, hm]
  rw [← hzs1, ← hm]
  have hsub : ∀ y ∈ zs1, y ∈ zs := fun y hy => List.mem_of_mem_eraseIdx (by rw [← hzs1]; exact hy)
  have hget : ∀ j y, zs1[j]? = some y → zs[if j < k then j else j + 1]? = some y := fun j y hy => by rw [← erase_get, ← hzs1]; exact hy
  have hkeep : ∀ j y, zs1[j]? = some y → y.1.2.2 = true → freeAt zs1 j = true := fun j y hy hh => by
    rw [hzs1]
    refine free_erase ?_
    rw [← h.has _ y (hget j y hy)]
    exact hh
  have hor : ∀ j y, zs1[j]? = some y → (y.1.2.2 || freeAt zs1 j) = freeAt zs1 j := fun j y hy => by
    cases hh : y.1.2.2 with
    | false => rfl
    | true => rw [hkeep j y hy hh]; rfl
  have hnd1 : zs1.Pairwise (fun a b => a.1.1 ≠ b.1.1) := by rw [hzs1]; exact h.nd.sublist (List.eraseIdx_sublist _ _)
  have hnot0 : ∀ y ∈ zs1, y.1.1 ≠ who := by
    intro y hy e
    have e2 := h.uniq (hsub y hy) (List.mem_of_getElem? hz0) (e.trans hw0.symm)
    obtain ⟨j, hj⟩ := List.mem_iff_getElem?.1 hy
    have h1 := hget j y hj
    rw [e2] at h1
    have i1 := List.getElem?_eq_some_iff.1 h1
    have i2 := List.getElem?_eq_some_iff.1 hz0
    have hp := List.pairwise_iff_getElem.1 h.nd
    rcases Nat.lt_trichotomy (if j < k then j else j + 1) k with hlt | e3 | hlt
    · exact hp _ _ i1.1 i2.1 hlt (by rw [i1.2, i2.2])
    · split at e3 <;> omega
    · exact hp _ _ i2.1 i1.1 hlt (by rw [i1.2, i2.2])
  refine ⟨⟨?_, fun j z hz => ?_, fun z hz => ?_, fun z hz => ?_⟩, ?_⟩
  · refine List.pairwise_iff_getElem.2 (fun i j hi hj hij => ?_)
    rw [marks_len] at hi hj
    have e1 := marks_get zs1 m i _ (List.getElem?_eq_getElem hi)
    have e2 := marks_get zs1 m j _ (List.getElem?_eq_getElem hj)
    have i1 := (List.getElem?_eq_some_iff.1 e1).2
    have i2 := (List.getElem?_eq_some_iff.1 e2).2
    rw [i1, i2, if_pos (by omega), if_pos (by omega)]
    exact List.pairwise_iff_getElem.1 hnd1 i j hi hj hij
  · have hl := (List.getElem?_eq_some_iff.1 hz).1
    rw [marks_len] at hl
    obtain ⟨y, hy⟩ : ∃ y, zs1[j]? = some y := ⟨_, List.getElem?_eq_getElem hl⟩
    rw [marks_get _ _ _ _ hy, if_pos (by omega)] at hz
    rw [← Option.some.inj hz, freeAt_marks]
    exact hor j y hy
  · obtain ⟨j, y, hy, rfl⟩ := (marks_mem hl1).1 hz
    exact h.par y (hsub y (List.mem_of_getElem? hy))
  · obtain ⟨j, y, hy, rfl⟩ := (marks_mem hl1).1 hz
    exact h.ok y (hsub y (List.mem_of_getElem? hy))
  · have hrd : ∀ i, i ≤ zs1.length → ∀ x, x ∈ readies zs1 i ↔ ∃ (j : Nat) (y : Ask × Sc), j < i ∧ zs1[j]? = some y ∧ y.1.1 = x ∧ y.1.2.2 = false ∧ freeAt zs1 j = true := by
      intro i
      induction i with
      | zero => intro _ x; simp [readies]
      | succ i ih =>
        intro hi x
        obtain ⟨y, hy⟩ : ∃ y, zs1[i]? = some y := ⟨_, List.getElem?_eq_getElem (by omega)⟩
        rw [readies, List.mem_append, ih (by omega), hy]
        simp only
        constructor
        · rintro (⟨j, y2, h1, h2⟩ | h1)
          · exact ⟨j, y2, by omega, h2⟩
          · split at h1
            · rename_i hc
              rw [Bool.and_eq_true, Bool.not_eq_true'] at hc
              exact ⟨i, y, by omega, hy, (List.mem_singleton.1 h1).symm, hc.1, hc.2⟩
            · cases h1
        · rintro ⟨j, y2, h1, h2, h3, h4, h5⟩
          by_cases e : j = i
          · subst e
            rw [hy] at h2
            obtain rfl := Option.some.inj h2
            refine .inr ?_
            rw [if_pos (by rw [h4, h5]; rfl)]
            exact List.mem_singleton.2 h3.symm
          · exact .inl ⟨j, y2, by omega, h2, h3, h4, h5⟩
    have hrn : ∀ i, i ≤ zs1.length → (readies zs1 i).Nodup := by
      intro i
      induction i with
      | zero => intro _; exact List.nodup_nil
      | succ i ih =>
        intro hi
        obtain ⟨y, hy⟩ : ∃ y, zs1[i]? = some y := ⟨_, List.getElem?_eq_getElem (by omega)⟩
        rw [readies, hy]
        simp only
        refine List.nodup_append.2 ⟨ih (by omega), by split <;> simp, fun a ha b hb e => ?_⟩
        obtain ⟨j, y2, h1, h2, h3, _⟩ := (hrd i (by omega) a).1 ha
        split at hb
        · rw [e, List.mem_singleton.1 hb] at h3
          have i1 := List.getElem?_eq_some_iff.1 h2
          have i2 := List.getElem?_eq_some_iff.1 hy
          exact List.pairwise_iff_getElem.1 hnd1 j i i1.1 i2.1 h1 (by rw [i1.2, i2.2]; exact h3)
        · cases hb
    have hnd0 := List.nodup_cons.1 hr.1
    have hmr := hrd m (by omega)
    refine ⟨List.nodup_append.2 ⟨hnd0.2, hrn m (by omega), fun a ha b hb e => ?_⟩, fun x => ?_⟩
    · subst e
      obtain ⟨j, y, _, hy, h3, h4, _⟩ := (hmr a).1 hb
      obtain ⟨z, hz, e1, e2⟩ := (hr.2 a).1 (List.mem_cons_of_mem _ ha)
      have := h.uniq hz (hsub y (List.mem_of_getElem? hy)) (e1.trans h3.symm)
      rw [this, h4] at e2
      cases e2
    · rw [List.mem_append, hmr]
      constructor
      · rintro (hx | ⟨j, y, _, hy, h3, h4, h5⟩)
        · obtain ⟨z, hz, e1, e2⟩ := (hr.2 x).1 (List.mem_cons_of_mem _ hx)
          have hne : x ≠ who := fun e => hnd0.1 (e ▸ hx)
          obtain ⟨i, hi⟩ := List.mem_iff_getElem?.1 hz
          have hik : i ≠ k := fun e => by
            rw [e, hz0] at hi
            rw [← Option.some.inj hi, hw0] at e1
            exact hne e1.symm
          obtain ⟨j, hj⟩ : ∃ j, zs1[j]? = some z := by
            rcases Nat.lt_or_gt_of_ne hik with hlt | hlt
            · exact ⟨i, by rw [hzs1, erase_get, if_pos hlt]; exact hi⟩
            · exact ⟨i - 1, by rw [hzs1, erase_get, if_neg (by omega), show i - 1 + 1 = i from by omega]; exact hi⟩
          exact ⟨_, (marks_mem hl1).2 ⟨j, z, hj, rfl⟩, e1, by show (z.1.2.2 || _) = true; rw [e2]; rfl⟩
        · exact ⟨_, (marks_mem hl1).2 ⟨j, y, hy, rfl⟩, h3, by show (y.1.2.2 || _) = true; rw [h5, Bool.or_true]⟩
      · rintro ⟨z, hz, e1, e2⟩
        obtain ⟨j, y, hy, rfl⟩ := (marks_mem hl1).1 hz
        have e1 : y.1.1 = x := e1
        have e2 : (y.1.2.2 || freeAt zs1 j) = true := e2
        cases hh : y.1.2.2 with
        | true =>
          have hin := (hr.2 x).2 ⟨y, hsub y (List.mem_of_getElem? hy), e1, hh⟩
          rcases List.mem_cons.1 hin with e | hin
          · exact absurd (e1.trans e) (hnot0 y (List.mem_of_getElem? hy))
          · exact .inl hin
        | false =>
          rw [hh, Bool.false_or] at e2
          exact .inr ⟨j, y, by have := (List.getElem?_eq_some_iff.1 hy).1; omega, hy, e1, hh, e2⟩
end
end Go.Proofs.YtgoephcembgmcaaGreatDoor.G
namespace Go.Proofs.YtgoephcembgmcaaGreatDoor.G
open Go.RowKit Go.Maps Go.Proofs.YtgoephcembgmcaaGreatDoorW.PrintWords Go.Proofs.YtgoephcembgmcaaGreatDoorW.PrintLast
/-! Rows of one cell an element that may begin inside their block. -/
def QV (w : World) (base e : Nat) (v : Value) (us : List Value) : Prop := QRow w base e 1 v us.length us
/-- Two slices lie in different blocks. -/
def Ap (v u : Value) : Prop := ∀ k, v.ownBlock = some k → u.ownBlock ≠ some k
theorem Ap.symm {v u : Value} (h : Ap v u) : Ap u v := fun k h1 h2 => h k h2 h1
theorem Ap.nil (u : Value) : Ap (.slice none 0 0) u := fun k h => by cases h
section
variable {w w1 : World} {base e : Nat} {v : Value} {us : List Value}
theorem QV.of (h : V1 w base e v us) : QV w base e v us := q_of_own h
theorem QV.nil (w : World) (base e : Nat) : QV w base e (.slice none 0 0) [] := q_of_own (World.ownsRow_nil _ _ _ _)
theorem QV.typed (h : QV w base e v us) : ∀ k, v.ownBlock = some k → base ≤ k ∧ ∃ cells, w.heap[k]? = some (.cells cells e (0, 0)) := q_typed h
theorem QV.lt (h : QV w base e v us) : ∀ k, v.ownBlock = some k → base ≤ k ∧ k < w.heap.size := fun k hk => ⟨(q_typed h k hk).1, q_lt h k hk⟩
theorem QV.block (h : QV w base e v us) (hk : ∀ k, v.ownBlock = some k → w1.heap[k]? = w.heap[k]?) : QV w1 base e v us := q_move h hk
theorem QV.below (h : QV w base e v us) (hb : Below w.heap.size w w1) : QV w1 base e v us := QV.block h (fun k hk => hb.block k (QV.lt h k hk).2)
theorem QV.fm {base' : Nat} {ts : List TypeId} {ms : List Nat} (h : QV w base e v us) (hf : Fm base' ts ms w w1) (he : e ∉ ts) (hm : ∀ k ∈ ms, ∃ es c, w.heap[k]? = some (.map es c)) : QV w1 base e v us :=
  QV.block h (fun k hk => by
    obtain ⟨_, c2, hc2⟩ := QV.typed h k hk
    refine hf.k k (QV.lt h k hk).2 (fun hin => ?_) (fun cells t fz hc => ?_)
    · obtain ⟨_, _, hmm⟩ := hm k hin
      rw [hmm] at hc2
      cases hc2
    · rw [hc2] at hc
      cases hc
      exact he)
theorem QV.beside {row : Option Nat} (h : QV w base e v us) (hg : w.grownBy w1 row) (hne : ∀ g, v.ownBlock = some g → row ≠ some g) : QV w1 base e v us :=
  QV.block h (fun g hgv => hg.block g (QV.lt h g hgv).2 (fun e2 => hne g hgv e2.symm))
theorem QV.slice (h : QV w base e v us) : ∃ A c, v = .slice A us.length c ∧ us.length ≤ c := q_slice h
theorem QV.at_ {A : Option Addr} {n c : Nat} (h : QV w base e (.slice A n c) us) (j : Nat) (u : Value) (hu : us[j]? = some u) : ∃ ad, A = some ad ∧ w.cell? (ad.add j) = some u := by
  have hj := (List.getElem?_eq_some_iff.1 hu).1
  have hn : n = us.length := by
    obtain ⟨A', c', e, _⟩ := QV.slice h
    injection e
  subst hn
  obtain ⟨ad, ha, hc⟩ := q_cells h (by omega)
  exact ⟨ad, ha, hc j u hu⟩
/-- Elements of a row appended. -/
theorem QV.append (h : QV w base e v us) (hb : base ≤ w.heap.size) (t : TypeId) (z : Value) (bytes : Nat) (ht : Tryz.prog.underlying t = some (.slice e)) (hinfo : (Tryz.prog.info? e).map (fun i => (i.zero, i.size, i.bytes)) = some (some z, 1, bytes)) (hz1 : z.cells.size = 1) (hby : bytes ≤ 1000)
    (A2 : Option Addr) (c2 : Nat) (news : List Value) (hn : ∀ j u, news[j]? = some u → ∃ ad, A2 = some ad ∧ w.cell? (ad.add j) = some u) (h1 : ∀ u ∈ news, u.oneCell' = true) (hl : us.length + news.length ≤ 100000) :
    ∃ A c w1, (Builtin.append_ #[t, t] t #[v, .slice A2 news.length c2]).run Tryz.prog w = .ok (.slice A (us.length + news.length) c) w1 ∧ QV w1 base e (.slice A (us.length + news.length) c) (us ++ news) ∧ w.grownBy w1 v.ownBlock ∧ ((Value.slice A (us.length + news.length) c).ownBlock = v.ownBlock ∨ ∃ g, (Value.slice A (us.length + news.length) c).ownBlock = some g ∧ w.heap.size ≤ g) := by
  obtain ⟨i0, hi, hz, hsz, hby1⟩ := info_parts hinfo
  by_cases h0 : news = []
  · subst h0
    obtain ⟨A, c, rfl, hcap⟩ := QV.slice h
    refine ⟨A, c, w, ?_, by rw [List.append_nil]; exact h, World.grownBy.refl w _, .inl rfl⟩
    cases A with
    | none => cases A2 with
      | none => simp [Builtin.append_, run_underlying ht, sizeOf, typeInfo, hi, Builtin.lenOf, Builtin.firstCells, loadCells, loadCellsFrom, storeCells, hcap]
      | some a => simp [Builtin.append_, run_underlying ht, sizeOf, typeInfo, hi, Builtin.lenOf, Builtin.firstCells, loadCells, loadCellsFrom, storeCells, hcap]
    | some b => cases A2 with
      | none => simp [Builtin.append_, run_underlying ht, sizeOf, typeInfo, hi, Builtin.lenOf, Builtin.firstCells, loadCells, loadCellsFrom, storeCells, hcap]
      | some a => simp [Builtin.append_, run_underlying ht, sizeOf, typeInfo, hi, Builtin.lenOf, Builtin.firstCells, loadCells, loadCellsFrom, storeCells, hcap]
  · have hp := List.length_pos_iff.2 h0
    obtain ⟨ad, rfl, _⟩ := hn 0 _ (List.getElem?_eq_getElem hp)
    obtain ⟨v1, w1, hr, hq, hg, hloc⟩ := q_append (P := Tryz.prog) w base t t e i0 z 1 bytes ht hi hz hsz hby1 hz1 (by decide) v us.length us h ad news.length c2 news (by rw [Nat.mul_one]) (fun j u hj => by
      obtain ⟨ad', e1, h2⟩ := hn j u hj
      cases e1
      exact h2) h1 hp (by simp only [maxLen]; omega) (Nat.le_trans (Nat.mul_le_mul hl hby) (by decide)) hb
    have hq2 : QV w1 base e v1 (us ++ news) := by
      unfold QV
      rw [List.length_append]
      exact hq
    obtain ⟨A, c, rfl, _⟩ := QV.slice hq2
    rw [List.length_append] at hr hq2 hloc
    exact ⟨A, c, w1, hr, hq2, hg, hloc⟩
/-- One element appended. -/
theorem QV.push (h : QV w base e v us) (hb : base ≤ w.heap.size) (t : TypeId) (z : Value) (bytes : Nat) (ht : Tryz.prog.underlying t = some (.slice e)) (hinfo : (Tryz.prog.info? e).map (fun i => (i.zero, i.size, i.bytes)) = some (some z, 1, bytes)) (hz1 : z.cells.size = 1) (hby : bytes ≤ 1000) (u : Value) (hu : u.oneCell' = true) (hl : us.length ≤ 10000) :
    ∃ A c w1, (Builtin.append_ #[t, t] t #[v, .slice (some ⟨w.heap.size, 0, none⟩) 1 1]).run Tryz.prog (w.alloc (.cells #[u] e)) = .ok (.slice A (us.length + 1) c) w1 ∧ QV w1 base e (.slice A (us.length + 1) c) (us ++ [u]) ∧ w.grownBy w1 v.ownBlock ∧ ((Value.slice A (us.length + 1) c).ownBlock = v.ownBlock ∨ ∃ g, (Value.slice A (us.length + 1) c).ownBlock = some g ∧ w.heap.size ≤ g) := by
  have ha := below_alloc (Below.refl w.heap.size w) (.cells #[u] e)
  have hnew := blk_new w (.cells #[u] e)
  obtain ⟨A, c, w1, hr, hq, hg, hloc⟩ := QV.append (QV.below h ha) (by rw [World.size_alloc]; omega) t z bytes ht hinfo hz1 hby (some ⟨w.heap.size, 0, none⟩) 1 [u] (fun j x hj => ⟨_, rfl, by
    rw [add_plain, blk_cell hnew]
    simpa using hj⟩) (by intro x hx; rw [List.mem_singleton.1 hx]; exact hu) (by show _ + 1 ≤ _; omega)
  refine ⟨A, c, w1, hr, hq, ⟨hg.os.trans ha.os, hg.tape.trans ha.tape, hg.output.trans ha.output, Nat.le_trans ha.size hg.size, fun k hk hne => (hg.block k (Nat.lt_of_lt_of_le hk ha.size) hne).trans (ha.block k hk)⟩, ?_⟩
  rcases hloc with h1 | ⟨g, h1, h2⟩
  · exact .inl h1
  · exact .inr ⟨g, h1, Nat.le_trans ha.size h2⟩
theorem Ap.grow {u v1 : Value} {us2 : List Value} {e2 : Nat} (h : Ap v u) (hu : QV w base e2 u us2) (hloc : v1.ownBlock = v.ownBlock ∨ ∃ g, v1.ownBlock = some g ∧ w.heap.size ≤ g) : Ap v1 u := fun k hk hku => by
  rcases hloc with h1 | ⟨g, h1, h2⟩
  · exact h k (h1 ▸ hk) hku
  · rw [h1] at hk
    have := (QV.lt hu k hku).2
    have := Option.some.inj hk
    omega
/-- The first element goes. -/
theorem QV.tail {A : Option Addr} {n c : Nat} {u : Value} (h : QV w base e (.slice A n c) (u :: us)) (t : TypeId) (z : Value) (bytes : Nat) (ht : Tryz.prog.underlying t = some (.slice e)) (hinfo : (Tryz.prog.info? e).map (fun i => (i.zero, i.size, i.bytes)) = some (some z, 1, bytes)) :
    ∃ A1, (∀ W : World, (Instr.slice t (.slice A n c) (some (.int .i64 1)) none none).run Tryz.prog W = .ok (.slice A1 (n - 1) (c - 1)) W) ∧ QV w base e (.slice A1 (n - 1) (c - 1)) us ∧ ∀ k, (Value.slice A1 (n - 1) (c - 1)).ownBlock = some k → (Value.slice A n c).ownBlock = some k := by
  obtain ⟨i0, hi, _, hsz, _⟩ := info_parts hinfo
  have hn : n = us.length + 1 := by
    obtain ⟨A', c', e, _⟩ := QV.slice h
    injection e
  subst hn
  have h1 := cut_from (P := Tryz.prog) t e .i64 ht hi 1 hsz A (us.length + 1) c 1 (by omega) (by omega)
  refine ⟨if c = 1 then A else A.map (fun (x : Addr) => x.add (1 * 1)), fun W => h1 W, ?_, fun k hk => ?_⟩
  · have h2 := q_drop (k := 1) h (by omega)
    exact h2
  · split at hk
    · cases A with
      | none => cases hk
      | some a => exact hk
    · cases A with
      | none => cases hk
      | some a =>
        have : (a.add (1 * 1)).block = k := Option.some.inj hk
        rw [← this]
        unfold Addr.add
        split <;> rfl
end
theorem LKat.fm {w w1 : World} {L base' : Nat} {ts : List TypeId} {ms : List Nat} {v : Value} (h : LKat w L v) (hf : Fm base' ts ms w w1) (h1 : 63 ∉ ts) (hm : ∀ k ∈ ms, ∃ es c, w.heap[k]? = some (.map es c)) : LKat w1 L v :=
  (hf.k L h.lt (fun hin => by obtain ⟨_, _, hmm⟩ := hm L hin; rw [h] at hmm; cases hmm) (fun c t fz hc => by rw [h] at hc; cases hc; exact h1)).trans h
theorem LR.fm {w w1 : World} {base base' : Nat} {ts : List TypeId} {ms : List Nat} {v : Value} {zs : List (Ask × Sc)} (h : LR w base v zs) (hf : Fm base' ts ms w w1) (h1 : 69 ∉ ts) (h2 : 9 ∉ ts) (hm : ∀ k ∈ ms, ∃ es c, w.heap[k]? = some (.map es c)) : LR w1 base v zs :=
  h.move fun k _ hlt hq => by
    obtain ⟨cells, q, hq, hc⟩ := hq
    refine hf.k k hlt (fun hin => by obtain ⟨_, _, hmm⟩ := hm k hin; rw [hc] at hmm; cases hmm) (fun c t fz hc2 => ?_)
    rw [hc] at hc2
    cases hc2
    rcases hq with rfl | rfl
    · exact h1
    · exact h2
theorem MF.fm {κ : Type} {C : KC κ} {w w1 : World} {b n base' : Nat} {F : κ → Option Value} {ts : List TypeId} {ms : List Nat} (h : MF C w b n F) (hf : Fm base' ts ms w w1) (hb : b ∉ ms) : MF C w1 b n F := by
  obtain ⟨_, _, hm⟩ := h.isMap
  exact h.kept (hf.k b h.lt hb (fun c t fz hc => by rw [hm] at hc; cases hc))
/-- A row's growth, as a frame. -/
theorem QV.frame {w w1 : World} {base e : Nat} {v : Value} {us : List Value} (h : QV w base e v us) (hb : base ≤ w.heap.size) (hg : w.grownBy w1 v.ownBlock) : Fm base [e] [] w w1 :=
  Fm.grown hg hb (fun k hk => by
    obtain ⟨h1, cells, hc⟩ := QV.typed h k hk
    exact ⟨h1, .inr ⟨cells, e, _, hc, by simp⟩⟩)
end Go.Proofs.YtgoephcembgmcaaGreatDoor.G
namespace Go.Proofs.YtgoephcembgmcaaGreatDoor.G
open Go.RowKit Go.Maps Go.Proofs.YtgoephcembgmcaaGreatDoorW.PrintWords Go.Proofs.YtgoephcembgmcaaGreatDoorW.PrintLast
/-! The store as the law sees it: the versions that are looked at (vs), the maps that say what they hold (pl), the map of what is wanted. -/
structure VW (base S T b pb wm : Nat) (w : World) (vs : List Int) (pl : List (Int × Nat)) (g : ByteArray → List St) (now : Nat) (Wf : ByteArray → Option Value) (kp kw : Nat) : Prop where
  hm : wm ≠ b ∧ wm ≠ pb ∧ base ≤ wm
  px : ∀ x ∈ pl, x.1 ∈ vs ∧ (x.2 ≠ b ∧ x.2 ≠ pb ∧ x.2 ≠ wm) ∧ ∃ nk, MF CS w x.2 nk (mapOf g x.1)
  st : ∃ F P n np nw, ViewAt w base S T b pb n np now vs.length F g P ∧ VI g now P ∧ (∀ v, P v = vs.count v) ∧ n ≤ 64 ∧ np ≤ kp ∧ MF CS w wm nw Wf ∧ nw ≤ kw
section
variable {base S T b pb wm : Nat} {w w1 : World} {vs : List Int} {pl : List (Int × Nat)} {g : ByteArray → List St} {now : Nat} {Wf : ByteArray → Option Value} {kp kw : Nat}
theorem VW.fm {base' : Nat} {ts : List TypeId} (h : VW base S T b pb wm w vs pl g now Wf kp kw) (hf : Fm base' ts [] w w1) (h0 : 54 ∉ ts) (h1 : 83 ∉ ts) (h2 : 100 ∉ ts) (h3 : 5 ∉ ts) : VW base S T b pb wm w1 vs pl g now Wf kp kw := by
  obtain ⟨F, P, n, np, nw, hv, h4, h5, h6, h7, h8, h9⟩ := h.st
  refine ⟨h.hm, fun x hx => ?_, F, P, n, np, nw, hv.fm hf h0 h1 h2 h3 (fun k hk => by cases hk), h4, h5, h6, h7, h8.fm hf (by simp), h9⟩
  obtain ⟨a1, a2, nk, a3⟩ := h.px x hx
  exact ⟨a1, a2, nk, a3.fm hf (by simp)⟩
theorem VW.below (h : VW base S T b pb wm w vs pl g now Wf kp kw) (hb : Below w.heap.size w w1) : VW base S T b pb wm w1 vs pl g now Wf kp kw := h.fm (ts := []) (Fm.of_below hb (Nat.le_refl _)) (by simp) (by simp) (by simp) (by simp)
theorem VW.cells (h : VW base S T b pb wm w vs pl g now Wf kp kw) : w.cell? ⟨S, 0, none⟩ = some (.pointer (some ⟨T, 0, none⟩)) := by
  obtain ⟨F, P, n, np, nw, hv, _⟩ := h.st
  exact hv.s.cells.1
theorem VW.inb (h : VW base S T b pb wm w vs pl g now Wf kp kw) {v : Int} (hv : v ∈ vs) : 0 ≤ v ∧ v ≤ (now : Int) := by
  obtain ⟨F, P, n, np, nw, _, h4, h5, _⟩ := h.st
  refine h4.pins v ?_
  rw [h5]
  exact Nat.pos_iff_ne_zero.1 (List.count_pos_iff.2 hv)
theorem count_snoc (vs : List Int) (x v : Int) : (vs ++ [x]).count v = updP (fun v => vs.count v) x (vs.count x + 1) v := by
  rw [List.count_append]
  by_cases e : v = x
  · subst e
    rw [updP_same]
    simp
  · rw [updP_other e]
    have : List.count v [x] = 0 := List.count_eq_zero.2 (by simp [e])
    omega
theorem vw_pin (h : VW base S T b pb wm w vs pl g now Wf kp kw) (hbw : base ≤ w.heap.size) (hk : kp ≤ 60) (hvs : vs.length ≤ 60) (hn : now ≤ 400) :
    Calls Tryz.prog 8 #[.pointer (some ⟨S, 0, none⟩)] w fun e w' => e = .returned (.tuple #[.int .i64 (now : Int), .int .i64 0]) ∧ Fm base [54] [pb] w w' ∧ VW base S T b pb wm w' (vs ++ [(now : Int)]) pl g now Wf (kp + 1) kw := by
  obtain ⟨F, P, n, np, nw, hv, h4, h5, h6, h7, h8, h9⟩ := h.st
  have hP : P = fun v => vs.count v := funext h5
  refine (pin_ok base S T b pb n np now vs.length F g P w hv hbw (by omega) (by omega) (by omega) (fun v => by rw [h5]; exact Nat.le_trans (List.count_le_length) (by omega))).mono ?_
  rintro e w' ⟨rfl, hf, hv'⟩
  refine ⟨rfl, hf, h.hm, fun x hx => ?_, F, _, n, np + 1, nw, ?_, h4.pin, fun v => ?_, h6, by omega, h8.fm hf (fun hin => h.hm.2.1 (List.mem_singleton.1 hin)), h9⟩
  · obtain ⟨a1, a2, nk, a3⟩ := h.px x hx
    exact ⟨List.mem_append_left _ a1, a2, nk, a3.fm hf (fun hin => a2.2.1 (List.mem_singleton.1 hin))⟩
  · rw [List.length_append]
    exact hv'
  · rw [count_snoc, hP]
theorem vw_clone (h : VW base S T b pb wm w vs pl g now (mapOf g (now : Int)) kp kw) (hin : (now : Int) ∈ vs) (hk : kw ≤ 1000) :
    Calls Tryz.prog 9 #[.map (some wm)] w fun e w' => ∃ mb, e = .returned (.map (some mb)) ∧ Below w.heap.size w w' ∧ VW base S T b pb wm w' vs (pl ++ [((now : Int), mb)]) g now (mapOf g (now : Int)) kp kw := by
  obtain ⟨F, P, n, np, nw, hv, h4, h5, h6, h7, h8, h9⟩ := h.st
  refine (mclone_ok wm nw (mapOf g (now : Int)) w h8 (by omega)).mono ?_
  rintro e w' ⟨rfl, hm', hb⟩
  have h' := h.below hb
  refine ⟨w.heap.size, rfl, hb, h'.hm, fun x hx => ?_, h'.st⟩
  rcases List.mem_append.1 hx with hx | hx
  · exact h'.px x hx
  · rw [List.mem_singleton.1 hx]
    have l1 := hv.t.r.1.lt
    have l2 := hv.p.lt
    have l3 := h8.lt
    exact ⟨hin, ⟨by show w.heap.size ≠ b; omega, by show w.heap.size ≠ pb; omega, by show w.heap.size ≠ wm; omega⟩, nw, hm'⟩
theorem vw_check (h : VW base S T b pb wm w vs pl g now Wf kp kw) (hG : Glob w) (hn : now ≤ 400) (cs : List Ch) (A0 : Option Addr) (c0 : Nat) (hC : HR_ w base (.slice A0 cs.length c0) cs) (hm : cs.length ≤ 400) (hps : ∀ c ∈ cs, c.pth.size ≤ 10000) :
    Calls Tryz.prog 11 #[.pointer (some ⟨T, 0, none⟩), .slice A0 cs.length c0] w fun e w' => (∃ v, e = .returned v ∧ ((v = .nilIface ∧ ∀ ls, Lists g (now : Int) ls → CanL (cs.map (·.pth)) ls) ∨ ∃ gg, v = .iface 76 (.pointer (some ⟨gg, 0, none⟩)))) ∧ Below w.heap.size w w' := by
  obtain ⟨F, P, n, np, nw, hv, h4, h5, h6, h7, h8, h9⟩ := h.st
  refine (check_ok base T b n now F g cs A0 c0 w hG hv.t (by omega) (fun p => Nat.le_trans (h4.len p) (by omega)) h4.wf (by omega) hC (by omega) hps).mono ?_
  rintro e w' ⟨⟨v, ls, rfl, hls, ht⟩, hb⟩
  refine ⟨⟨v, rfl, ?_⟩, hb⟩
  rcases ht with ⟨h1, h2⟩ | ⟨_, h2⟩
  · exact .inl ⟨h2, fun ls2 hls2 => h1.perm (hls.perm hls2)⟩
  · exact .inr h2
theorem vw_commit (h : VW base S T b pb wm w vs pl g now Wf kp kw) (hbw : base ≤ w.heap.size) (hG : Glob w) (hn : now ≤ 300) (hkp : kp ≤ 400) (cs : List Ch) (A0 : Option Addr) (c0 : Nat) (mk : Int) (hC : HR_ w base (.slice A0 cs.length c0) cs) (hm : cs.length ≤ 400) (hps : ∀ c ∈ cs, c.pth.size ≤ 10000) (hmk : ∀ c ∈ cs, c.mrk = mk)
    (hcan : ∀ ls, Lists g (now : Int) ls → CanL (cs.map (·.pth)) ls) :
    Calls Tryz.prog 12 #[.pointer (some ⟨S, 0, none⟩), .slice A0 cs.length c0] w fun e w' => e = .returned (.tuple #[.int .i64 ((now + 1 : Nat) : Int), .nilIface]) ∧ Fm base [83, 100] [b] w w' ∧ ∃ g2, VW base S T b pb wm w' vs pl g2 (now + 1) Wf kp kw ∧
      ∀ p, (p ∈ cs.map (·.pth) → mapOf g2 ((now + 1 : Nat) : Int) p = some (.int .u8 mk)) ∧ (p ∉ cs.map (·.pth) → mapOf g2 ((now + 1 : Nat) : Int) p = mapOf g (now : Int) p) := by
  obtain ⟨F, P, n, np, nw, hv, h4, h5, h6, h7, h8, h9⟩ := h.st
  refine (vcommit_ok base S T b pb n np now vs.length F g P cs A0 c0 mk w hG hv hbw (by omega) (by omega) (fun p => Nat.le_trans (h4.len p) (by omega)) h4.wf (by omega) hC hm hps hmk hcan).mono ?_
  rintro e w' ⟨rfl, hf, F2, g', ks, hks, hpu, hv2⟩
  obtain ⟨ls, hls, _⟩ := hv.t.lists (now : Int)
  have hcl := hcan ls hls
  obtain ⟨c1, c2, c3, c4⟩ := h4.commit hpu hcl.1 hks
  obtain ⟨qs, hq, _⟩ := hv2.t.r.1.keys
  have hle := keys_le h4 hls hcl c4 (fun p => hv2.t.r.some_iff p) hq
  have hv3 : ViewAt w' base S T b pb qs.length np (now + 1) vs.length F2 (fun p => kept ((now + 1 : Nat) : Int) ks (g' p)) P :=
    ⟨hv2.s, ⟨hv2.t.c, ⟨hv2.t.r.1.tight hq, hv2.t.r.2⟩, hv2.t.hT, hv2.t.hb⟩, hv2.p, hv2.hS, hv2.hp, hv2.ne⟩
  refine ⟨rfl, hf, _, ⟨h.hm, fun x hx => ?_, F2, P, qs.length, np, nw, hv3, c1, h5, hle, h7, h8.fm hf (fun hin => h.hm.1 (List.mem_singleton.1 hin)), h9⟩, c3⟩
  obtain ⟨a1, a2, nk, a3⟩ := h.px x hx
  refine ⟨a1, a2, nk, ?_⟩
  rw [c2 x.1 (by rw [h5]; exact Nat.pos_iff_ne_zero.1 (List.count_pos_iff.2 a1))]
  exact a3.fm hf (fun hin => a2.1 (List.mem_singleton.1 hin))
/-- The map of what is wanted is written. -/
theorem vw_put (h : VW base S T b pb wm w vs pl g now Wf kp kw) (hbw : base ≤ w.heap.size) (hk : kw ≤ 1000) (p : ByteArray) (hp : p.size ≤ 10000) (v : Value) :
    ∃ w', (Instr.mapUpdate 39 (.map (some wm)) (.string p) v).run Tryz.prog w = .ok () w' ∧ Fm base [] [wm] w w' ∧ VW base S T b pb wm w' vs pl g now (upd Wf p (some v)) kp (kw + 1) := by
  obtain ⟨F, P, n, np, nw, hv, h4, h5, h6, h7, h8, h9⟩ := h.st
  obtain ⟨w', hr, hm', ht⟩ := h8.put (t := 39) Tryz.underlying39 (by simp only [maxLen]; omega) (x := p) (show p.size ≤ maxLen from by simp only [maxLen]; omega) v
  have hf : Fm base [] [wm] w w' := Fm.grown ht.grown hbw (fun k hk => by
    cases hk
    exact ⟨h.hm.2.2, .inl (by simp)⟩)
  refine ⟨w', hr, hf, h.hm, fun x hx => ?_, F, P, n, np, nw + 1, hv.fm hf (by simp) (by simp) (by simp) (by simp) (fun k hk => by
    rw [List.mem_singleton.1 hk]
    exact ⟨h.hm.1, h.hm.2.1, h8.isMap⟩), h4, h5, h6, h7, hm', by omega⟩
  obtain ⟨a1, a2, nk, a3⟩ := h.px x hx
  exact ⟨a1, a2, nk, a3.fm hf (fun hin => a2.2.2 (List.mem_singleton.1 hin))⟩
theorem vw_like (h : VW base S T b pb wm w vs pl g now Wf kp kw) (hG : Glob w) (hn : now ≤ 400) (x : Int × Nat) (hx : x ∈ pl) :
    Calls Tryz.prog 14 #[.pointer (some ⟨S, 0, none⟩), .int .i64 x.1, .map (some x.2)] w fun e w' => e = .returned (.bool true) ∧ Below w.heap.size w w' := by
  obtain ⟨F, P, n, np, nw, hv, h4, h5, h6, h7, h8, h9⟩ := h.st
  obtain ⟨a1, a2, nk, a3⟩ := h.px x hx
  have hi := h.inb a1
  exact like_ok base S T b pb n np now vs.length x.2 nk F g P x.1 w hG hv (by omega) hi.1 hi.2 (.inr (by rw [h5]; exact Nat.pos_iff_ne_zero.1 (List.count_pos_iff.2 a1))) (by omega) (fun p => Nat.le_trans (h4.len p) (by omega)) h4.wf a3
theorem vw_like_now (h : VW base S T b pb wm w vs pl g now (mapOf g (now : Int)) kp kw) (hG : Glob w) (hn : now ≤ 400) :
    Calls Tryz.prog 14 #[.pointer (some ⟨S, 0, none⟩), .int .i64 (now : Int), .map (some wm)] w fun e w' => e = .returned (.bool true) ∧ Below w.heap.size w w' := by
  obtain ⟨F, P, n, np, nw, hv, h4, h5, h6, h7, h8, h9⟩ := h.st
  exact like_ok base S T b pb n np now vs.length wm nw F g P (now : Int) w hG hv (by omega) (Int.natCast_nonneg _) (Int.le_refl _) (.inl rfl) (by omega) (fun p => Nat.le_trans (h4.len p) (by omega)) h4.wf h8
theorem vw_unpin {v : Int} (h : VW base S T b pb wm w (v :: vs) [] g now (mapOf g (now : Int)) kp kw) (hbw : base ≤ w.heap.size) (hn : now ≤ 400) (hkp : kp ≤ 400) (hl : vs.length ≤ 400) :
    Calls Tryz.prog 15 #[.pointer (some ⟨S, 0, none⟩), .int .i64 v] w fun e w' => e = .returned (.int .i64 0) ∧ Fm base [54] [b, pb] w w' ∧ ∃ g2, VW base S T b pb wm w' vs [] g2 now (mapOf g2 (now : Int)) (kp + 1) kw := by
  have hi := h.inb (List.mem_cons_self ..)
  obtain ⟨F, P, n, np, nw, hv, h4, h5, h6, h7, h8, h9⟩ := h.st
  have hPv : P v = vs.count v + 1 := by rw [h5]; simp
  have hcnt : ∀ x, updP P v (P v - 1) x = vs.count x := fun x => by
    by_cases e : x = v
    · subst e
      rw [updP_same, hPv]
      omega
    · rw [updP_other e, h5, List.count_cons_of_ne (fun e2 => e e2.symm)]
  have hcb := List.count_le_length (a := v) (l := vs)
  refine (unpin_ok base S T b pb n np now (vs.length + 1) F g P v w hv hbw (by omega) (by omega) (fun p => Nat.le_trans (h4.len p) (by omega)) (by omega) h4.wf.le (by omega) (by omega) (by omega) (by omega)).mono ?_
  rintro e w' ⟨rfl, hf, F', g', hv', hg⟩
  have hwm : wm ∉ [b, pb] := fun hin => by
    simp only [List.mem_cons, List.mem_nil_iff, or_false] at hin
    rcases hin with e | e
    · exact h.hm.1 e
    · exact h.hm.2.1 e
  rcases hg with ⟨hne, rfl⟩ | ⟨h1, ks, hks, rfl⟩
  · exact ⟨rfl, hf, g', h.hm, (fun x hx => by cases hx), F', _, n, np + 1, nw, hv', h4.unpin v (by omega) hne, hcnt, h6, by omega, h8.fm hf hwm, h9⟩
  · obtain ⟨t1, t2, t3⟩ := h4.tidy (P' := updP P v 0) (ks := ks) (fun x hx => by
      by_cases e : x = v
      · rw [e]; omega
      · rw [updP_other e] at hx
        exact hx) hks
    have e0 : P v - 1 = 0 := by omega
    rw [e0] at hv' hcnt
    refine ⟨rfl, hf, _, h.hm, (fun x hx => by cases hx), F', _, n, np + 1, nw, hv', t1, hcnt, h6, by omega, ?_, h9⟩
    rw [t3]
    exact h8.fm hf hwm
theorem vw_now (h : VW base S T b pb wm w vs pl g now Wf kp kw) : Calls Tryz.prog 16 #[.pointer (some ⟨T, 0, none⟩)] w fun e w' => e = .returned (.int .i64 (now : Int)) ∧ w' = w := by
  obtain ⟨F, P, n, np, nw, hv, _⟩ := h.st
  exact now_ok base T b n now F g w hv.t
theorem vw_states (h : VW base S T b pb wm w [] pl g now (mapOf g (now : Int)) kp kw) (hn : now ≤ 400) : ∃ M : Nat, (Calls Tryz.prog 17 #[.pointer (some ⟨T, 0, none⟩)] w fun e w' => e = .returned (.int .i64 (M : Int)) ∧ Below w.heap.size w w') ∧ ∀ W ty, Below w.heap.size w W → (Builtin.len_ #[39] ty #[.map (some wm)]).run Tryz.prog W = .ok (.int .i64 (M : Int)) W := by
  obtain ⟨F, P, n, np, nw, hv, h4, h5, h6, h7, h8, h9⟩ := h.st
  obtain ⟨rs, hr, _⟩ := h8.keys
  refine ⟨rs.length, (states_ok base T b n now F g w hv.t (by omega) (fun p => Nat.le_trans (h4.len p) (by omega))).mono ?_, fun W ty hb => (h8.below hb).len (t := 39) (e := 5) Tryz.underlying39 ty hr⟩
  rintro e w' ⟨⟨qs, hq, rfl⟩, hb⟩
  refine ⟨?_, hb⟩
  rw [total_one h4 (fun v => by rw [h5]; rfl) (fun p => hv.t.r.some_iff p) hq hr]
theorem VW.mono (h : VW base S T b pb wm w vs pl g now Wf kp kw) {kp' kw' : Nat} (h1 : kp ≤ kp') (h2 : kw ≤ kw') : VW base S T b pb wm w vs pl g now Wf kp' kw' := by
  obtain ⟨F, P, n, np, nw, hv, h4, h5, h6, h7, h8, h9⟩ := h.st
  exact ⟨h.hm, h.px, F, P, n, np, nw, hv, h4, h5, h6, by omega, h8, by omega⟩
theorem VW.few (h : VW base S T b pb wm w vs pl g now Wf kp kw) : VW base S T b pb wm w vs [] g now Wf kp kw := ⟨h.hm, fun x hx => (by cases hx), h.st⟩
theorem vw_start (w : World) (base S T b pb : Nat) (hv : ViewAt w base S T b pb 0 0 0 0 (fun _ => none) (fun _ => []) (fun _ => 0)) (hb : base ≤ w.heap.size) : VW base S T b pb w.heap.size (w.alloc (.map #[] 0)) [] [] (fun _ => []) 0 (mapOf (fun _ => []) ((0 : Nat) : Int)) 0 0 := by
  have l1 := hv.t.r.1.lt
  have l2 := hv.p.lt
  have ha := below_alloc (Below.refl w.heap.size w) (.map #[] 0)
  refine ⟨⟨by omega, by omega, hb⟩, (fun x hx => by cases hx), _, _, 0, 0, 0, hv.below ha, VI.start, fun v => rfl, by omega, by omega, ?_, by omega⟩
  exact MF.made w
end
end Go.Proofs.YtgoephcembgmcaaGreatDoor.G
namespace Go.Proofs.YtgoephcembgmcaaGreatDoor.G
open Go.RowKit Go.Maps Go.Proofs.YtgoephcembgmcaaGreatDoorW.PrintWords Go.Proofs.YtgoephcembgmcaaGreatDoorW.PrintLast
/-! The locks and the rows as the law sees them. -/
theorem info39 : (Tryz.prog.info? 39).map (fun i => (i.zero, i.size, i.bytes)) = some (some (.map none), 1, 8) := by kernel_rfl
structure Lq (base L : Nat) (w wq : World) (zs : List (Ask × Sc)) (lv vr vp vs : Value) (rd : List Int) (us ms : List Value) : Prop where
  lk : LKat wq L lv
  lr : LR wq base lv zs
  hL : base ≤ L
  qr : QV wq base 3 vr (rd.map (Value.int .i64))
  qp : QV wq base 3 vp us
  qs : QV wq base 39 vs ms
  ap : Ap vr vp
  bw : Below base w wq
  sz : base ≤ wq.heap.size
section
variable {base L : Nat} {w wq w1 : World} {zs zs' : List (Ask × Sc)} {lv lv' vr vp vs : Value} {rd : List Int} {us ms : List Value}
theorem Lq.fm {ts : List TypeId} {mm : List Nat} (h : Lq base L w wq zs lv vr vp vs rd us ms) (hf : Fm base ts mm wq w1) (h1 : 63 ∉ ts) (h2 : 69 ∉ ts) (h3 : 9 ∉ ts) (h4 : 3 ∉ ts) (h5 : 39 ∉ ts) (hm : ∀ k ∈ mm, ∃ es c, wq.heap[k]? = some (.map es c)) : Lq base L w w1 zs lv vr vp vs rd us ms :=
  ⟨h.lk.fm hf h1 hm, h.lr.fm hf h2 h3 hm, h.hL, h.qr.fm hf h4 hm, h.qp.fm hf h4 hm, h.qs.fm hf h5 hm, h.ap, h.bw.trans hf.b, Nat.le_trans h.sz hf.b.size⟩
theorem Lq.below (h : Lq base L w wq zs lv vr vp vs rd us ms) (hb : Below wq.heap.size wq w1) : Lq base L w w1 zs lv vr vp vs rd us ms :=
  h.fm (ts := []) (mm := []) (Fm.of_below hb h.sz) (by simp) (by simp) (by simp) (by simp) (by simp) (fun k hk => by cases hk)
theorem Lq.locks (h : Lq base L w wq zs lv vr vp vs rd us ms) (hf : Fr base [69, 63] wq w1) (h1 : LKat w1 L lv') (h2 : LR w1 base lv' zs') : Lq base L w w1 zs' lv' vr vp vs rd us ms :=
  ⟨h1, h2, h.hL, h.qr.fm (Fm.fr (ms := []) hf) (by decide) (fun k hk => by cases hk), h.qp.fm (Fm.fr (ms := []) hf) (by decide) (fun k hk => by cases hk), h.qs.fm (Fm.fr (ms := []) hf) (by decide) (fun k hk => by cases hk), h.ap, h.bw.trans hf.b, Nat.le_trans h.sz hf.b.size⟩
theorem Lq.pushPins (h : Lq base L w wq zs lv vr vp vs rd us ms) (v : Int) (hl : us.length ≤ 1000) :
    ∃ A c w1, (Builtin.append_ #[32, 32] 32 #[vp, .slice (some ⟨wq.heap.size, 0, none⟩) 1 1]).run Tryz.prog (wq.alloc (.cells #[.int .i64 v] 3)) = .ok (.slice A (us.length + 1) c) w1 ∧ Lq base L w w1 zs lv vr (.slice A (us.length + 1) c) vs rd (us ++ [.int .i64 v]) ms ∧ Fm base [3] [] wq w1 := by
  obtain ⟨A, c, w1, hr, hq, hg, hloc⟩ := h.qp.push h.sz 32 (.int .i64 0) 8 Tryz.underlying32 info3 rfl (by decide) (.int .i64 v) rfl (by omega)
  have hF := QV.frame h.qp h.sz hg
  exact ⟨A, c, w1, hr, ⟨h.lk.fm hF (by decide) (fun k hk => by cases hk), h.lr.fm hF (by decide) (by decide) (fun k hk => by cases hk), h.hL, QV.beside h.qr hg (fun k hk e => h.ap k hk e), hq, h.qs.fm hF (by decide) (fun k hk => by cases hk), (Ap.grow h.ap.symm h.qr hloc).symm, h.bw.trans hF.b, Nat.le_trans h.sz hF.b.size⟩, hF⟩
theorem Lq.pushSeen (h : Lq base L w wq zs lv vr vp vs rd us ms) (mb : Nat) (hl : ms.length ≤ 1000) :
    ∃ A c w1, (Builtin.append_ #[40, 40] 40 #[vs, .slice (some ⟨wq.heap.size, 0, none⟩) 1 1]).run Tryz.prog (wq.alloc (.cells #[.map (some mb)] 39)) = .ok (.slice A (ms.length + 1) c) w1 ∧ Lq base L w w1 zs lv vr vp (.slice A (ms.length + 1) c) rd us (ms ++ [.map (some mb)]) ∧ Fm base [39] [] wq w1 := by
  obtain ⟨A, c, w1, hr, hq, hg, hloc⟩ := h.qs.push h.sz 40 (.map none) 8 Tryz.underlying40 info39 rfl (by decide) (.map (some mb)) rfl (by omega)
  have hF := QV.frame h.qs h.sz hg
  exact ⟨A, c, w1, hr, ⟨h.lk.fm hF (by decide) (fun k hk => by cases hk), h.lr.fm hF (by decide) (by decide) (fun k hk => by cases hk), h.hL, h.qr.fm hF (by decide) (fun k hk => by cases hk), h.qp.fm hF (by decide) (fun k hk => by cases hk), hq, h.ap, h.bw.trans hF.b, Nat.le_trans h.sz hF.b.size⟩, hF⟩
theorem Lq.more {A2 : Option Addr} {n2 c2 : Nat} (h : Lq base L w wq zs lv vr vp vs rd us ms) (b2 : Nat) (ys : List Int) (hy : IR wq b2 (.slice A2 n2 c2) ys) (hl : rd.length + ys.length ≤ 10000) :
    ∃ A c w1, (Builtin.append_ #[32, 32] 32 #[vr, .slice A2 n2 c2]).run Tryz.prog wq = .ok (.slice A (rd.length + ys.length) c) w1 ∧ Lq base L w w1 zs lv (.slice A (rd.length + ys.length) c) vp vs (rd ++ ys) us ms ∧ Fm base [3] [] wq w1 := by
  obtain ⟨_, _, e, _⟩ := hy.slice
  obtain rfl : n2 = ys.length := by injection e
  obtain ⟨A, c, w1, hr, hq, hg, hloc⟩ := h.qr.append h.sz 32 (.int .i64 0) 8 Tryz.underlying32 info3 rfl (by decide) A2 c2 (ys.map (Value.int .i64)) (fun j u hj => by
    rw [List.getElem?_map] at hj
    cases hy2 : ys[j]? with
    | none => rw [hy2] at hj; cases hj
    | some y =>
      rw [hy2] at hj
      obtain ⟨ad, h1, h2⟩ := IR.at_ hy j y hy2
      exact ⟨ad, h1, by rw [h2]; exact hj⟩) (by intro u hu; obtain ⟨x, _, rfl⟩ := List.mem_map.1 hu; rfl) (by rw [List.length_map, List.length_map]; omega)
  rw [List.length_map, List.length_map] at hr hq hloc
  rw [← List.map_append] at hq
  have hF := QV.frame h.qr h.sz hg
  exact ⟨A, c, w1, hr, ⟨h.lk.fm hF (by decide) (fun k hk => by cases hk), h.lr.fm hF (by decide) (by decide) (fun k hk => by cases hk), h.hL, hq, QV.beside h.qp hg (fun k hk e => h.ap.symm k hk e), h.qs.fm hF (by decide) (fun k hk => by cases hk), Ap.grow h.ap h.qp hloc, h.bw.trans hF.b, Nat.le_trans h.sz hF.b.size⟩, hF⟩
theorem Lq.tail {A : Option Addr} {n c : Nat} {x : Int} (h : Lq base L w wq zs lv (.slice A n c) vp vs (x :: rd) us ms) :
    ∃ A1, (∀ W : World, (Instr.slice 32 (.slice A n c) (some (.int .i64 1)) none none).run Tryz.prog W = .ok (.slice A1 (n - 1) (c - 1)) W) ∧ Lq base L w wq zs lv (.slice A1 (n - 1) (c - 1)) vp vs rd us ms := by
  obtain ⟨A1, h1, h2, h3⟩ := QV.tail (us := rd.map (Value.int .i64)) (u := .int .i64 x) h.qr 32 (.int .i64 0) 8 Tryz.underlying32 info3
  exact ⟨A1, h1, h.lk, h.lr, h.hL, h2, h.qp, h.qs, fun k hk => h.ap k (h3 k hk), h.bw, h.sz⟩
end
end Go.Proofs.YtgoephcembgmcaaGreatDoor.G
