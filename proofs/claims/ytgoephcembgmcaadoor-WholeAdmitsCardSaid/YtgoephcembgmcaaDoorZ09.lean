/- Texts of the proof, merged: Al2. -/
import Derived.Test.YtgoephcembgmcaaDoorZ08
import Derived.Sort.MapsRangeIn
set_option linter.unusedSimpArgs false
set_option linter.unusedVariables false
namespace Go.Proofs.YtgoephcembgmcaaDoor.Cf
open Go.RowKit Go.Maps Go.Proofs.YtgoephcembgmcaaDoorW.PrintWords Go.Proofs.YtgoephcembgmcaaDoorW.PrintLast Go.Proofs.YtgoephcembgmcaaDoor.Wk Go.Proofs.YtgoephcembgmcaaDoor.Fr Go.Proofs.YtgoephcembgmcaaDoor.Sh Go.Proofs.YtgoephcembgmcaaDoor.Sl
open Go.Proofs.YtgoephcembgmcaaDoor.WkM (w64 Bytes)
/-! The law. -/
def T4_3 : Bool × List (List Nat × List Nat) := (true, [([], []), ([0], [0]), ([1], [1]), ([2], [2]), ([3, 2], [2, 3]), ([2, 4], [2, 4]), ([5, 2], [5]), ([6], [6]), ([6], [6]), ([6], [6]), ([9, 6, 6], [6, 9]), ([7, 8, 10, 10, 6], [6, 7, 8, 10]), ([11, 6], [6, 11]), ([6, 12], [6, 12])])
def BT4_3 : List Nat := [0, 1, 3, 7, 15, 31, 63, 127, 127, 127, 639, 2047, 4095, 8191]
theorem tabT4_3 : rtab .any (opsOf Tryd.f4 3) = T4_3 := by kernel_rfl
theorem bitsT4_3 : waitsOk T4_3.2 BT4_3 = true := by kernel_rfl
def T4_21 : Bool × List (List Nat × List Nat) := (true, [([], []), ([], []), ([1], [1]), ([], []), ([3], [3]), ([], []), ([5], [5]), ([], []), ([7], [7]), ([], []), ([9], [9]), ([6, 8, 10], [6, 8, 10]), ([0, 2, 4, 11, 11], [0, 2, 4, 11]), ([12, 12, 0, 1, 2, 3, 4, 5, 6, 7, 8, 9, 10, 11, 12], [12])])
def BT4_21 : List Nat := [0, 0, 2, 0, 8, 0, 32, 0, 128, 0, 512, 2016, 4095, 8191]
theorem tabT4_21 : rtab .any (opsOf Tryd.f4 21) = T4_21 := by kernel_rfl
theorem bitsT4_21 : waitsOk T4_21.2 BT4_21 = true := by kernel_rfl
def T4_23 : Bool × List (List Nat × List Nat) := (true, [([], []), ([0], [0]), ([1], [1]), ([2], [2]), ([3, 2, 2], [2, 3]), ([4], [4]), ([4], [4]), ([6, 4], [4, 6]), ([4], [4]), ([8, 4], [4, 8]), ([5, 7, 9, 4, 4], [4, 5, 7, 9]), ([4], [4]), ([11, 4], [4, 11]), ([4], [4]), ([13, 4], [4, 13]), ([4], [4]), ([15, 4], [4, 15]), ([12, 14, 16, 10, 4], [4, 12, 14, 16]), ([10, 17, 4], [4, 10, 17]), ([4, 18, 2], [2, 4, 18]), ([19, 2], [2, 19]), ([2, 20], [2, 20])])
def BT4_23 : List Nat := [0, 1, 3, 7, 15, 31, 31, 95, 31, 287, 1023, 31, 2079, 31, 8223, 31, 32799, 131071, 262143, 524287, 1048575, 2097151]
theorem tabT4_23 : rtab .any (opsOf Tryd.f4 23) = T4_23 := by kernel_rfl
theorem bitsT4_23 : waitsOk T4_23.2 BT4_23 = true := by kernel_rfl
theorem secret_size' (us : List Usr) (u : ByteArray) (h : ∀ x ∈ us, x.2.size ≤ 16) : (secretOf us u).1.size ≤ 16 := by
  unfold secretOf
  split
  · rename_i p hp
    exact h p (List.mem_of_find?_eq_some hp)
  · decide
theorem size74 : (Tryd.prog.info? 74).map (·.size) = some 19 := by kernel_rfl
def zero74 : Array Value := #[.string ⟨#[]⟩, .string ⟨#[]⟩, .string ⟨#[]⟩, .int .u8 0, .int .u8 0, .int .u8 0, .int .u8 0, .int .u8 0, .int .u8 0, .int .u8 0, .int .u8 0, .int .u8 0, .int .u8 0, .int .u8 0, .int .u8 0, .int .u8 0, .int .u8 0, .int .u8 0, .int .u8 0]
theorem all_oneCell_toArray {l : List Value} (h : ∀ v ∈ l, v.oneCell' = true) : (l.toArray).all (·.oneCell') = true := by
  rw [Array.all_eq_true_iff_forall_mem]
  intro v hv
  exact h v (by simpa using hv)
theorem zero_bytes : Bytes (List.replicate 16 (0 : Int)) := by
  intro x hx
  rw [(List.mem_replicate.1 hx).2]
  decide
theorem check_fix (A1 : Option Addr) (c1 : Nat) (s : List Int) (w : World) (hC : KU.C w A1 1 [((⟨#[117]⟩, ⟨#[120]⟩) : Usr)]) (hs : s = answer ⟨#[120]⟩ ⟨#[109]⟩ (List.replicate 16 0)) :
    Calls Tryd.prog 14 #[.agg #[.string ⟨#[109]⟩, .string ⟨#[114]⟩, .bool false, .int .i64 1, .int .i64 262144, .slice A1 1 c1], .string ⟨#[117]⟩, .agg (bys (List.replicate 16 0)), .agg (bys s)] w fun e w' => e = .returned (.int .i64 0) ∧ Below w.heap.size w w' := by
  have h := check_ok ⟨#[109]⟩ ⟨#[114]⟩ ⟨#[117]⟩ false 1 262144 A1 c1 1 [((⟨#[117]⟩, ⟨#[120]⟩) : Usr)] (List.replicate 16 0) s w rfl hC (by decide) (fun x hx => by rw [List.mem_singleton.1 hx]; decide) (by decide) rfl zero_bytes (by rw [hs]; exact answer_len _ _ _) (by rw [hs]; exact answer_bytes _ _ _)
  rw [show chk [((⟨#[117]⟩, ⟨#[120]⟩) : Usr)] ⟨#[117]⟩ ⟨#[109]⟩ (List.replicate 16 0) s = 0 by rw [hs]; exact chk_right (by kernel_rfl)] at h
  exact h
set_option maxHeartbeats 1000000 in
set_option maxRecDepth 100000 in
theorem law_any (A0 : Option Addr) (c0 : Nat) (gs : List Gst) (text : ByteArray) (w : World) (hG : Glob w) (hC : Gs w A0 gs) (hc : gs.length ≤ c0) (hgs : ∀ x ∈ gs, Guest x) :
    Calls Tryd.prog 4 #[.string text, .slice A0 gs.length c0] w fun e w' => e = .returned (.bool true) ∧ Below w.heap.size w w' := by
  have HG := hide hG
  have HC := hide hC
  have HGS := hide hgs
  obtain ⟨L, hL⟩ : ∃ z, z = gs.length := ⟨_, rfl⟩
  rw [← hL] at hc ⊢
  have HL := hide hL
  have HCC := hide hc
  clear hG hC hgs hL hc
  go_enter Tryd.func4, Tryd.ntmps4
  go_wp2_with fail
  refine (parse_ok ⟨#[91, 109, 93, 10, 114, 111, 111, 116, 32, 61, 32, 114, 10, 115, 108, 111, 116, 115, 32, 61, 32, 49, 10, 117, 115, 101, 114, 32, 61, 32, 117, 58, 120]⟩ w (unhide HG) (by decide)).mono ?_
  rintro e w1 ⟨A, n, c, ms, v, rfl, k1, k2, hn, hnc, hC, k3, k4, hfix, hb⟩
  clear k1 k2 k3 k4
  obtain ⟨rfl, rfl⟩ := hfix rfl
  obtain rfl : n = 1 := hn
  have hB1 : Below w1.heap.size w1 (w1.alloc (.cells #[.slice A 1 c] 60)) := below_alloc (Below.refl _ _) _
  have hfind := find_ok ⟨#[109]⟩ A c [finM] (w1.alloc (.cells #[.slice A 1 c] 60)) (Kd.C_below (hC w1 (fun _ _ _ => rfl)) hB1) (by decide)
  rw [found_fin] at hfind
  have HB1 := hide hb
  have HB2 := hide (below_step hb hB1)
  clear hnc hC hfix hb hB1
  go_wp2_with fail
  refine hfind.mono ?_
  rintro e w2 ⟨A1, c1, rfl, hc1, hU, hb⟩
  have HB3 := hide (below_step (unhide HB2) hb)
  have QB : Hid (w2.heap[w1.heap.size]? = some (.cells #[.slice A 1 c] 60 (0, 0))) := blk_below (blk_new _ _) hb
  have HU : Hid (KU.C w2 A1 1 [((⟨#[117]⟩, ⟨#[120]⟩) : Usr)]) := hU
  clear hfind hb hc1 hU
  simp only [mv, finM, mFix]
  have e1 : ([((⟨#[117]⟩, ⟨#[120]⟩) : Usr)]).length = 1 := rfl
  simp only [e1]
  clear e1
  go_wp2_with fail
  obtain ⟨q1, hq1⟩ : ∃ z, z = w1.heap.size := ⟨_, rfl⟩
  obtain ⟨g7, hg7⟩ : ∃ z, z = w2.heap.size := ⟨_, rfl⟩
  have CB : Hid ((w2.alloc (.cells #[.string ⟨#[109]⟩, .string ⟨#[114]⟩, .bool false, .int .i64 1, .int .i64 262144, .slice A1 1 c1] 65)).heap[g7]? = some (.cells #[.string ⟨#[109]⟩, .string ⟨#[114]⟩, .bool false, .int .i64 1, .int .i64 262144, .slice A1 1 c1] 65 (0, 0))) := by show _ = _; rw [hg7]; exact blk_new _ _
  have QB3 : Hid ((w2.alloc (.cells #[.string ⟨#[109]⟩, .string ⟨#[114]⟩, .bool false, .int .i64 1, .int .i64 262144, .slice A1 1 c1] 65)).heap[q1]? = some (.cells #[.slice A 1 c] 60 (0, 0))) := by show _ = _; rw [hq1]; exact blk_alloc (unhide QB) _
  have HU3 : Hid (KU.C (w2.alloc (.cells #[.string ⟨#[109]⟩, .string ⟨#[114]⟩, .bool false, .int .i64 1, .int .i64 262144, .slice A1 1 c1] 65)) A1 1 [((⟨#[117]⟩, ⟨#[120]⟩) : Usr)]) := Kd.C_below (unhide HU) (below_alloc (Below.refl _ _) _)
  have HB4 : Hid (Below w.heap.size w (w2.alloc (.cells #[.string ⟨#[109]⟩, .string ⟨#[114]⟩, .bool false, .int .i64 1, .int .i64 262144, .slice A1 1 c1] 65))) := below_alloc (unhide HB3) _
  have Q1 : Hid (w.heap.size ≤ q1) := by show _ ≤ _; rw [hq1]; exact (unhide HB1).size
  rw [← hq1, ← hg7]
  clear hq1 hg7 QB HU HB1 HB2 HB3
  generalize w2.alloc (.cells #[.string ⟨#[109]⟩, .string ⟨#[114]⟩, .bool false, .int .i64 1, .int .i64 262144, .slice A1 1 c1] 65) = w3 at CB QB3 HU3 HB4 ⊢
  replace CB : Hid (w3.drew.heap[g7]? = some (.cells #[.string ⟨#[109]⟩, .string ⟨#[114]⟩, .bool false, .int .i64 1, .int .i64 262144, .slice A1 1 c1] 65 (0, 0))) := unhide CB
  replace QB3 : Hid (w3.drew.heap[q1]? = some (.cells #[.slice A 1 c] 60 (0, 0))) := unhide QB3
  replace HU3 : Hid (KU.C w3.drew A1 1 [((⟨#[117]⟩, ⟨#[120]⟩) : Usr)]) := Kd.C_drew (unhide HU3)
  replace HB4 : Hid (Below w.heap.size w w3.drew) := below_drew (unhide HB4)
  refine start_ (n := 14) (S := fun w' => Below w3.drew.heap.size w3.drew w') (ds := []) #[false, false, false, false, false, false, false, false, false, false, false, false, false, false] (by kernel_rfl) rfl rfl (Below.refl _ _) (fun hHeld => ?_)
  refine with_tabW tabT4_3 bitsT4_3 (fun HT_ HW_ => ?_)
  refine pure_ (i := 0) (N := some 31) (v := ?_) (a' := ?_) #[true, false, false, false, false, false, false, false, false, false, false, false, false, false] rfl rfl (any_of HT_.out (by kernel_rfl)) (fun _ _ _ h => h) (Or.inl ⟨by rfl, ?_⟩) ?_ ?_
  rotate_left
  · intro w'
    go_simp
    with_reducible rfl
  rotate_left
  · simp only [Act.put, List.setIfInBounds_toArray, List.set_cons_zero, List.set_cons_succ, i64_w, i32_w]
    rfl
  refine pure_ (i := 1) (N := some 32) (v := ?_) (a' := ?_) #[true, true, false, false, false, false, false, false, false, false, false, false, false, false] rfl rfl (any_of HT_.out (by kernel_rfl)) (fun _ _ _ h => h) (Or.inl ⟨by rfl, ?_⟩) ?_ ?_
  rotate_left
  · intro w'
    go_simp
    with_reducible rfl
  rotate_left
  · simp only [Act.put, List.setIfInBounds_toArray, List.set_cons_zero, List.set_cons_succ, i64_w, i32_w]
    rfl
  refine pure_ (i := 2) (N := some 33) (v := ?_) (a' := ?_) #[true, true, true, false, false, false, false, false, false, false, false, false, false, false] rfl rfl (any_of HT_.out (by kernel_rfl)) (fun _ _ _ h => h) (Or.inl ⟨by rfl, ?_⟩) ?_ ?_
  rotate_left
  · intro w'
    go_simp
    with_reducible rfl
  rotate_left
  · simp only [Act.put, List.setIfInBounds_toArray, List.set_cons_zero, List.set_cons_succ, i64_w, i32_w]
    rfl
  refine pure_ (i := 3) (N := some 34) (v := ?_) (a' := ?_) #[true, true, true, true, false, false, false, false, false, false, false, false, false, false] rfl rfl (any_of HT_.out (by kernel_rfl)) (fun _ _ _ h => h) (Or.inl ⟨by rfl, ?_⟩) ?_ ?_
  rotate_left
  · intro w'
    go_simp
    with_reducible rfl
  rotate_left
  · simp only [Act.put, List.setIfInBounds_toArray, List.set_cons_zero, List.set_cons_succ, i64_w, i32_w]
    rfl
  refine pure_ (i := 4) (N := some 35) (v := ?_) (a' := ?_) #[true, true, true, true, true, false, false, false, false, false, false, false, false, false] rfl rfl (any_of HT_.out (by kernel_rfl)) (fun _ _ _ h => h) (Or.inl ⟨by rfl, ?_⟩) ?_ ?_
  rotate_left
  · intro w'
    go_simp
    with_reducible rfl
  rotate_left
  · simp only [Act.put, List.setIfInBounds_toArray, List.set_cons_zero, List.set_cons_succ, i64_w, i32_w]
    rfl
  refine pure_ (i := 5) (N := some 36) (v := ?_) (a' := ?_) #[true, true, true, true, true, true, false, false, false, false, false, false, false, false] rfl rfl (any_of HT_.out (by kernel_rfl)) (fun _ _ _ h => h) (Or.inl ⟨by rfl, ?_⟩) ?_ ?_
  rotate_left
  · intro w'
    go_simp
    with_reducible rfl
  rotate_left
  · simp only [Act.put, List.setIfInBounds_toArray, List.set_cons_zero, List.set_cons_succ, i64_w, i32_w]
    rfl
  refine pure_ (i := 6) (N := some 37) (v := ?_) (a' := ?_) #[true, true, true, true, true, true, true, false, false, false, false, false, false, false] rfl rfl (any_of HT_.out (by kernel_rfl)) (fun _ _ _ h => h) (Or.inl ⟨by rfl, ?_⟩) ?_ ?_
  rotate_left
  · intro w'
    go_simp
    with_reducible rfl
  rotate_left
  · simp only [Act.put, List.setIfInBounds_toArray, List.set_cons_zero, List.set_cons_succ, i64_w, i32_w]
    rfl
  refine take_ (i := 7) (N := some 38) (v := ?_) (a' := ?_) #[true, true, true, true, true, true, true, true, false, false, false, false, false, false] rfl rfl (take_ofW HT_.out HW_.out (by kernel_rfl)) (fun _ _ _ h => h) (Or.inl ⟨by rfl, ?_⟩) hHeld ?_ ?_
  rotate_left
  · rintro w' h1_
    have h2_ : w'.heap[g7]? = some (.cells #[.string ⟨#[109]⟩, .string ⟨#[114]⟩, .bool false, .int .i64 1, .int .i64 262144, .slice A1 1 c1] 65 (0, 0)) := blk_below (unhide CB) h1_
    refine exec_ld (x := .tmp 7) ?_ g7 0 ?_ [.string ⟨#[109]⟩, .string ⟨#[114]⟩, .bool false, .int .i64 1, .int .i64 262144, .slice A1 1 c1] _ (range_of (L := [.string ⟨#[109]⟩, .string ⟨#[114]⟩, .bool false, .int .i64 1, .int .i64 262144, .slice A1 1 c1]) h2_ 0 (fun j v h => by rw [Nat.zero_add]; exact h)) Tryd.underlying65 rfl size65
    all_goals rfl
  rotate_left
  · simp only [Act.put, List.setIfInBounds_toArray, List.set_cons_zero, List.set_cons_succ, i64_w, i32_w]
    rfl
  refine pure_ (i := 8) (N := some 39) (v := ?_) (a' := ?_) #[true, true, true, true, true, true, true, true, true, false, false, false, false, false] rfl rfl (any_of HT_.out (by kernel_rfl)) (fun _ _ _ h => h) (Or.inl ⟨by rfl, ?_⟩) ?_ ?_
  rotate_left
  · intro w'
    go_simp
    with_reducible rfl
  rotate_left
  · simp only [Act.put, List.setIfInBounds_toArray, List.set_cons_zero, List.set_cons_succ, i64_w, i32_w]
    rfl
  refine pure_ (i := 9) (N := some 40) (v := ?_) (a' := ?_) #[true, true, true, true, true, true, true, true, true, true, false, false, false, false] rfl rfl (any_of HT_.out (by kernel_rfl)) (fun _ _ _ h => h) (Or.inl ⟨by rfl, ?_⟩) ?_ ?_
  rotate_left
  · intro w'
    go_simp
    with_reducible rfl
  rotate_left
  · simp only [Act.put, List.setIfInBounds_toArray, List.set_cons_zero, List.set_cons_succ, i64_w, i32_w]
    rfl
  refine one_ (i := 10) (N := some 41) #[true, true, true, true, true, true, true, true, true, true, true, false, false, false] rfl rfl (one_of HT_.out (by kernel_rfl)) (by decide) (fun K hK => ?_)
  refine goes_ Tryd.func15 (by kernel_rfl) rfl #[.string ⟨#[120]⟩, .string ⟨#[109]⟩, .agg (bys (List.replicate 16 (0 : Int)))] (by rfl) rfl rfl (by (try simp only [List.map_toArray, List.map_cons, List.map_nil]); first | done | rfl) ?_
  refine (answer_ok ⟨#[120]⟩ ⟨#[109]⟩ (List.replicate 16 (0 : Int)) _ rfl zero_bytes (by decide) (by decide)).mono ?_
  rintro e w4 ⟨rfl, hb4⟩
  refine ⟨_, rfl, ?_⟩
  obtain ⟨s4, hs4⟩ : ∃ z, z = answer ⟨#[120]⟩ ⟨#[109]⟩ (List.replicate 16 (0 : Int)) := ⟨_, rfl⟩
  rw [← hs4]
  have HS4 := hide hs4
  have HB5 := hide hb4
  clear hs4 hb4
  clear hHeld
  refine hK.out _ _ (unhide HB5) (fun hHeld => ?_)
  clear hK K
  refine norm_ (a' := ?_) ?_ ?_
  rotate_left
  · show Act.put _ (some 41) _ = _
    simp only [Act.put, List.setIfInBounds_toArray, List.set_cons_zero, List.set_cons_succ, i64_w, i32_w]
    rfl
  refine one_ (i := 11) (N := some 42) #[true, true, true, true, true, true, true, true, true, true, true, true, false, false] rfl rfl (one_of HT_.out (by kernel_rfl)) (by decide) (fun K hK => ?_)
  refine goes_ Tryd.func14 (by kernel_rfl) rfl #[.agg #[.string ⟨#[109]⟩, .string ⟨#[114]⟩, .bool false, .int .i64 1, .int .i64 262144, .slice A1 1 c1], .string ⟨#[117]⟩, .agg (bys (List.replicate 16 (0 : Int))), .agg (bys s4)] (by rfl) rfl rfl (by (try simp only [List.map_toArray, List.map_cons, List.map_nil]); first | done | rfl) ?_
  refine (check_fix A1 c1 s4 _ (Kd.C_below (unhide HU3) (unhide HB5)) (unhide HS4)).mono ?_
  rintro e w5 ⟨rfl, hb5⟩
  refine ⟨_, rfl, ?_⟩
  have HB6 := hide (below_step (unhide HB5) hb5)
  clear hb5
  clear hHeld
  refine hK.out _ _ (unhide HB6) (fun hHeld => ?_)
  clear hK K
  refine norm_ (a' := ?_) ?_ ?_
  rotate_left
  · show Act.put _ (some 42) _ = _
    simp only [Act.put, List.setIfInBounds_toArray, List.set_cons_zero, List.set_cons_succ, i64_w, i32_w]
    rfl
  refine pure_ (i := 12) (N := some 43) (v := ?_) (a' := ?_) #[true, true, true, true, true, true, true, true, true, true, true, true, true, false] rfl rfl (any_of HT_.out (by kernel_rfl)) (fun _ _ _ h => h) (Or.inl ⟨by rfl, ?_⟩) ?_ ?_
  rotate_left
  · intro w'
    go_simp
    with_reducible rfl
  rotate_left
  · simp only [Act.put, List.setIfInBounds_toArray, List.set_cons_zero, List.set_cons_succ, i64_w, i32_w]
    rfl
  refine pure_ (i := 13) (N := some 44) (v := ?_) (a' := ?_) #[true, true, true, true, true, true, true, true, true, true, true, true, true, true] rfl rfl (any_of HT_.out (by kernel_rfl)) (fun _ _ _ h => h) (Or.inl ⟨by rfl, ?_⟩) ?_ ?_
  rotate_left
  · intro w'
    go_simp
    with_reducible rfl
  rotate_left
  · simp only [Act.put, List.setIfInBounds_toArray, List.set_cons_zero, List.set_cons_succ, i64_w, i32_w]
    rfl
  refine done_ (done_of HT_.out (by kernel_rfl)) ?_
  clear HT_ HW_ hHeld
  have HB7 := hide (below_step (unhide HB4) (unhide HB6))
  have QB5 := hide (blk_below (unhide QB3) (unhide HB6))
  clear CB QB3 HU3 HB4 HB5 HB6 HS4
  by_cases ht : 4000 < text.size
  · have d1 : (4000 : Int) < (text.size : Int) := by omega
    go_wp2_with fail
    go_ret
    exact ⟨rfl, unhide HB7⟩
  · have d1 : ¬ (4000 : Int) < (text.size : Int) := by omega
    by_cases hl : 30 < L
    · have d2 : (30 : Int) < (L : Int) := by omega
      go_wp2_with fail
      go_ret
      exact ⟨rfl, unhide HB7⟩
    · have d2 : ¬ (30 : Int) < (L : Int) := by omega
      have hparse := parse_ok text w5 ((unhide HG).below (unhide HB7)) (by omega)
      have HL30 : Hid (L ≤ 30) := by show _ ≤ _; omega
      clear ht hl
      go_wp2_with fail
      clear d1 d2
      refine hparse.mono ?_
      rintro e w6 ⟨A2, n2, c2, ms, v, rfl, herr, hz, hn, hnc, hC, h8, hgood, k1, hb⟩
      clear k1
      have QB6 := hide (blk_below (unhide QB5) hb)
      have HB8 := hide (below_step (unhide HB7) hb)
      have Q6 : Hid (q1 < w5.heap.size) := blk_lt (unhide QB5)
      have x1 : w6.cell? ⟨q1, 0, none⟩ = some (.slice A 1 c) := (blk_cell (unhide QB6) 0).trans rfl
      have x2 : w6.frozen? ⟨q1, 0, none⟩ = false := blk_frozen (unhide QB6) 0
      rcases herr with rfl | ⟨g9, rfl⟩
      · skip
        obtain ⟨w7, hw7⟩ : ∃ z, z = w6.setCell ⟨q1, 0, none⟩ (.slice A2 n2 c2) := ⟨_, rfl⟩
        have QB7 : Hid (w7.heap[q1]? = some (.cells #[.slice A2 n2 c2] 60 (0, 0))) := by show _ = _; rw [hw7]; exact blk_put (unhide QB6) 0 _ rfl
        have KM7 : Hid (KM.C w7 A2 n2 ms) := by
          refine hC w7 (fun k hk _ => ?_)
          rw [hw7]
          exact Below.heap_setCell w6 _ _ k (by show k ≠ q1; have := unhide Q6; omega)
        have HB9 : Hid (Below w.heap.size w w7) := by show Below _ _ _; rw [hw7]; exact (unhide HB8).setCell (unhide Q1) _
        have HN2 := hide hn
        have H8 := hide h8
        have HGD := hide hgood
        have HNC := hide hnc
        have hnew := new_ok w7
        have HW7 := hide hw7
        clear hparse hz hn hnc hC h8 hgood hb QB6 HB8 QB5 HB7 hw7
        go_wp2_with fail
        rw [← unhide HW7]
        clear x1 x2 HW7
        refine hnew.mono ?_
        rintro e w8 ⟨rfl, hsl, hb⟩
        obtain ⟨sm, hsm⟩ : ∃ z, z = w7.heap.size := ⟨_, rfl⟩
        obtain ⟨sg, hsg⟩ : ∃ z, z = sm + 1 := ⟨_, rfl⟩
        obtain ⟨mb, hmb⟩ : ∃ z, z = w8.heap.size := ⟨_, rfl⟩
        rw [← hsm] at hb
        rw [← hsm, ← hsg] at hsl ⊢
        have HSL : Hid (Slots (w8.alloc (.map #[] 0)) sg sm []) := hsl.alloc _
        have HCN : Hid (Cnt (w8.alloc (.map #[] 0)) mb 0 (fun _ => 0)) := by show Cnt _ _ _ _; rw [hmb]; exact Cnt.made w8
        have HMB : Hid (sm < mb ∧ sg < mb ∧ sm ≤ sg) := by refine ⟨?_, ?_, by omega⟩ <;> rw [hmb]; exact hsl.lt; exact hsl.cell.2.2
        have HB10 : Hid (Below sm w7 (w8.alloc (.map #[] 0))) := by show Below _ _ _; exact hb.alloc (by rw [hsm]; exact (hsm ▸ hb).size) _
        have SM : Hid (sm = w7.heap.size) := hsm
        have hmm := @run_makeMap Tryd.prog
        clear hnew hsl hb hsm hsg
        go_wp2_with fail
        rw [← hmb]
        clear hmb hmm
        generalize w8.alloc (.map #[] 0) = w9 at HSL HCN HB10 ⊢
        clear Q1 Q6
        go_loopg [68] L (fun kq v68 wr => ∃ (j : Nat) (l : List (Int × ByteArray)), v68 = .int .i64 (j : Int) ∧ Hid (j + kq = L) ∧ Hid (Below sm w7 wr) ∧ Hid (Slots wr sg sm l) ∧ Hid (Cnt wr mb j (cnt_ l)) ∧ Hid (∀ k : Int, (j : Int) ≤ k → at_ l k = false) ∧ Hid (l.length ≤ j))
        case atStart => exact ⟨0, [], rfl, Nat.zero_add _, HB10, HSL, HCN, fun _ _ => rfl, Nat.le_refl _⟩
        case round =>
          obtain ⟨j, l, rfl, HI, HB, SL, CN, HK, HLL⟩ := hrel
          clear HB10 HSL HCN
          by_cases hlt : j < L
          · have d1 : (j : Int) < (L : Int) := by omega
            have hj : j < gs.length := by rw [← unhide HL]; exact hlt
            obtain ⟨⟨m, u, x, nc⟩, hx⟩ : ∃ y, gs[j]? = some y := ⟨_, List.getElem?_eq_getElem hj⟩
            obtain ⟨hg1, hg2⟩ := unhide HGS _ (List.mem_of_getElem? hx)
            have hbw : Below w.heap.size w wr := (unhide HB9).trans ((unhide HB).mono (by rw [unhide SM]; exact (unhide HB9).size))
            obtain ⟨ad, rfl, hcell⟩ := (unhide HC).below hbw (by omega)
            have LDC : Hid (∀ i v, (gc (m, u, x, nc))[i]? = some v → wr.cell? ((ad.add (j * 19)).add i) = some v) := hcell j _ hx
            have SZ74 : Hid ((Tryd.prog.info? 74).map (·.size) = some (gc (m, u, x, nc)).length) := by show _ = _; rw [gc_len hg1]; exact size74
            obtain ⟨gb, hgb⟩ : ∃ z, z = wr.heap.size := ⟨_, rfl⟩
            obtain ⟨wb, hwb⟩ : ∃ z, z = wr.alloc (.cells (gc (m, u, x, nc)).toArray 74) := ⟨_, rfl⟩
            have GB : Hid (wb.heap[gb]? = some (.cells (gc (m, u, x, nc)).toArray 74 (0, 0))) := by show _ = _; rw [hwb, hgb]; exact blk_new _ _
            have BB : Hid (Below wr.heap.size wr wb) := by show Below _ _ _; rw [hwb]; exact below_alloc (Below.refl _ _) _
            have HG1 := hide hg1
            have HG2 := hide hg2
            have HLT := hide hlt
            have HBW := hide hbw
            have HWB := hide hwb
            have HGB := hide hgb
            have SZ74' : Hid ((Tryd.prog.info? 74).map (·.size) = some (gc (m, u, x, nc)).toArray.size) := by show _ = _; rw [List.size_toArray]; exact unhide SZ74
            have SO74 : Hid (zero74.size = (gc (m, u, x, nc)).toArray.size) := by show _ = _; rw [show (gc (m, u, x, nc)).toArray.size = (gc (m, u, x, nc)).length from rfl, gc_len hg1]; rfl
            clear hlt hj hx hg1 hg2 hbw hcell hwb
            rw [hgb] at GB
            clear hgb
            have hn2 := unhide HN2
            have hfind := find_ok m A2 c2 ms (wr.alloc (.cells (gc (m, u, x, nc)).toArray 74)) (by rw [← hn2]; exact Kd.C_below (Kd.C_below (unhide KM7) ((unhide HB).mono (by rw [unhide SM]; exact Nat.le_refl _))) (below_alloc (Below.refl _ _) _)) (by have := unhide H8; omega)
            rw [← hn2] at hfind
            obtain ⟨y0, y1, y2, y3⟩ := gc_cells (blk_new wr (.cells (gc (m, u, x, nc)).toArray 74))
            have QBr : Hid (wr.heap[q1]? = some (.cells #[.slice A2 n2 c2] 60 (0, 0))) := by show _ = _; rw [(unhide HB).block q1 (by rw [unhide SM]; exact blk_lt (unhide QB7))]; exact unhide QB7
            have z1 : (wr.alloc (.cells (gc (m, u, x, nc)).toArray 74)).cell? ⟨q1, 0, none⟩ = some (.slice A2 n2 c2) := (blk_cell (blk_alloc (unhide QBr) _) 0).trans rfl
            have Y3 := hide y3
            obtain ⟨fo, hfo⟩ : ∃ z, z = found ms m := ⟨_, rfl⟩
            rw [← hfo] at hfind
            have HFO := hide hfo
            clear y3 hn2 hfo
            by_cases hxs : 100 < x.size
            · have d2 : (100 : Int) < (x.size : Int) := by omega
              clear hfind
              go_wp2_with (first
                | (refine wpList_load_at rfl 74 (.tmp 71) rfl (ad.add (j * 19)) rfl (gc (m, u, x, nc)) _ (unhide LDC) Tryd.underlying74 rfl (unhide SZ74) ?_)
                | (refine wpList_store_row rfl 74 (.tmp 12) (.tmp 72) rfl wr.heap.size (gc (m, u, x, nc)).toArray rfl rfl 74 zero74 (blk_new _ _) (unhide SZ74') (unhide SO74) (all_oneCell_toArray (gc_one _)) ?_; rw [World.setRow_alloc_new]))
              go_ret
              exact ⟨rfl, below_alloc (unhide HBW) _⟩
            · have d2 : ¬ (100 : Int) < (x.size : Int) := by omega
              by_cases hms : 100 < m.size
              · have d3 : (100 : Int) < (m.size : Int) := by omega
                clear hfind
                go_wp2_with (first
                  | (refine wpList_load_at rfl 74 (.tmp 71) rfl (ad.add (j * 19)) rfl (gc (m, u, x, nc)) _ (unhide LDC) Tryd.underlying74 rfl (unhide SZ74) ?_)
                  | (refine wpList_store_row rfl 74 (.tmp 12) (.tmp 72) rfl wr.heap.size (gc (m, u, x, nc)).toArray rfl rfl 74 zero74 (blk_new _ _) (unhide SZ74') (unhide SO74) (all_oneCell_toArray (gc_one _)) ?_; rw [World.setRow_alloc_new]))
                go_ret
                exact ⟨rfl, below_alloc (unhide HBW) _⟩
              · have d3 : ¬ (100 : Int) < (m.size : Int) := by omega
                have HXS := hide hxs
                have HMS := hide hms
                clear hxs hms
                go_wp2_with (first
                  | (refine wpList_load_at rfl 74 (.tmp 71) rfl (ad.add (j * 19)) rfl (gc (m, u, x, nc)) _ (unhide LDC) Tryd.underlying74 rfl (unhide SZ74) ?_)
                  | (refine wpList_store_row rfl 74 (.tmp 12) (.tmp 72) rfl wr.heap.size (gc (m, u, x, nc)).toArray rfl rfl 74 zero74 (blk_new _ _) (unhide SZ74') (unhide SO74) (all_oneCell_toArray (gc_one _)) ?_; rw [World.setRow_alloc_new]))
                clear y0 y1 y2 z1 d1 d2 d3
                refine hfind.mono ?_
                rintro e w10 ⟨A3, c3, rfl, hc3, hU, hb⟩
                clear hfind
                obtain ⟨⟨nm, rt, b, sl, qq, us⟩, fb⟩ := fo
                obtain ⟨N, hN⟩ : ∃ z, z = us.length := ⟨_, rfl⟩
                simp only [mv, ← hN]
                rw [← unhide HWB] at hb
                rw [← unhide HGB]
                have HUC : Hid (KU.C w10 A3 us.length us) := hU
                have HNN := hide hN
                obtain ⟨gm, hgm⟩ : ∃ z, z = w10.heap.size := ⟨_, rfl⟩
                have B11 : Hid (Below wr.heap.size wr (w10.alloc (.cells #[.string nm, .string rt, .bool b, .int .i64 sl, .int .i64 qq, .slice A3 N c3] 65))) := below_alloc (below_step (unhide BB) hb) _
                have G11 : Hid ((w10.alloc (.cells #[.string nm, .string rt, .bool b, .int .i64 sl, .int .i64 qq, .slice A3 N c3] 65)).heap[gb]? = some (.cells (gc (m, u, x, nc)).toArray 74 (0, 0))) := by
                  show _ = _
                  have h := unhide GB
                  rw [← unhide HGB] at h
                  exact blk_alloc (blk_below h hb) _
                have M11 : Hid ((w10.alloc (.cells #[.string nm, .string rt, .bool b, .int .i64 sl, .int .i64 qq, .slice A3 N c3] 65)).heap[gm]? = some (.cells #[.string nm, .string rt, .bool b, .int .i64 sl, .int .i64 qq, .slice A3 N c3] 65 (0, 0))) := by show _ = _; rw [hgm]; exact blk_new _ _
                have U11 : Hid (KU.C (w10.alloc (.cells #[.string nm, .string rt, .bool b, .int .i64 sl, .int .i64 qq, .slice A3 N c3] 65)) A3 us.length us) := Kd.C_alloc (unhide HUC) _
                have HGM := hide hgm
                have WGB : Hid (wr.heap.size ≤ gb ∧ wr.heap.size ≤ gm) := by
                  refine ⟨Nat.le_of_eq (unhide HGB).symm, ?_⟩
                  rw [hgm]
                  exact (below_step (unhide BB) hb).size
                clear hc3 hU hb hN hgm BB GB HUC
                cases fb with
                | false =>
                  go_wp2_with fail
                  go_roundg (gk - 1)
                  case measure => have := unhide HI; have := unhide HLT; omega
                  case rel => exact ⟨j + 1, l, congrArg (Value.int .i64) (by have := unhide HLT; have := unhide HL30; (try unfold wrap64); omega), (by have := unhide HI; have := unhide HLT; show _ = _; omega), (unhide HB).trans ((unhide B11).mono (Nat.le_of_lt (unhide SL).lt)), (unhide SL).below (unhide B11), ((unhide CN).below (unhide B11)).more (Nat.le_succ j), (fun k hk => unhide HK k (by omega)), Nat.le_succ_of_le (unhide HLL)⟩
                | true =>
                  obtain ⟨hmem, hnm⟩ := found_mem (ms := ms) (name := m) (by rw [← unhide HFO])
                  rw [← unhide HFO] at hmem hnm
                  obtain rfl : nm = m := hnm
                  have hgd := unhide HGD _ hmem
                  have hus : us.length ≤ 8 := hgd.2.2.1
                  have husz : ∀ y ∈ us, y.2.size ≤ 16 := hgd.2.2.2
                  have hsec := secret_m nm rt u (.bool b) (.int .i64 sl) (.int .i64 qq) A3 c3 N us (w10.alloc (.cells #[.string nm, .string rt, .bool b, .int .i64 sl, .int .i64 qq, .slice A3 N c3] 65)) (unhide HNN) (unhide U11) (by omega)
                  obtain ⟨so, hso⟩ : ∃ z, z = secretOf us u := ⟨_, rfl⟩
                  rw [← hso] at hsec
                  obtain ⟨sec, kn⟩ := so
                  have HSO := hide hso
                  have HUS := hide hus
                  have HUZ := hide husz
                  have hssz : sec.size ≤ 16 := by
                    have h := secret_size' us u husz
                    rw [← hso] at h
                    exact h
                  have HSZ := hide hssz
                  obtain ⟨y0, y1, y2, y3⟩ := gc_cells (unhide G11)
                  have hm6 := unhide M11
                  rw [unhide HGM] at hm6
                  have o0 := (blk_cell hm6 0).trans rfl
                  have o1 := (blk_cell hm6 1).trans rfl
                  have o2 := (blk_cell hm6 2).trans rfl
                  have o3 := (blk_cell hm6 3).trans rfl
                  have o4 := (blk_cell hm6 4).trans rfl
                  have o5 := (blk_cell hm6 5).trans rfl
                  clear hmem hgd hus husz hso hssz y3 hm6
                  go_wp2_with fail
                  rw [← unhide HGM]
                  clear y0 y1 y2 o0 o1 o2 o3 o4 o5
                  refine hsec.mono ?_
                  rintro e w12 ⟨rfl, hb⟩
                  have B12 := hide (below_step (unhide B11) hb)
                  have G12 := hide (blk_below (unhide G11) hb)
                  have M12 := hide (blk_below (unhide M11) hb)
                  have U12 := hide (Kd.C_below (unhide U11) hb)
                  clear hsec hb B11 G11 M11 U11
                  obtain ⟨y0, y1, y2, y3⟩ := gc_cells (unhide G12)
                  clear y3
                  have hchk : ∀ (ss : List Int) (W : World), ss = answer x nm nc → KU.C W A3 us.length us → Calls Tryd.prog 14 #[.agg #[.string nm, .string rt, .bool b, .int .i64 sl, .int .i64 qq, .slice A3 N c3], .string u, .agg (bys nc), .agg (bys ss)] W fun e w' => e = .returned (.int .i64 (chk us u nm nc (answer x nm nc))) ∧ Below W.heap.size W w' := by
                    intro ss W hss hW
                    rw [hss]
                    exact check_ok nm rt u b sl qq A3 c3 N us nc (answer x nm nc) W (unhide HNN) hW (by have := unhide HUS; omega) (fun y hy => Nat.le_trans (unhide HUZ y hy) (by decide)) (by have := unhide HMS; omega) (unhide HG1) (unhide HG2) (answer_len _ _ _) (answer_bytes _ _ _)
                  have HCHK := hide hchk
                  have hans : ∀ W, Calls Tryd.prog 15 #[.string x, .string nm, .agg (bys nc)] W fun e w' => e = .returned (.agg (bys (answer x nm nc))) ∧ Below W.heap.size W w' := fun W => answer_ok x nm nc W (unhide HG1) (unhide HG2) (by have := unhide HXS; omega) (by have := unhide HMS; omega)
                  have HANS := hide hans
                  clear hchk hans
                  cases kn with
                  | false =>
                    have hch : chk us u nm nc (answer x nm nc) = 140 := by
                      unfold chk
                      rw [if_neg (by rw [← unhide HSO]; rintro ⟨h, _⟩; cases h)]
                    go_wp2_with fail
                    clear y0 y1 y2
                    replace G12 : Hid (w12.drew.heap[gb]? = some (.cells (gc (nm, u, x, nc)).toArray 74 (0, 0))) := unhide G12
                    replace M12 : Hid (w12.drew.heap[gm]? = some (.cells #[.string nm, .string rt, .bool b, .int .i64 sl, .int .i64 qq, .slice A3 N c3] 65 (0, 0))) := unhide M12
                    replace U12 : Hid (KU.C w12.drew A3 us.length us) := Kd.C_drew (unhide U12)
                    replace B12 : Hid (Below wr.heap.size wr w12.drew) := below_drew (unhide B12)
                    replace HCHK : Hid (∀ (ss : List Int) (W : World), ss = answer x nm nc → KU.C W A3 us.length us → Calls Tryd.prog 14 #[.agg #[.string nm, .string rt, .bool b, .int .i64 sl, .int .i64 qq, .slice A3 N c3], .string u, .agg (bys nc), .agg (bys ss)] W fun e w' => e = .returned (.int .i64 140) ∧ Below W.heap.size W w') := by
                      have h := unhide HCHK
                      rw [hch] at h
                      exact h
                    have SN : Hid ((Tryd.prog.info? 30).map (·.size) = some (nc.map (Value.int .u8)).length) := by show _ = _; rw [List.length_map, unhide HG1]; exact size30
                    clear hch
                    refine start_ (n := 14) (S := fun w' => Below w12.drew.heap.size w12.drew w') (ds := []) #[false, false, false, false, false, false, false, false, false, false, false, false, false, false] (by kernel_rfl) rfl rfl (Below.refl _ _) (fun hHeld => ?_)
                    refine with_tabW tabT4_21 bitsT4_21 (fun HT_ HW_ => ?_)
                    refine take_ (i := 0) (N := some 106) (v := ?_) (a' := ?_) #[true, false, false, false, false, false, false, false, false, false, false, false, false, false] rfl rfl (take_ofW HT_.out HW_.out (by kernel_rfl)) (fun _ _ _ h => h) (Or.inl ⟨by rfl, ?_⟩) hHeld ?_ ?_
                    rotate_left
                    · rintro w' h1_
                      have hg_ := blk_below (unhide G12) h1_
                      have hm_ := blk_below (unhide M12) h1_
                      obtain ⟨k0_, k1_, k2_, k3_⟩ := gc_cells hg_
                      refine exec_ld (x := .tmp 13) ?_ gm 0 ?_ [.string nm, .string rt, .bool b, .int .i64 sl, .int .i64 qq, .slice A3 N c3] _ (range_of (L := [.string nm, .string rt, .bool b, .int .i64 sl, .int .i64 qq, .slice A3 N c3]) hm_ 0 (fun j v h => by rw [Nat.zero_add]; exact h)) Tryd.underlying65 rfl size65
                      all_goals rfl
                    rotate_left
                    · simp only [Act.put, List.setIfInBounds_toArray, List.set_cons_zero, List.set_cons_succ, i64_w, i32_w]
                      rfl
                    refine pure_ (i := 1) (N := some 107) (v := ?_) (a' := ?_) #[true, true, false, false, false, false, false, false, false, false, false, false, false, false] rfl rfl (any_of HT_.out (by kernel_rfl)) (fun _ _ _ h => h) (Or.inl ⟨by rfl, ?_⟩) ?_ ?_
                    rotate_left
                    · intro w'
                      go_simp
                      with_reducible rfl
                    rotate_left
                    · simp only [Act.put, List.setIfInBounds_toArray, List.set_cons_zero, List.set_cons_succ, i64_w, i32_w]
                      rfl
                    refine take_ (i := 2) (N := some 108) (v := ?_) (a' := ?_) #[true, true, true, false, false, false, false, false, false, false, false, false, false, false] rfl rfl (take_ofW HT_.out HW_.out (by kernel_rfl)) (fun _ _ _ h => h) (Or.inl ⟨by rfl, ?_⟩) hHeld ?_ ?_
                    rotate_left
                    · rintro w' h1_
                      have hg_ := blk_below (unhide G12) h1_
                      have hm_ := blk_below (unhide M12) h1_
                      obtain ⟨k0_, k1_, k2_, k3_⟩ := gc_cells hg_
                      clear k3_ hg_ hm_ h1_
                      go_simp
                      with_reducible rfl
                    rotate_left
                    · simp only [Act.put, List.setIfInBounds_toArray, List.set_cons_zero, List.set_cons_succ, i64_w, i32_w]
                      rfl
                    refine pure_ (i := 3) (N := some 109) (v := ?_) (a' := ?_) #[true, true, true, true, false, false, false, false, false, false, false, false, false, false] rfl rfl (any_of HT_.out (by kernel_rfl)) (fun _ _ _ h => h) (Or.inl ⟨by rfl, ?_⟩) ?_ ?_
                    rotate_left
                    · intro w'
                      go_simp
                      with_reducible rfl
                    rotate_left
                    · simp only [Act.put, List.setIfInBounds_toArray, List.set_cons_zero, List.set_cons_succ, i64_w, i32_w]
                      rfl
                    refine take_ (i := 4) (N := some 110) (v := ?_) (a' := ?_) #[true, true, true, true, true, false, false, false, false, false, false, false, false, false] rfl rfl (take_ofW HT_.out HW_.out (by kernel_rfl)) (fun _ _ _ h => h) (Or.inl ⟨by rfl, ?_⟩) hHeld ?_ ?_
                    rotate_left
                    · rintro w' h1_
                      have hg_ := blk_below (unhide G12) h1_
                      have hm_ := blk_below (unhide M12) h1_
                      obtain ⟨k0_, k1_, k2_, k3_⟩ := gc_cells hg_
                      refine exec_ld (x := .tmp 109) ?_ gb 3 ?_ (nc.map (Value.int .u8)) _ k3_ Tryd.underlying30 rfl (unhide SN)
                      all_goals rfl
                    rotate_left
                    · simp only [Act.put, List.setIfInBounds_toArray, List.set_cons_zero, List.set_cons_succ, i64_w, i32_w]
                      rfl
                    refine pure_ (i := 5) (N := some 111) (v := ?_) (a' := ?_) #[true, true, true, true, true, true, false, false, false, false, false, false, false, false] rfl rfl (any_of HT_.out (by kernel_rfl)) (fun _ _ _ h => h) (Or.inl ⟨by rfl, ?_⟩) ?_ ?_
                    rotate_left
                    · intro w'
                      go_simp
                      with_reducible rfl
                    rotate_left
                    · simp only [Act.put, List.setIfInBounds_toArray, List.set_cons_zero, List.set_cons_succ, i64_w, i32_w]
                      rfl
                    refine take_ (i := 6) (N := some 112) (v := ?_) (a' := ?_) #[true, true, true, true, true, true, true, false, false, false, false, false, false, false] rfl rfl (take_ofW HT_.out HW_.out (by kernel_rfl)) (fun _ _ _ h => h) (Or.inl ⟨by rfl, ?_⟩) hHeld ?_ ?_
                    rotate_left
                    · rintro w' h1_
                      have hg_ := blk_below (unhide G12) h1_
                      have hm_ := blk_below (unhide M12) h1_
                      obtain ⟨k0_, k1_, k2_, k3_⟩ := gc_cells hg_
                      clear k3_ hg_ hm_ h1_
                      go_simp
                      with_reducible rfl
                    rotate_left
                    · simp only [Act.put, List.setIfInBounds_toArray, List.set_cons_zero, List.set_cons_succ, i64_w, i32_w]
                      rfl
                    refine pure_ (i := 7) (N := some 113) (v := ?_) (a' := ?_) #[true, true, true, true, true, true, true, true, false, false, false, false, false, false] rfl rfl (any_of HT_.out (by kernel_rfl)) (fun _ _ _ h => h) (Or.inl ⟨by rfl, ?_⟩) ?_ ?_
                    rotate_left
                    · intro w'
                      go_simp
                      with_reducible rfl
                    rotate_left
                    · simp only [Act.put, List.setIfInBounds_toArray, List.set_cons_zero, List.set_cons_succ, i64_w, i32_w]
                      rfl
                    refine take_ (i := 8) (N := some 114) (v := ?_) (a' := ?_) #[true, true, true, true, true, true, true, true, true, false, false, false, false, false] rfl rfl (take_ofW HT_.out HW_.out (by kernel_rfl)) (fun _ _ _ h => h) (Or.inl ⟨by rfl, ?_⟩) hHeld ?_ ?_
                    rotate_left
                    · rintro w' h1_
                      have hg_ := blk_below (unhide G12) h1_
                      have hm_ := blk_below (unhide M12) h1_
                      obtain ⟨k0_, k1_, k2_, k3_⟩ := gc_cells hg_
                      clear k3_ hg_ hm_ h1_
                      go_simp
                      with_reducible rfl
                    rotate_left
                    · simp only [Act.put, List.setIfInBounds_toArray, List.set_cons_zero, List.set_cons_succ, i64_w, i32_w]
                      rfl
                    refine pure_ (i := 9) (N := some 115) (v := ?_) (a' := ?_) #[true, true, true, true, true, true, true, true, true, true, false, false, false, false] rfl rfl (any_of HT_.out (by kernel_rfl)) (fun _ _ _ h => h) (Or.inl ⟨by rfl, ?_⟩) ?_ ?_
                    rotate_left
                    · intro w'
                      go_simp
                      with_reducible rfl
                    rotate_left
                    · simp only [Act.put, List.setIfInBounds_toArray, List.set_cons_zero, List.set_cons_succ, i64_w, i32_w]
                      rfl
                    refine take_ (i := 10) (N := some 116) (v := ?_) (a' := ?_) #[true, true, true, true, true, true, true, true, true, true, true, false, false, false] rfl rfl (take_ofW HT_.out HW_.out (by kernel_rfl)) (fun _ _ _ h => h) (Or.inl ⟨by rfl, ?_⟩) hHeld ?_ ?_
                    rotate_left
                    · rintro w' h1_
                      have hg_ := blk_below (unhide G12) h1_
                      have hm_ := blk_below (unhide M12) h1_
                      obtain ⟨k0_, k1_, k2_, k3_⟩ := gc_cells hg_
                      refine exec_ld (x := .tmp 115) ?_ gb 3 ?_ (nc.map (Value.int .u8)) _ k3_ Tryd.underlying30 rfl (unhide SN)
                      all_goals rfl
                    rotate_left
                    · simp only [Act.put, List.setIfInBounds_toArray, List.set_cons_zero, List.set_cons_succ, i64_w, i32_w]
                      rfl
                    refine one_ (i := 11) (N := some 117) #[true, true, true, true, true, true, true, true, true, true, true, true, false, false] rfl rfl (one_of HT_.out (by kernel_rfl)) (by decide) (fun K hK => ?_)
                    refine goes_ Tryd.func15 (by kernel_rfl) rfl #[.string x, .string nm, .agg (bys nc)] (by rfl) rfl rfl (by (try simp only [List.map_toArray, List.map_cons, List.map_nil]); first | done | rfl) ?_
                    refine (unhide HANS _).mono ?_
                    rintro e w13 ⟨rfl, hb13⟩
                    refine ⟨_, rfl, ?_⟩
                    obtain ⟨s9, hs9⟩ : ∃ z, z = answer x nm nc := ⟨_, rfl⟩
                    rw [← hs9]
                    have HS9 := hide hs9
                    have B13 := hide hb13
                    clear hs9 hb13
                    clear hHeld
                    refine hK.out _ _ (unhide B13) (fun hHeld => ?_)
                    clear hK K
                    refine norm_ (a' := ?_) ?_ ?_
                    rotate_left
                    · show Act.put _ (some 117) _ = _
                      simp only [Act.put, List.setIfInBounds_toArray, List.set_cons_zero, List.set_cons_succ, i64_w, i32_w]
                      rfl
                    refine one_ (i := 12) (N := some 118) #[true, true, true, true, true, true, true, true, true, true, true, true, true, false] rfl rfl (one_of HT_.out (by kernel_rfl)) (by decide) (fun K hK => ?_)
                    refine goes_ Tryd.func14 (by kernel_rfl) rfl #[.agg #[.string nm, .string rt, .bool b, .int .i64 sl, .int .i64 qq, .slice A3 N c3], .string u, .agg (bys nc), .agg (bys s9)] (by rfl) rfl rfl (by (try simp only [List.map_toArray, List.map_cons, List.map_nil]); first | done | rfl) ?_
                    refine (unhide HCHK s9 _ (unhide HS9) (Kd.C_below (unhide U12) (unhide B13))).mono ?_
                    rintro e w14 ⟨rfl, hb14⟩
                    refine ⟨_, rfl, ?_⟩
                    have B14 := hide (below_step (unhide B13) hb14)
                    clear hb14
                    clear hHeld
                    refine hK.out _ _ (unhide B14) (fun hHeld => ?_)
                    clear hK K
                    refine norm_ (a' := ?_) ?_ ?_
                    rotate_left
                    · show Act.put _ (some 118) _ = _
                      simp only [Act.put, List.setIfInBounds_toArray, List.set_cons_zero, List.set_cons_succ, i64_w, i32_w]
                      rfl
                    refine pure_ (i := 13) (N := some 18) (v := ?_) (a' := ?_) #[true, true, true, true, true, true, true, true, true, true, true, true, true, true] rfl rfl (any_of HT_.out (by kernel_rfl)) (fun _ _ _ h => h) (Or.inl ⟨by rfl, ?_⟩) ?_ ?_
                    rotate_left
                    · intro w'
                      go_simp
                      with_reducible rfl
                    rotate_left
                    · simp only [Act.put, List.setIfInBounds_toArray, List.set_cons_zero, List.set_cons_succ, i64_w, i32_w]
                      rfl
                    refine done_ (done_of HT_.out (by kernel_rfl)) ?_
                    clear HT_ HW_ hHeld
                    have C14 := hide (below_step (unhide B12) (unhide B14))
                    have G14 := hide (blk_below (unhide G12) (unhide B14))
                    have M14 := hide (blk_below (unhide M12) (unhide B14))
                    clear G12 M12 U12 B12 B13 B14 SN HCHK
                    go_wp2_with fail
                    refine start_ (n := 22) (S := fun _ => True) (ds := []) #[false, false, false, false, false, false, false, false, false, false, false, false, false, false, false, false, false, false, false, false, false, false] (by kernel_rfl) rfl rfl trivial (fun hHeld => ?_)
                    refine with_tabW tabT4_23 bitsT4_23 (fun HT_ HW_ => ?_)
                    refine pure_ (i := 0) (N := some 121) (v := ?_) (a' := ?_) #[true, false, false, false, false, false, false, false, false, false, false, false, false, false, false, false, false, false, false, false, false, false] rfl rfl (any_of HT_.out (by kernel_rfl)) (fun _ _ _ h => h) (Or.inl ⟨by rfl, ?_⟩) ?_ ?_
                    rotate_left
                    · intro w'
                      go_simp
                      with_reducible rfl
                    rotate_left
                    · simp only [Act.put, List.setIfInBounds_toArray, List.set_cons_zero, List.set_cons_succ, i64_w, i32_w]
                      rfl
                    refine pure_ (i := 1) (N := some 122) (v := ?_) (a' := ?_) #[true, true, false, false, false, false, false, false, false, false, false, false, false, false, false, false, false, false, false, false, false, false] rfl rfl (any_of HT_.out (by kernel_rfl)) (fun _ _ _ h => h) (Or.inl ⟨by rfl, ?_⟩) ?_ ?_
                    rotate_left
                    · intro w'
                      go_simp
                      with_reducible rfl
                    rotate_left
                    · simp only [Act.put, List.setIfInBounds_toArray, List.set_cons_zero, List.set_cons_succ, i64_w, i32_w]
                      rfl
                    refine pure_ (i := 2) (N := some 123) (v := ?_) (a' := ?_) #[true, true, true, false, false, false, false, false, false, false, false, false, false, false, false, false, false, false, false, false, false, false] rfl rfl (any_of HT_.out (by kernel_rfl)) (fun _ _ _ h => h) (Or.inl ⟨by rfl, ?_⟩) ?_ ?_
                    rotate_left
                    · intro w'
                      go_simp
                      with_reducible rfl
                    rotate_left
                    · simp only [Act.put, List.setIfInBounds_toArray, List.set_cons_zero, List.set_cons_succ, i64_w, i32_w]
                      rfl
                    refine pure_ (i := 3) (N := some 124) (v := undef) (a' := ?_) #[true, true, true, true, false, false, false, false, false, false, false, false, false, false, false, false, false, false, false, false, false, false] rfl rfl (any_of HT_.out (by kernel_rfl)) (fun _ _ _ h => h) (Or.inr ⟨by rfl, rfl⟩) ?_ ?_
                    rotate_left
                    · simp only [Act.put, List.setIfInBounds_toArray, List.set_cons_zero, List.set_cons_succ, i64_w, i32_w]
                      rfl
                    refine pure_ (i := 4) (N := some 125) (v := undef) (a' := ?_) #[true, true, true, true, true, false, false, false, false, false, false, false, false, false, false, false, false, false, false, false, false, false] rfl rfl (any_of HT_.out (by kernel_rfl)) (fun _ _ _ h => h) (Or.inr ⟨by rfl, rfl⟩) ?_ ?_
                    rotate_left
                    · simp only [Act.put, List.setIfInBounds_toArray, List.set_cons_zero, List.set_cons_succ, i64_w, i32_w]
                      rfl
                    refine pure_ (i := 5) (N := some 126) (v := undef) (a' := ?_) #[true, true, true, true, true, true, false, false, false, false, false, false, false, false, false, false, false, false, false, false, false, false] rfl rfl (any_of HT_.out (by kernel_rfl)) (fun _ _ _ h => h) (Or.inr ⟨by rfl, rfl⟩) ?_ ?_
                    rotate_left
                    · simp only [Act.put, List.setIfInBounds_toArray, List.set_cons_zero, List.set_cons_succ, i64_w, i32_w]
                      rfl
                    refine pure_ (i := 6) (N := some 127) (v := undef) (a' := ?_) #[true, true, true, true, true, true, true, false, false, false, false, false, false, false, false, false, false, false, false, false, false, false] rfl rfl (any_of HT_.out (by kernel_rfl)) (fun _ _ _ h => h) (Or.inr ⟨by rfl, rfl⟩) ?_ ?_
                    rotate_left
                    · simp only [Act.put, List.setIfInBounds_toArray, List.set_cons_zero, List.set_cons_succ, i64_w, i32_w]
                      rfl
                    refine pure_ (i := 7) (N := some 128) (v := undef) (a' := ?_) #[true, true, true, true, true, true, true, true, false, false, false, false, false, false, false, false, false, false, false, false, false, false] rfl rfl (any_of HT_.out (by kernel_rfl)) (fun _ _ _ h => h) (Or.inr ⟨by rfl, rfl⟩) ?_ ?_
                    rotate_left
                    · simp only [Act.put, List.setIfInBounds_toArray, List.set_cons_zero, List.set_cons_succ, i64_w, i32_w]
                      rfl
                    refine pure_ (i := 8) (N := some 129) (v := undef) (a' := ?_) #[true, true, true, true, true, true, true, true, true, false, false, false, false, false, false, false, false, false, false, false, false, false] rfl rfl (any_of HT_.out (by kernel_rfl)) (fun _ _ _ h => h) (Or.inr ⟨by rfl, rfl⟩) ?_ ?_
                    rotate_left
                    · simp only [Act.put, List.setIfInBounds_toArray, List.set_cons_zero, List.set_cons_succ, i64_w, i32_w]
                      rfl
                    refine pure_ (i := 9) (N := some 130) (v := undef) (a' := ?_) #[true, true, true, true, true, true, true, true, true, true, false, false, false, false, false, false, false, false, false, false, false, false] rfl rfl (any_of HT_.out (by kernel_rfl)) (fun _ _ _ h => h) (Or.inr ⟨by rfl, rfl⟩) ?_ ?_
                    rotate_left
                    · simp only [Act.put, List.setIfInBounds_toArray, List.set_cons_zero, List.set_cons_succ, i64_w, i32_w]
                      rfl
                    refine pure_ (i := 10) (N := some 131) (v := undef) (a' := ?_) #[true, true, true, true, true, true, true, true, true, true, true, false, false, false, false, false, false, false, false, false, false, false] rfl rfl (any_of HT_.out (by kernel_rfl)) (fun _ _ _ h => h) (Or.inr ⟨by rfl, rfl⟩) ?_ ?_
                    rotate_left
                    · simp only [Act.put, List.setIfInBounds_toArray, List.set_cons_zero, List.set_cons_succ, i64_w, i32_w]
                      rfl
                    refine pure_ (i := 11) (N := some 132) (v := undef) (a' := ?_) #[true, true, true, true, true, true, true, true, true, true, true, true, false, false, false, false, false, false, false, false, false, false] rfl rfl (any_of HT_.out (by kernel_rfl)) (fun _ _ _ h => h) (Or.inr ⟨by rfl, rfl⟩) ?_ ?_
                    rotate_left
                    · simp only [Act.put, List.setIfInBounds_toArray, List.set_cons_zero, List.set_cons_succ, i64_w, i32_w]
                      rfl
                    refine pure_ (i := 12) (N := some 133) (v := undef) (a' := ?_) #[true, true, true, true, true, true, true, true, true, true, true, true, true, false, false, false, false, false, false, false, false, false] rfl rfl (any_of HT_.out (by kernel_rfl)) (fun _ _ _ h => h) (Or.inr ⟨by rfl, rfl⟩) ?_ ?_
                    rotate_left
                    · simp only [Act.put, List.setIfInBounds_toArray, List.set_cons_zero, List.set_cons_succ, i64_w, i32_w]
                      rfl
                    refine pure_ (i := 13) (N := some 134) (v := undef) (a' := ?_) #[true, true, true, true, true, true, true, true, true, true, true, true, true, true, false, false, false, false, false, false, false, false] rfl rfl (any_of HT_.out (by kernel_rfl)) (fun _ _ _ h => h) (Or.inr ⟨by rfl, rfl⟩) ?_ ?_
                    rotate_left
                    · simp only [Act.put, List.setIfInBounds_toArray, List.set_cons_zero, List.set_cons_succ, i64_w, i32_w]
                      rfl
                    refine pure_ (i := 14) (N := some 135) (v := undef) (a' := ?_) #[true, true, true, true, true, true, true, true, true, true, true, true, true, true, true, false, false, false, false, false, false, false] rfl rfl (any_of HT_.out (by kernel_rfl)) (fun _ _ _ h => h) (Or.inr ⟨by rfl, rfl⟩) ?_ ?_
                    rotate_left
                    · simp only [Act.put, List.setIfInBounds_toArray, List.set_cons_zero, List.set_cons_succ, i64_w, i32_w]
                      rfl
                    refine pure_ (i := 15) (N := some 136) (v := undef) (a' := ?_) #[true, true, true, true, true, true, true, true, true, true, true, true, true, true, true, true, false, false, false, false, false, false] rfl rfl (any_of HT_.out (by kernel_rfl)) (fun _ _ _ h => h) (Or.inr ⟨by rfl, rfl⟩) ?_ ?_
                    rotate_left
                    · simp only [Act.put, List.setIfInBounds_toArray, List.set_cons_zero, List.set_cons_succ, i64_w, i32_w]
                      rfl
                    refine pure_ (i := 16) (N := some 137) (v := undef) (a' := ?_) #[true, true, true, true, true, true, true, true, true, true, true, true, true, true, true, true, true, false, false, false, false, false] rfl rfl (any_of HT_.out (by kernel_rfl)) (fun _ _ _ h => h) (Or.inr ⟨by rfl, rfl⟩) ?_ ?_
                    rotate_left
                    · simp only [Act.put, List.setIfInBounds_toArray, List.set_cons_zero, List.set_cons_succ, i64_w, i32_w]
                      rfl
                    refine pure_ (i := 17) (N := some 138) (v := undef) (a' := ?_) #[true, true, true, true, true, true, true, true, true, true, true, true, true, true, true, true, true, true, false, false, false, false] rfl rfl (any_of HT_.out (by kernel_rfl)) (fun _ _ _ h => h) (Or.inr ⟨by rfl, rfl⟩) ?_ ?_
                    rotate_left
                    · simp only [Act.put, List.setIfInBounds_toArray, List.set_cons_zero, List.set_cons_succ, i64_w, i32_w]
                      rfl
                    refine pure_ (i := 18) (N := some 139) (v := undef) (a' := ?_) #[true, true, true, true, true, true, true, true, true, true, true, true, true, true, true, true, true, true, true, false, false, false] rfl rfl (any_of HT_.out (by kernel_rfl)) (fun _ _ _ h => h) (Or.inr ⟨by rfl, rfl⟩) ?_ ?_
                    rotate_left
                    · simp only [Act.put, List.setIfInBounds_toArray, List.set_cons_zero, List.set_cons_succ, i64_w, i32_w]
                      rfl
                    refine pure_ (i := 19) (N := some 140) (v := undef) (a' := ?_) #[true, true, true, true, true, true, true, true, true, true, true, true, true, true, true, true, true, true, true, true, false, false] rfl rfl (any_of HT_.out (by kernel_rfl)) (fun _ _ _ h => h) (Or.inr ⟨by rfl, rfl⟩) ?_ ?_
                    rotate_left
                    · simp only [Act.put, List.setIfInBounds_toArray, List.set_cons_zero, List.set_cons_succ, i64_w, i32_w]
                      rfl
                    refine pure_ (i := 20) (N := some 141) (v := undef) (a' := ?_) #[true, true, true, true, true, true, true, true, true, true, true, true, true, true, true, true, true, true, true, true, true, false] rfl rfl (any_of HT_.out (by kernel_rfl)) (fun _ _ _ h => h) (Or.inr ⟨by rfl, rfl⟩) ?_ ?_
                    rotate_left
                    · simp only [Act.put, List.setIfInBounds_toArray, List.set_cons_zero, List.set_cons_succ, i64_w, i32_w]
                      rfl
                    refine pure_ (i := 21) (N := some 142) (v := ?_) (a' := ?_) #[true, true, true, true, true, true, true, true, true, true, true, true, true, true, true, true, true, true, true, true, true, true] rfl rfl (any_of HT_.out (by kernel_rfl)) (fun _ _ _ h => h) (Or.inl ⟨by rfl, ?_⟩) ?_ ?_
                    rotate_left
                    · intro w'
                      go_simp
                      with_reducible rfl
                    rotate_left
                    · simp only [Act.put, List.setIfInBounds_toArray, List.set_cons_zero, List.set_cons_succ, i64_w, i32_w]
                      rfl
                    refine done_ (done_of HT_.out (by kernel_rfl)) ?_
                    clear HT_ HW_ hHeld
                    replace C14 : Hid (Below wr.heap.size wr w14.drew) := below_drew (unhide C14)
                    go_wp2_with fail
                    go_roundg (gk - 1)
                    case measure => have := unhide HI; have := unhide HLT; omega
                    case rel => exact ⟨j + 1, l, congrArg (Value.int .i64) (by have := unhide HLT; have := unhide HL30; (try unfold wrap64); omega), (by have := unhide HI; have := unhide HLT; show _ = _; omega), (unhide HB).trans ((unhide C14).mono (Nat.le_of_lt (unhide SL).lt)), (unhide SL).below (unhide C14), ((unhide CN).below (unhide C14)).more (Nat.le_succ j), (fun k hk => unhide HK k (by omega)), Nat.le_succ_of_le (unhide HLL)⟩
                  | true =>
                    by_cases hsx : sec = x
                    · obtain rfl : sec = x := hsx
                      have hch : chk us u nm nc (answer sec nm nc) = 0 := chk_right (by rw [← unhide HSO])
                      go_wp2_with fail
                      clear y0 y1 y2
                      replace G12 : Hid (w12.drew.heap[gb]? = some (.cells (gc (nm, u, sec, nc)).toArray 74 (0, 0))) := unhide G12
                      replace M12 : Hid (w12.drew.heap[gm]? = some (.cells #[.string nm, .string rt, .bool b, .int .i64 sl, .int .i64 qq, .slice A3 N c3] 65 (0, 0))) := unhide M12
                      replace U12 : Hid (KU.C w12.drew A3 us.length us) := Kd.C_drew (unhide U12)
                      replace B12 : Hid (Below wr.heap.size wr w12.drew) := below_drew (unhide B12)
                      replace HCHK : Hid (∀ (ss : List Int) (W : World), ss = answer sec nm nc → KU.C W A3 us.length us → Calls Tryd.prog 14 #[.agg #[.string nm, .string rt, .bool b, .int .i64 sl, .int .i64 qq, .slice A3 N c3], .string u, .agg (bys nc), .agg (bys ss)] W fun e w' => e = .returned (.int .i64 0) ∧ Below W.heap.size W w') := by
                        have h := unhide HCHK
                        rw [hch] at h
                        exact h
                      have SN : Hid ((Tryd.prog.info? 30).map (·.size) = some (nc.map (Value.int .u8)).length) := by show _ = _; rw [List.length_map, unhide HG1]; exact size30
                      clear hch
                      refine start_ (n := 14) (S := fun w' => Below w12.drew.heap.size w12.drew w') (ds := []) #[false, false, false, false, false, false, false, false, false, false, false, false, false, false] (by kernel_rfl) rfl rfl (Below.refl _ _) (fun hHeld => ?_)
                      refine with_tabW tabT4_21 bitsT4_21 (fun HT_ HW_ => ?_)
                      refine take_ (i := 0) (N := some 106) (v := ?_) (a' := ?_) #[true, false, false, false, false, false, false, false, false, false, false, false, false, false] rfl rfl (take_ofW HT_.out HW_.out (by kernel_rfl)) (fun _ _ _ h => h) (Or.inl ⟨by rfl, ?_⟩) hHeld ?_ ?_
                      rotate_left
                      · rintro w' h1_
                        have hg_ := blk_below (unhide G12) h1_
                        have hm_ := blk_below (unhide M12) h1_
                        obtain ⟨k0_, k1_, k2_, k3_⟩ := gc_cells hg_
                        refine exec_ld (x := .tmp 13) ?_ gm 0 ?_ [.string nm, .string rt, .bool b, .int .i64 sl, .int .i64 qq, .slice A3 N c3] _ (range_of (L := [.string nm, .string rt, .bool b, .int .i64 sl, .int .i64 qq, .slice A3 N c3]) hm_ 0 (fun j v h => by rw [Nat.zero_add]; exact h)) Tryd.underlying65 rfl size65
                        all_goals rfl
                      rotate_left
                      · simp only [Act.put, List.setIfInBounds_toArray, List.set_cons_zero, List.set_cons_succ, i64_w, i32_w]
                        rfl
                      refine pure_ (i := 1) (N := some 107) (v := ?_) (a' := ?_) #[true, true, false, false, false, false, false, false, false, false, false, false, false, false] rfl rfl (any_of HT_.out (by kernel_rfl)) (fun _ _ _ h => h) (Or.inl ⟨by rfl, ?_⟩) ?_ ?_
                      rotate_left
                      · intro w'
                        go_simp
                        with_reducible rfl
                      rotate_left
                      · simp only [Act.put, List.setIfInBounds_toArray, List.set_cons_zero, List.set_cons_succ, i64_w, i32_w]
                        rfl
                      refine take_ (i := 2) (N := some 108) (v := ?_) (a' := ?_) #[true, true, true, false, false, false, false, false, false, false, false, false, false, false] rfl rfl (take_ofW HT_.out HW_.out (by kernel_rfl)) (fun _ _ _ h => h) (Or.inl ⟨by rfl, ?_⟩) hHeld ?_ ?_
                      rotate_left
                      · rintro w' h1_
                        have hg_ := blk_below (unhide G12) h1_
                        have hm_ := blk_below (unhide M12) h1_
                        obtain ⟨k0_, k1_, k2_, k3_⟩ := gc_cells hg_
                        clear k3_ hg_ hm_ h1_
                        go_simp
                        with_reducible rfl
                      rotate_left
                      · simp only [Act.put, List.setIfInBounds_toArray, List.set_cons_zero, List.set_cons_succ, i64_w, i32_w]
                        rfl
                      refine pure_ (i := 3) (N := some 109) (v := ?_) (a' := ?_) #[true, true, true, true, false, false, false, false, false, false, false, false, false, false] rfl rfl (any_of HT_.out (by kernel_rfl)) (fun _ _ _ h => h) (Or.inl ⟨by rfl, ?_⟩) ?_ ?_
                      rotate_left
                      · intro w'
                        go_simp
                        with_reducible rfl
                      rotate_left
                      · simp only [Act.put, List.setIfInBounds_toArray, List.set_cons_zero, List.set_cons_succ, i64_w, i32_w]
                        rfl
                      refine take_ (i := 4) (N := some 110) (v := ?_) (a' := ?_) #[true, true, true, true, true, false, false, false, false, false, false, false, false, false] rfl rfl (take_ofW HT_.out HW_.out (by kernel_rfl)) (fun _ _ _ h => h) (Or.inl ⟨by rfl, ?_⟩) hHeld ?_ ?_
                      rotate_left
                      · rintro w' h1_
                        have hg_ := blk_below (unhide G12) h1_
                        have hm_ := blk_below (unhide M12) h1_
                        obtain ⟨k0_, k1_, k2_, k3_⟩ := gc_cells hg_
                        refine exec_ld (x := .tmp 109) ?_ gb 3 ?_ (nc.map (Value.int .u8)) _ k3_ Tryd.underlying30 rfl (unhide SN)
                        all_goals rfl
                      rotate_left
                      · simp only [Act.put, List.setIfInBounds_toArray, List.set_cons_zero, List.set_cons_succ, i64_w, i32_w]
                        rfl
                      refine pure_ (i := 5) (N := some 111) (v := ?_) (a' := ?_) #[true, true, true, true, true, true, false, false, false, false, false, false, false, false] rfl rfl (any_of HT_.out (by kernel_rfl)) (fun _ _ _ h => h) (Or.inl ⟨by rfl, ?_⟩) ?_ ?_
                      rotate_left
                      · intro w'
                        go_simp
                        with_reducible rfl
                      rotate_left
                      · simp only [Act.put, List.setIfInBounds_toArray, List.set_cons_zero, List.set_cons_succ, i64_w, i32_w]
                        rfl
                      refine take_ (i := 6) (N := some 112) (v := ?_) (a' := ?_) #[true, true, true, true, true, true, true, false, false, false, false, false, false, false] rfl rfl (take_ofW HT_.out HW_.out (by kernel_rfl)) (fun _ _ _ h => h) (Or.inl ⟨by rfl, ?_⟩) hHeld ?_ ?_
                      rotate_left
                      · rintro w' h1_
                        have hg_ := blk_below (unhide G12) h1_
                        have hm_ := blk_below (unhide M12) h1_
                        obtain ⟨k0_, k1_, k2_, k3_⟩ := gc_cells hg_
                        clear k3_ hg_ hm_ h1_
                        go_simp
                        with_reducible rfl
                      rotate_left
                      · simp only [Act.put, List.setIfInBounds_toArray, List.set_cons_zero, List.set_cons_succ, i64_w, i32_w]
                        rfl
                      refine pure_ (i := 7) (N := some 113) (v := ?_) (a' := ?_) #[true, true, true, true, true, true, true, true, false, false, false, false, false, false] rfl rfl (any_of HT_.out (by kernel_rfl)) (fun _ _ _ h => h) (Or.inl ⟨by rfl, ?_⟩) ?_ ?_
                      rotate_left
                      · intro w'
                        go_simp
                        with_reducible rfl
                      rotate_left
                      · simp only [Act.put, List.setIfInBounds_toArray, List.set_cons_zero, List.set_cons_succ, i64_w, i32_w]
                        rfl
                      refine take_ (i := 8) (N := some 114) (v := ?_) (a' := ?_) #[true, true, true, true, true, true, true, true, true, false, false, false, false, false] rfl rfl (take_ofW HT_.out HW_.out (by kernel_rfl)) (fun _ _ _ h => h) (Or.inl ⟨by rfl, ?_⟩) hHeld ?_ ?_
                      rotate_left
                      · rintro w' h1_
                        have hg_ := blk_below (unhide G12) h1_
                        have hm_ := blk_below (unhide M12) h1_
                        obtain ⟨k0_, k1_, k2_, k3_⟩ := gc_cells hg_
                        clear k3_ hg_ hm_ h1_
                        go_simp
                        with_reducible rfl
                      rotate_left
                      · simp only [Act.put, List.setIfInBounds_toArray, List.set_cons_zero, List.set_cons_succ, i64_w, i32_w]
                        rfl
                      refine pure_ (i := 9) (N := some 115) (v := ?_) (a' := ?_) #[true, true, true, true, true, true, true, true, true, true, false, false, false, false] rfl rfl (any_of HT_.out (by kernel_rfl)) (fun _ _ _ h => h) (Or.inl ⟨by rfl, ?_⟩) ?_ ?_
                      rotate_left
                      · intro w'
                        go_simp
                        with_reducible rfl
                      rotate_left
                      · simp only [Act.put, List.setIfInBounds_toArray, List.set_cons_zero, List.set_cons_succ, i64_w, i32_w]
                        rfl
                      refine take_ (i := 10) (N := some 116) (v := ?_) (a' := ?_) #[true, true, true, true, true, true, true, true, true, true, true, false, false, false] rfl rfl (take_ofW HT_.out HW_.out (by kernel_rfl)) (fun _ _ _ h => h) (Or.inl ⟨by rfl, ?_⟩) hHeld ?_ ?_
                      rotate_left
                      · rintro w' h1_
                        have hg_ := blk_below (unhide G12) h1_
                        have hm_ := blk_below (unhide M12) h1_
                        obtain ⟨k0_, k1_, k2_, k3_⟩ := gc_cells hg_
                        refine exec_ld (x := .tmp 115) ?_ gb 3 ?_ (nc.map (Value.int .u8)) _ k3_ Tryd.underlying30 rfl (unhide SN)
                        all_goals rfl
                      rotate_left
                      · simp only [Act.put, List.setIfInBounds_toArray, List.set_cons_zero, List.set_cons_succ, i64_w, i32_w]
                        rfl
                      refine one_ (i := 11) (N := some 117) #[true, true, true, true, true, true, true, true, true, true, true, true, false, false] rfl rfl (one_of HT_.out (by kernel_rfl)) (by decide) (fun K hK => ?_)
                      refine goes_ Tryd.func15 (by kernel_rfl) rfl #[.string sec, .string nm, .agg (bys nc)] (by rfl) rfl rfl (by (try simp only [List.map_toArray, List.map_cons, List.map_nil]); first | done | rfl) ?_
                      refine (unhide HANS _).mono ?_
                      rintro e w13 ⟨rfl, hb13⟩
                      refine ⟨_, rfl, ?_⟩
                      obtain ⟨s9, hs9⟩ : ∃ z, z = answer sec nm nc := ⟨_, rfl⟩
                      rw [← hs9]
                      have HS9 := hide hs9
                      have B13 := hide hb13
                      clear hs9 hb13
                      clear hHeld
                      refine hK.out _ _ (unhide B13) (fun hHeld => ?_)
                      clear hK K
                      refine norm_ (a' := ?_) ?_ ?_
                      rotate_left
                      · show Act.put _ (some 117) _ = _
                        simp only [Act.put, List.setIfInBounds_toArray, List.set_cons_zero, List.set_cons_succ, i64_w, i32_w]
                        rfl
                      refine one_ (i := 12) (N := some 118) #[true, true, true, true, true, true, true, true, true, true, true, true, true, false] rfl rfl (one_of HT_.out (by kernel_rfl)) (by decide) (fun K hK => ?_)
                      refine goes_ Tryd.func14 (by kernel_rfl) rfl #[.agg #[.string nm, .string rt, .bool b, .int .i64 sl, .int .i64 qq, .slice A3 N c3], .string u, .agg (bys nc), .agg (bys s9)] (by rfl) rfl rfl (by (try simp only [List.map_toArray, List.map_cons, List.map_nil]); first | done | rfl) ?_
                      refine (unhide HCHK s9 _ (unhide HS9) (Kd.C_below (unhide U12) (unhide B13))).mono ?_
                      rintro e w14 ⟨rfl, hb14⟩
                      refine ⟨_, rfl, ?_⟩
                      have B14 := hide (below_step (unhide B13) hb14)
                      clear hb14
                      clear hHeld
                      refine hK.out _ _ (unhide B14) (fun hHeld => ?_)
                      clear hK K
                      refine norm_ (a' := ?_) ?_ ?_
                      rotate_left
                      · show Act.put _ (some 118) _ = _
                        simp only [Act.put, List.setIfInBounds_toArray, List.set_cons_zero, List.set_cons_succ, i64_w, i32_w]
                        rfl
                      refine pure_ (i := 13) (N := some 18) (v := ?_) (a' := ?_) #[true, true, true, true, true, true, true, true, true, true, true, true, true, true] rfl rfl (any_of HT_.out (by kernel_rfl)) (fun _ _ _ h => h) (Or.inl ⟨by rfl, ?_⟩) ?_ ?_
                      rotate_left
                      · intro w'
                        go_simp
                        with_reducible rfl
                      rotate_left
                      · simp only [Act.put, List.setIfInBounds_toArray, List.set_cons_zero, List.set_cons_succ, i64_w, i32_w]
                        rfl
                      refine done_ (done_of HT_.out (by kernel_rfl)) ?_
                      clear HT_ HW_ hHeld
                      have C14 := hide (below_step (unhide B12) (unhide B14))
                      have G14 := hide (blk_below (unhide G12) (unhide B14))
                      have M14 := hide (blk_below (unhide M12) (unhide B14))
                      clear G12 M12 U12 B12 B13 B14 SN HCHK
                      have hat := unhide HK (j : Int) (Int.le_refl _)
                      obtain ⟨cn, hcn⟩ : ∃ z, z = cnt_ l nm := ⟨_, rfl⟩
                      have hcl : cn ≤ j := by rw [hcn]; exact Nat.le_trans (cnt_le nm) (unhide HLL)
                      have S14 := (unhide SL).below (unhide C14)
                      have hsm := (unhide SL).lt
                      have hwg := unhide WGB
                      have hmb := unhide HMB
                      have hent := enter_ok sg sm sm l (j : Int) nm (.string rt) (.bool b) (.int .i64 qq) (.slice A3 N c3) sl w14 S14 (WalkArith.wf_i64 (by have := unhide HL30; have := unhide HLT; omega)) (by have := unhide HLL; have := unhide HL30; have := unhide HLT; omega) (by have := unhide HMS; unfold maxLen; omega) (Nat.le_refl sm)
                      unfold eres eput at hent
                      rw [hat] at hent
                      simp only [Bool.false_eq_true, if_false] at hent
                      rw [← hcn] at hent
                      have hm6 := unhide M14
                      have o0 := (blk_cell hm6 0).trans rfl
                      have o1 := (blk_cell hm6 1).trans rfl
                      have o2 := (blk_cell hm6 2).trans rfl
                      have o3 := (blk_cell hm6 3).trans rfl
                      have o4 := (blk_cell hm6 4).trans rfl
                      have o5 := (blk_cell hm6 5).trans rfl
                      have HCL := hide hcl
                      have HCN := hide hcn
                      have HSM := hide hsm
                      have HBM := hide ((unhide HB).trans ((unhide C14).mono (Nat.le_of_lt hsm)))
                      have hlt7 : w7.heap.size ≤ wr.heap.size := by rw [← unhide SM]; exact Nat.le_of_lt hsm
                      have HC14 := hide ((unhide CN).below (unhide C14))
                      clear hat hcl hcn S14 hsm hwg hmb hm6 hlt7
                      by_cases hfull : sl ≤ (cn : Int)
                      · rw [if_pos hfull, if_pos hfull] at hent
                        have d5 : ¬ (cn : Int) < sl := by omega
                        clear hfull
                        go_wp2_with fail
                        clear o0 o1 o2 o3 o4 o5
                        refine hent.mono ?_
                        rintro e w15 ⟨rfl, h1, h2, h3⟩
                        have HE1 := hide h2
                        have HE2 := hide h1
                        have hgm : gm ≠ sm := by have := unhide HSM; have := (unhide WGB).2; omega
                        have M15 := (h3.2 gm (blk_lt (unhide M14)) hgm (by simp)).trans (unhide M14)
                        have o0 := (blk_cell M15 0).trans rfl
                        have o3 := (blk_cell M15 3).trans rfl
                        have hc15 := (unhide HC14).keep (h3.2 mb (unhide HC14).lt (by have := (unhide HMB).1; omega) (by simp))
                        have hlk := hc15.look nm (by have := unhide HMS; unfold maxLen; omega)
                        rw [← unhide HCN] at hlk
                        have HC15 := hide hc15
                        clear hent h1 h2 h3 M15 hc15 hgm
                        go_wp2_with fail
                        go_roundg (gk - 1)
                        case measure => have := unhide HI; have := unhide HLT; omega
                        case rel => exact ⟨j + 1, l, congrArg (Value.int .i64) (by have := unhide HLT; have := unhide HL30; (try unfold wrap64); omega), (by have := unhide HI; have := unhide HLT; show _ = _; omega), (unhide HBM).trans (unhide HE1), unhide HE2, (unhide HC15).more (Nat.le_succ j), (fun k hk => unhide HK k (by omega)), Nat.le_succ_of_le (unhide HLL)⟩
                      · rw [if_neg hfull, if_neg hfull] at hent
                        have d5 : (cn : Int) < sl := by omega
                        clear hfull
                        go_wp2_with fail
                        clear o0 o1 o2 o3 o4 o5
                        refine hent.mono ?_
                        rintro e w15 ⟨rfl, h1, h2, h3⟩
                        have HE1 := hide h2
                        have HE2 := hide h1
                        have hgm : gm ≠ sm := by have := unhide HSM; have := (unhide WGB).2; omega
                        have M15 := (h3.2 gm (blk_lt (unhide M14)) hgm (by simp)).trans (unhide M14)
                        have o0 := (blk_cell M15 0).trans rfl
                        have o3 := (blk_cell M15 3).trans rfl
                        have hc15 := (unhide HC14).keep (h3.2 mb (unhide HC14).lt (by have := (unhide HMB).1; omega) (by simp))
                        have hlk := hc15.look nm (by have := unhide HMS; unfold maxLen; omega)
                        rw [← unhide HCN] at hlk
                        have HC15 := hide hc15
                        clear hent h1 h2 h3 M15 hc15 hgm
                        obtain ⟨w16, hput, C16, hg16⟩ := (unhide HC15).put (by have := unhide HL30; have := unhide HLT; unfold maxLen; omega) nm (by have := unhide HMS; unfold maxLen; omega) (by rw [← unhide HCN]; have := unhide HCL; have := unhide HL30; have := unhide HLT; omega)
                        rw [← unhide HCN] at hput
                        have dwr : wrap64 ((cn : Int) + 1) = (cn : Int) + 1 := by have := unhide HCL; have := unhide HL30; have := unhide HLT; unfold wrap64; omega
                        have HC16 := hide C16
                        have HG16 := hide hg16
                        clear C16 hg16
                        go_wp2_with fail
                        go_roundg (gk - 1)
                        case measure => have := unhide HI; have := unhide HLT; omega
                        case rel =>
                          have hmb := unhide HMB
                          refine ⟨j + 1, l ++ [((j : Int), nm)], congrArg (Value.int .i64) (by have := unhide HLT; have := unhide HL30; (try unfold wrap64); omega), (by have := unhide HI; have := unhide HLT; show _ = _; omega), (unhide HBM).trans ((unhide HE1).grown (unhide HG16) (Nat.le_of_lt (unhide HE2).lt) (fun k hk => by cases hk; omega)), ?_, ?_, ?_, ?_⟩
                          · have h2 := unhide HE2
                            exact h2.keep ((unhide HG16).block sg h2.cell.2.2 (fun e => by have := Option.some.inj e; omega)) ((unhide HG16).block sm h2.lt (fun e => by have := Option.some.inj e; omega))
                          · have h3 := unhide HC16
                            have e : bump (cnt_ l) nm = cnt_ (l ++ [((j : Int), nm)]) := by
                              funext q
                              rw [cnt_put]
                              unfold bump
                              by_cases hq : q = nm
                              · subst hq; rw [if_pos rfl, if_pos rfl]
                              · rw [if_neg hq, if_neg (fun e => hq e.symm), Nat.add_zero]
                            rw [e] at h3
                            exact h3
                          · intro k hk
                            rw [at_put, unhide HK k (by omega)]
                            have : ¬ (j : Int) = k := by omega
                            simp [this]
                          · show _ ≤ _
                            rw [List.length_append, List.length_singleton]
                            have := unhide HLL
                            omega
                    · have hq := str_ne hsx
                      clear hsx
                      by_cases heq : answer sec nm nc = answer x nm nc
                      · have hch : chk us u nm nc (answer x nm nc) = 0 := by
                          unfold chk
                          rw [if_pos (by rw [← unhide HSO]; exact ⟨rfl, heq⟩)]
                        have hlen := answer_len x nm nc
                        have hans2 : ∀ W, Calls Tryd.prog 15 #[.string sec, .string nm, .agg (bys nc)] W fun e w' => e = .returned (.agg (bys (answer x nm nc))) ∧ Below W.heap.size W w' := by
                          intro W
                          rw [← heq]
                          exact answer_ok sec nm nc W (unhide HG1) (unhide HG2) (by have := unhide HSZ; omega) (by have := unhide HMS; omega)
                        obtain ⟨a9, ha9⟩ : ∃ z, z = answer x nm nc := ⟨_, rfl⟩
                        have hans1 := unhide HANS
                        rw [← ha9] at hlen hans1 hans2
                        have A32 := hide hlen
                        have HA1 := hide hans2
                        have HA2 := hide hans1
                        clear heq hlen hans1 hans2 ha9
                        go_wp2_with fail
                        clear y0 y1 y2 hq
                        replace G12 : Hid (w12.drew.heap[gb]? = some (.cells (gc (nm, u, x, nc)).toArray 74 (0, 0))) := unhide G12
                        replace M12 : Hid (w12.drew.heap[gm]? = some (.cells #[.string nm, .string rt, .bool b, .int .i64 sl, .int .i64 qq, .slice A3 N c3] 65 (0, 0))) := unhide M12
                        replace U12 : Hid (KU.C w12.drew A3 us.length us) := Kd.C_drew (unhide U12)
                        replace B12 : Hid (Below wr.heap.size wr w12.drew) := below_drew (unhide B12)
                        replace HCHK : Hid (∀ (ss : List Int) (W : World), ss = answer x nm nc → KU.C W A3 us.length us → Calls Tryd.prog 14 #[.agg #[.string nm, .string rt, .bool b, .int .i64 sl, .int .i64 qq, .slice A3 N c3], .string u, .agg (bys nc), .agg (bys ss)] W fun e w' => e = .returned (.int .i64 0) ∧ Below W.heap.size W w') := by
                          have h := unhide HCHK
                          rw [hch] at h
                          exact h
                        have SN : Hid ((Tryd.prog.info? 30).map (·.size) = some (nc.map (Value.int .u8)).length) := by show _ = _; rw [List.length_map, unhide HG1]; exact size30
                        clear hch
                        refine start_ (n := 14) (S := fun w' => Below w12.drew.heap.size w12.drew w') (ds := []) #[false, false, false, false, false, false, false, false, false, false, false, false, false, false] (by kernel_rfl) rfl rfl (Below.refl _ _) (fun hHeld => ?_)
                        refine with_tabW tabT4_21 bitsT4_21 (fun HT_ HW_ => ?_)
                        refine take_ (i := 0) (N := some 106) (v := ?_) (a' := ?_) #[true, false, false, false, false, false, false, false, false, false, false, false, false, false] rfl rfl (take_ofW HT_.out HW_.out (by kernel_rfl)) (fun _ _ _ h => h) (Or.inl ⟨by rfl, ?_⟩) hHeld ?_ ?_
                        rotate_left
                        · rintro w' h1_
                          have hg_ := blk_below (unhide G12) h1_
                          have hm_ := blk_below (unhide M12) h1_
                          obtain ⟨k0_, k1_, k2_, k3_⟩ := gc_cells hg_
                          refine exec_ld (x := .tmp 13) ?_ gm 0 ?_ [.string nm, .string rt, .bool b, .int .i64 sl, .int .i64 qq, .slice A3 N c3] _ (range_of (L := [.string nm, .string rt, .bool b, .int .i64 sl, .int .i64 qq, .slice A3 N c3]) hm_ 0 (fun j v h => by rw [Nat.zero_add]; exact h)) Tryd.underlying65 rfl size65
                          all_goals rfl
                        rotate_left
                        · simp only [Act.put, List.setIfInBounds_toArray, List.set_cons_zero, List.set_cons_succ, i64_w, i32_w]
                          rfl
                        refine pure_ (i := 1) (N := some 107) (v := ?_) (a' := ?_) #[true, true, false, false, false, false, false, false, false, false, false, false, false, false] rfl rfl (any_of HT_.out (by kernel_rfl)) (fun _ _ _ h => h) (Or.inl ⟨by rfl, ?_⟩) ?_ ?_
                        rotate_left
                        · intro w'
                          go_simp
                          with_reducible rfl
                        rotate_left
                        · simp only [Act.put, List.setIfInBounds_toArray, List.set_cons_zero, List.set_cons_succ, i64_w, i32_w]
                          rfl
                        refine take_ (i := 2) (N := some 108) (v := ?_) (a' := ?_) #[true, true, true, false, false, false, false, false, false, false, false, false, false, false] rfl rfl (take_ofW HT_.out HW_.out (by kernel_rfl)) (fun _ _ _ h => h) (Or.inl ⟨by rfl, ?_⟩) hHeld ?_ ?_
                        rotate_left
                        · rintro w' h1_
                          have hg_ := blk_below (unhide G12) h1_
                          have hm_ := blk_below (unhide M12) h1_
                          obtain ⟨k0_, k1_, k2_, k3_⟩ := gc_cells hg_
                          clear k3_ hg_ hm_ h1_
                          go_simp
                          with_reducible rfl
                        rotate_left
                        · simp only [Act.put, List.setIfInBounds_toArray, List.set_cons_zero, List.set_cons_succ, i64_w, i32_w]
                          rfl
                        refine pure_ (i := 3) (N := some 109) (v := ?_) (a' := ?_) #[true, true, true, true, false, false, false, false, false, false, false, false, false, false] rfl rfl (any_of HT_.out (by kernel_rfl)) (fun _ _ _ h => h) (Or.inl ⟨by rfl, ?_⟩) ?_ ?_
                        rotate_left
                        · intro w'
                          go_simp
                          with_reducible rfl
                        rotate_left
                        · simp only [Act.put, List.setIfInBounds_toArray, List.set_cons_zero, List.set_cons_succ, i64_w, i32_w]
                          rfl
                        refine take_ (i := 4) (N := some 110) (v := ?_) (a' := ?_) #[true, true, true, true, true, false, false, false, false, false, false, false, false, false] rfl rfl (take_ofW HT_.out HW_.out (by kernel_rfl)) (fun _ _ _ h => h) (Or.inl ⟨by rfl, ?_⟩) hHeld ?_ ?_
                        rotate_left
                        · rintro w' h1_
                          have hg_ := blk_below (unhide G12) h1_
                          have hm_ := blk_below (unhide M12) h1_
                          obtain ⟨k0_, k1_, k2_, k3_⟩ := gc_cells hg_
                          refine exec_ld (x := .tmp 109) ?_ gb 3 ?_ (nc.map (Value.int .u8)) _ k3_ Tryd.underlying30 rfl (unhide SN)
                          all_goals rfl
                        rotate_left
                        · simp only [Act.put, List.setIfInBounds_toArray, List.set_cons_zero, List.set_cons_succ, i64_w, i32_w]
                          rfl
                        refine pure_ (i := 5) (N := some 111) (v := ?_) (a' := ?_) #[true, true, true, true, true, true, false, false, false, false, false, false, false, false] rfl rfl (any_of HT_.out (by kernel_rfl)) (fun _ _ _ h => h) (Or.inl ⟨by rfl, ?_⟩) ?_ ?_
                        rotate_left
                        · intro w'
                          go_simp
                          with_reducible rfl
                        rotate_left
                        · simp only [Act.put, List.setIfInBounds_toArray, List.set_cons_zero, List.set_cons_succ, i64_w, i32_w]
                          rfl
                        refine take_ (i := 6) (N := some 112) (v := ?_) (a' := ?_) #[true, true, true, true, true, true, true, false, false, false, false, false, false, false] rfl rfl (take_ofW HT_.out HW_.out (by kernel_rfl)) (fun _ _ _ h => h) (Or.inl ⟨by rfl, ?_⟩) hHeld ?_ ?_
                        rotate_left
                        · rintro w' h1_
                          have hg_ := blk_below (unhide G12) h1_
                          have hm_ := blk_below (unhide M12) h1_
                          obtain ⟨k0_, k1_, k2_, k3_⟩ := gc_cells hg_
                          clear k3_ hg_ hm_ h1_
                          go_simp
                          with_reducible rfl
                        rotate_left
                        · simp only [Act.put, List.setIfInBounds_toArray, List.set_cons_zero, List.set_cons_succ, i64_w, i32_w]
                          rfl
                        refine pure_ (i := 7) (N := some 113) (v := ?_) (a' := ?_) #[true, true, true, true, true, true, true, true, false, false, false, false, false, false] rfl rfl (any_of HT_.out (by kernel_rfl)) (fun _ _ _ h => h) (Or.inl ⟨by rfl, ?_⟩) ?_ ?_
                        rotate_left
                        · intro w'
                          go_simp
                          with_reducible rfl
                        rotate_left
                        · simp only [Act.put, List.setIfInBounds_toArray, List.set_cons_zero, List.set_cons_succ, i64_w, i32_w]
                          rfl
                        refine take_ (i := 8) (N := some 114) (v := ?_) (a' := ?_) #[true, true, true, true, true, true, true, true, true, false, false, false, false, false] rfl rfl (take_ofW HT_.out HW_.out (by kernel_rfl)) (fun _ _ _ h => h) (Or.inl ⟨by rfl, ?_⟩) hHeld ?_ ?_
                        rotate_left
                        · rintro w' h1_
                          have hg_ := blk_below (unhide G12) h1_
                          have hm_ := blk_below (unhide M12) h1_
                          obtain ⟨k0_, k1_, k2_, k3_⟩ := gc_cells hg_
                          clear k3_ hg_ hm_ h1_
                          go_simp
                          with_reducible rfl
                        rotate_left
                        · simp only [Act.put, List.setIfInBounds_toArray, List.set_cons_zero, List.set_cons_succ, i64_w, i32_w]
                          rfl
                        refine pure_ (i := 9) (N := some 115) (v := ?_) (a' := ?_) #[true, true, true, true, true, true, true, true, true, true, false, false, false, false] rfl rfl (any_of HT_.out (by kernel_rfl)) (fun _ _ _ h => h) (Or.inl ⟨by rfl, ?_⟩) ?_ ?_
                        rotate_left
                        · intro w'
                          go_simp
                          with_reducible rfl
                        rotate_left
                        · simp only [Act.put, List.setIfInBounds_toArray, List.set_cons_zero, List.set_cons_succ, i64_w, i32_w]
                          rfl
                        refine take_ (i := 10) (N := some 116) (v := ?_) (a' := ?_) #[true, true, true, true, true, true, true, true, true, true, true, false, false, false] rfl rfl (take_ofW HT_.out HW_.out (by kernel_rfl)) (fun _ _ _ h => h) (Or.inl ⟨by rfl, ?_⟩) hHeld ?_ ?_
                        rotate_left
                        · rintro w' h1_
                          have hg_ := blk_below (unhide G12) h1_
                          have hm_ := blk_below (unhide M12) h1_
                          obtain ⟨k0_, k1_, k2_, k3_⟩ := gc_cells hg_
                          refine exec_ld (x := .tmp 115) ?_ gb 3 ?_ (nc.map (Value.int .u8)) _ k3_ Tryd.underlying30 rfl (unhide SN)
                          all_goals rfl
                        rotate_left
                        · simp only [Act.put, List.setIfInBounds_toArray, List.set_cons_zero, List.set_cons_succ, i64_w, i32_w]
                          rfl
                        refine one_ (i := 11) (N := some 117) #[true, true, true, true, true, true, true, true, true, true, true, true, false, false] rfl rfl (one_of HT_.out (by kernel_rfl)) (by decide) (fun K hK => ?_)
                        refine goes_ Tryd.func15 (by kernel_rfl) rfl #[.string x, .string nm, .agg (bys nc)] (by rfl) rfl rfl (by (try simp only [List.map_toArray, List.map_cons, List.map_nil]); first | done | rfl) ?_
                        refine (unhide HANS _).mono ?_
                        rintro e w13 ⟨rfl, hb13⟩
                        refine ⟨_, rfl, ?_⟩
                        obtain ⟨s9, hs9⟩ : ∃ z, z = answer x nm nc := ⟨_, rfl⟩
                        rw [← hs9]
                        have HS9 := hide hs9
                        have B13 := hide hb13
                        clear hs9 hb13
                        clear hHeld
                        refine hK.out _ _ (unhide B13) (fun hHeld => ?_)
                        clear hK K
                        refine norm_ (a' := ?_) ?_ ?_
                        rotate_left
                        · show Act.put _ (some 117) _ = _
                          simp only [Act.put, List.setIfInBounds_toArray, List.set_cons_zero, List.set_cons_succ, i64_w, i32_w]
                          rfl
                        refine one_ (i := 12) (N := some 118) #[true, true, true, true, true, true, true, true, true, true, true, true, true, false] rfl rfl (one_of HT_.out (by kernel_rfl)) (by decide) (fun K hK => ?_)
                        refine goes_ Tryd.func14 (by kernel_rfl) rfl #[.agg #[.string nm, .string rt, .bool b, .int .i64 sl, .int .i64 qq, .slice A3 N c3], .string u, .agg (bys nc), .agg (bys s9)] (by rfl) rfl rfl (by (try simp only [List.map_toArray, List.map_cons, List.map_nil]); first | done | rfl) ?_
                        refine (unhide HCHK s9 _ (unhide HS9) (Kd.C_below (unhide U12) (unhide B13))).mono ?_
                        rintro e w14 ⟨rfl, hb14⟩
                        refine ⟨_, rfl, ?_⟩
                        have B14 := hide (below_step (unhide B13) hb14)
                        clear hb14
                        clear hHeld
                        refine hK.out _ _ (unhide B14) (fun hHeld => ?_)
                        clear hK K
                        refine norm_ (a' := ?_) ?_ ?_
                        rotate_left
                        · show Act.put _ (some 118) _ = _
                          simp only [Act.put, List.setIfInBounds_toArray, List.set_cons_zero, List.set_cons_succ, i64_w, i32_w]
                          rfl
                        refine pure_ (i := 13) (N := some 18) (v := ?_) (a' := ?_) #[true, true, true, true, true, true, true, true, true, true, true, true, true, true] rfl rfl (any_of HT_.out (by kernel_rfl)) (fun _ _ _ h => h) (Or.inl ⟨by rfl, ?_⟩) ?_ ?_
                        rotate_left
                        · intro w'
                          go_simp
                          with_reducible rfl
                        rotate_left
                        · simp only [Act.put, List.setIfInBounds_toArray, List.set_cons_zero, List.set_cons_succ, i64_w, i32_w]
                          rfl
                        refine done_ (done_of HT_.out (by kernel_rfl)) ?_
                        clear HT_ HW_ hHeld
                        have C14 := hide (below_step (unhide B12) (unhide B14))
                        have G14 := hide (blk_below (unhide G12) (unhide B14))
                        have M14 := hide (blk_below (unhide M12) (unhide B14))
                        clear G12 M12 U12 B12 B13 B14 SN HCHK
                        go_wp2_with fail
                        replace C14 : Hid (Below wr.heap.size wr w14.drew) := below_drew (unhide C14)
                        replace G14 : Hid (w14.drew.heap[gb]? = some (.cells (gc (nm, u, x, nc)).toArray 74 (0, 0))) := unhide G14
                        replace M14 : Hid (w14.drew.heap[gm]? = some (.cells #[.string nm, .string rt, .bool b, .int .i64 sl, .int .i64 qq, .slice A3 N c3] 65 (0, 0))) := unhide M14
                        have SN : Hid ((Tryd.prog.info? 30).map (·.size) = some (nc.map (Value.int .u8)).length) := by show _ = _; rw [List.length_map, unhide HG1]; exact size30
                        refine start_ (n := 22) (S := fun w' => Below w14.drew.heap.size w14.drew w') (ds := []) #[false, false, false, false, false, false, false, false, false, false, false, false, false, false, false, false, false, false, false, false, false, false] (by kernel_rfl) rfl rfl (Below.refl _ _) (fun hHeld => ?_)
                        refine with_tabW tabT4_23 bitsT4_23 (fun HT_ HW_ => ?_)
                        refine pure_ (i := 0) (N := some 121) (v := ?_) (a' := ?_) #[true, false, false, false, false, false, false, false, false, false, false, false, false, false, false, false, false, false, false, false, false, false] rfl rfl (any_of HT_.out (by kernel_rfl)) (fun _ _ _ h => h) (Or.inl ⟨by rfl, ?_⟩) ?_ ?_
                        rotate_left
                        · intro w'
                          go_simp
                          with_reducible rfl
                        rotate_left
                        · simp only [Act.put, List.setIfInBounds_toArray, List.set_cons_zero, List.set_cons_succ, i64_w, i32_w]
                          rfl
                        refine pure_ (i := 1) (N := some 122) (v := ?_) (a' := ?_) #[true, true, false, false, false, false, false, false, false, false, false, false, false, false, false, false, false, false, false, false, false, false] rfl rfl (any_of HT_.out (by kernel_rfl)) (fun _ _ _ h => h) (Or.inl ⟨by rfl, ?_⟩) ?_ ?_
                        rotate_left
                        · intro w'
                          go_simp
                          with_reducible rfl
                        rotate_left
                        · simp only [Act.put, List.setIfInBounds_toArray, List.set_cons_zero, List.set_cons_succ, i64_w, i32_w]
                          rfl
                        refine pure_ (i := 2) (N := some 123) (v := ?_) (a' := ?_) #[true, true, true, false, false, false, false, false, false, false, false, false, false, false, false, false, false, false, false, false, false, false] rfl rfl (any_of HT_.out (by kernel_rfl)) (fun _ _ _ h => h) (Or.inl ⟨by rfl, ?_⟩) ?_ ?_
                        rotate_left
                        · intro w'
                          go_simp
                          with_reducible rfl
                        rotate_left
                        · simp only [Act.put, List.setIfInBounds_toArray, List.set_cons_zero, List.set_cons_succ, i64_w, i32_w]
                          rfl
                        refine pure_ (i := 3) (N := some 124) (v := ?_) (a' := ?_) #[true, true, true, true, false, false, false, false, false, false, false, false, false, false, false, false, false, false, false, false, false, false] rfl rfl (any_of HT_.out (by kernel_rfl)) (fun _ _ _ h => h) (Or.inl ⟨by rfl, ?_⟩) ?_ ?_
                        rotate_left
                        · intro w'
                          go_simp
                          with_reducible rfl
                        rotate_left
                        · simp only [Act.put, List.setIfInBounds_toArray, List.set_cons_zero, List.set_cons_succ, i64_w, i32_w]
                          rfl
                        refine pure_ (i := 4) (N := some 125) (v := ?_) (a' := ?_) #[true, true, true, true, true, false, false, false, false, false, false, false, false, false, false, false, false, false, false, false, false, false] rfl rfl (any_of HT_.out (by kernel_rfl)) (fun _ _ _ h => h) (Or.inl ⟨by rfl, ?_⟩) ?_ ?_
                        rotate_left
                        · intro w'
                          go_simp
                          with_reducible rfl
                        rotate_left
                        · simp only [Act.put, List.setIfInBounds_toArray, List.set_cons_zero, List.set_cons_succ, i64_w, i32_w]
                          rfl
                        refine pure_ (i := 5) (N := some 126) (v := ?_) (a' := ?_) #[true, true, true, true, true, true, false, false, false, false, false, false, false, false, false, false, false, false, false, false, false, false] rfl rfl (any_of HT_.out (by kernel_rfl)) (fun _ _ _ h => h) (Or.inl ⟨by rfl, ?_⟩) ?_ ?_
                        rotate_left
                        · intro w'
                          go_simp
                          with_reducible rfl
                        rotate_left
                        · simp only [Act.put, List.setIfInBounds_toArray, List.set_cons_zero, List.set_cons_succ, i64_w, i32_w]
                          rfl
                        refine pure_ (i := 6) (N := some 127) (v := ?_) (a' := ?_) #[true, true, true, true, true, true, true, false, false, false, false, false, false, false, false, false, false, false, false, false, false, false] rfl rfl (any_of HT_.out (by kernel_rfl)) (fun _ _ _ h => h) (Or.inl ⟨by rfl, ?_⟩) ?_ ?_
                        rotate_left
                        · intro w'
                          go_simp
                          with_reducible rfl
                        rotate_left
                        · simp only [Act.put, List.setIfInBounds_toArray, List.set_cons_zero, List.set_cons_succ, i64_w, i32_w]
                          rfl
                        refine take_ (i := 7) (N := some 128) (v := ?_) (a' := ?_) #[true, true, true, true, true, true, true, true, false, false, false, false, false, false, false, false, false, false, false, false, false, false] rfl rfl (take_ofW HT_.out HW_.out (by kernel_rfl)) (fun _ _ _ h => h) (Or.inl ⟨by rfl, ?_⟩) hHeld ?_ ?_
                        rotate_left
                        · rintro w' h1_
                          have hg_ := blk_below (unhide G14) h1_
                          have hm_ := blk_below (unhide M14) h1_
                          obtain ⟨k0_, k1_, k2_, k3_⟩ := gc_cells hg_
                          have m0_ := (blk_cell hm_ 0).trans rfl
                          clear k3_ hg_ hm_ h1_
                          go_simp
                          with_reducible rfl
                        rotate_left
                        · simp only [Act.put, List.setIfInBounds_toArray, List.set_cons_zero, List.set_cons_succ, i64_w, i32_w]
                          rfl
                        refine pure_ (i := 8) (N := some 129) (v := ?_) (a' := ?_) #[true, true, true, true, true, true, true, true, true, false, false, false, false, false, false, false, false, false, false, false, false, false] rfl rfl (any_of HT_.out (by kernel_rfl)) (fun _ _ _ h => h) (Or.inl ⟨by rfl, ?_⟩) ?_ ?_
                        rotate_left
                        · intro w'
                          go_simp
                          with_reducible rfl
                        rotate_left
                        · simp only [Act.put, List.setIfInBounds_toArray, List.set_cons_zero, List.set_cons_succ, i64_w, i32_w]
                          rfl
                        refine take_ (i := 9) (N := some 130) (v := ?_) (a' := ?_) #[true, true, true, true, true, true, true, true, true, true, false, false, false, false, false, false, false, false, false, false, false, false] rfl rfl (take_ofW HT_.out HW_.out (by kernel_rfl)) (fun _ _ _ h => h) (Or.inl ⟨by rfl, ?_⟩) hHeld ?_ ?_
                        rotate_left
                        · rintro w' h1_
                          have hg_ := blk_below (unhide G14) h1_
                          have hm_ := blk_below (unhide M14) h1_
                          obtain ⟨k0_, k1_, k2_, k3_⟩ := gc_cells hg_
                          refine exec_ld (x := .tmp 129) ?_ gb 3 ?_ (nc.map (Value.int .u8)) _ k3_ Tryd.underlying30 rfl (unhide SN)
                          all_goals rfl
                        rotate_left
                        · simp only [Act.put, List.setIfInBounds_toArray, List.set_cons_zero, List.set_cons_succ, i64_w, i32_w]
                          rfl
                        refine pure_ (i := 11) (N := some 132) (v := ?_) (a' := ?_) #[true, true, true, true, true, true, true, true, true, true, false, true, false, false, false, false, false, false, false, false, false, false] rfl rfl (any_of HT_.out (by kernel_rfl)) (fun _ _ _ h => h) (Or.inl ⟨by rfl, ?_⟩) ?_ ?_
                        rotate_left
                        · intro w'
                          go_simp
                          with_reducible rfl
                        rotate_left
                        · simp only [Act.put, List.setIfInBounds_toArray, List.set_cons_zero, List.set_cons_succ, i64_w, i32_w]
                          rfl
                        refine take_ (i := 12) (N := some 133) (v := ?_) (a' := ?_) #[true, true, true, true, true, true, true, true, true, true, false, true, true, false, false, false, false, false, false, false, false, false] rfl rfl (take_ofW HT_.out HW_.out (by kernel_rfl)) (fun _ _ _ h => h) (Or.inl ⟨by rfl, ?_⟩) hHeld ?_ ?_
                        rotate_left
                        · rintro w' h1_
                          have hg_ := blk_below (unhide G14) h1_
                          have hm_ := blk_below (unhide M14) h1_
                          obtain ⟨k0_, k1_, k2_, k3_⟩ := gc_cells hg_
                          clear k3_ hg_ hm_ h1_
                          go_simp
                          with_reducible rfl
                        rotate_left
                        · simp only [Act.put, List.setIfInBounds_toArray, List.set_cons_zero, List.set_cons_succ, i64_w, i32_w]
                          rfl
                        refine pure_ (i := 13) (N := some 134) (v := ?_) (a' := ?_) #[true, true, true, true, true, true, true, true, true, true, false, true, true, true, false, false, false, false, false, false, false, false] rfl rfl (any_of HT_.out (by kernel_rfl)) (fun _ _ _ h => h) (Or.inl ⟨by rfl, ?_⟩) ?_ ?_
                        rotate_left
                        · intro w'
                          go_simp
                          with_reducible rfl
                        rotate_left
                        · simp only [Act.put, List.setIfInBounds_toArray, List.set_cons_zero, List.set_cons_succ, i64_w, i32_w]
                          rfl
                        refine take_ (i := 14) (N := some 135) (v := ?_) (a' := ?_) #[true, true, true, true, true, true, true, true, true, true, false, true, true, true, true, false, false, false, false, false, false, false] rfl rfl (take_ofW HT_.out HW_.out (by kernel_rfl)) (fun _ _ _ h => h) (Or.inl ⟨by rfl, ?_⟩) hHeld ?_ ?_
                        rotate_left
                        · rintro w' h1_
                          have hg_ := blk_below (unhide G14) h1_
                          have hm_ := blk_below (unhide M14) h1_
                          obtain ⟨k0_, k1_, k2_, k3_⟩ := gc_cells hg_
                          clear k3_ hg_ hm_ h1_
                          go_simp
                          with_reducible rfl
                        rotate_left
                        · simp only [Act.put, List.setIfInBounds_toArray, List.set_cons_zero, List.set_cons_succ, i64_w, i32_w]
                          rfl
                        refine pure_ (i := 15) (N := some 136) (v := ?_) (a' := ?_) #[true, true, true, true, true, true, true, true, true, true, false, true, true, true, true, true, false, false, false, false, false, false] rfl rfl (any_of HT_.out (by kernel_rfl)) (fun _ _ _ h => h) (Or.inl ⟨by rfl, ?_⟩) ?_ ?_
                        rotate_left
                        · intro w'
                          go_simp
                          with_reducible rfl
                        rotate_left
                        · simp only [Act.put, List.setIfInBounds_toArray, List.set_cons_zero, List.set_cons_succ, i64_w, i32_w]
                          rfl
                        refine take_ (i := 16) (N := some 137) (v := ?_) (a' := ?_) #[true, true, true, true, true, true, true, true, true, true, false, true, true, true, true, true, true, false, false, false, false, false] rfl rfl (take_ofW HT_.out HW_.out (by kernel_rfl)) (fun _ _ _ h => h) (Or.inl ⟨by rfl, ?_⟩) hHeld ?_ ?_
                        rotate_left
                        · rintro w' h1_
                          have hg_ := blk_below (unhide G14) h1_
                          have hm_ := blk_below (unhide M14) h1_
                          obtain ⟨k0_, k1_, k2_, k3_⟩ := gc_cells hg_
                          refine exec_ld (x := .tmp 136) ?_ gb 3 ?_ (nc.map (Value.int .u8)) _ k3_ Tryd.underlying30 rfl (unhide SN)
                          all_goals rfl
                        rotate_left
                        · simp only [Act.put, List.setIfInBounds_toArray, List.set_cons_zero, List.set_cons_succ, i64_w, i32_w]
                          rfl
                        refine one_ (i := 10) (N := some 131) #[true, true, true, true, true, true, true, true, true, true, true, true, true, true, true, true, true, false, false, false, false, false] rfl rfl (one_of HT_.out (by kernel_rfl)) (by decide) (fun K hK => ?_)
                        refine goes_ Tryd.func15 (by kernel_rfl) rfl #[.string sec, .string nm, .agg (bys nc)] (by rfl) rfl rfl (by (try simp only [List.map_toArray, List.map_cons, List.map_nil]); first | done | rfl) ?_
                        refine (unhide HA1 _).mono ?_
                        rintro e wx ⟨rfl, hb_⟩
                        refine ⟨_, rfl, ?_⟩
                        have BX := hide hb_
                        clear hb_
                        clear hHeld
                        refine hK.out _ _ (unhide BX) (fun hHeld => ?_)
                        clear hK K
                        refine norm_ (a' := ?_) ?_ ?_
                        rotate_left
                        · show Act.put _ (some 131) _ = _
                          simp only [Act.put, List.setIfInBounds_toArray, List.set_cons_zero, List.set_cons_succ, i64_w, i32_w]
                          rfl
                        refine one_ (i := 17) (N := some 138) #[true, true, true, true, true, true, true, true, true, true, true, true, true, true, true, true, true, true, false, false, false, false] rfl rfl (one_of HT_.out (by kernel_rfl)) (by decide) (fun K hK => ?_)
                        refine goes_ Tryd.func15 (by kernel_rfl) rfl #[.string x, .string nm, .agg (bys nc)] (by rfl) rfl rfl (by (try simp only [List.map_toArray, List.map_cons, List.map_nil]); first | done | rfl) ?_
                        refine (unhide HA2 _).mono ?_
                        rintro e w15 ⟨rfl, hb_⟩
                        refine ⟨_, rfl, ?_⟩
                        have B15 := hide (below_step (unhide BX) hb_)
                        clear hb_
                        clear hHeld
                        refine hK.out _ _ (unhide B15) (fun hHeld => ?_)
                        clear hK K
                        refine norm_ (a' := ?_) ?_ ?_
                        rotate_left
                        · show Act.put _ (some 138) _ = _
                          simp only [Act.put, List.setIfInBounds_toArray, List.set_cons_zero, List.set_cons_succ, i64_w, i32_w]
                          rfl
                        refine pure_ (i := 18) (N := some 139) (v := ?_) (a' := ?_) #[true, true, true, true, true, true, true, true, true, true, true, true, true, true, true, true, true, true, true, false, false, false] rfl rfl (any_of HT_.out (by kernel_rfl)) (fun _ _ _ h => h) (Or.inl ⟨by rfl, ?_⟩) ?_ ?_
                        rotate_left
                        · intro w'
                          refine exec_eq28 (unhide A32) (x := .tmp 131) (y := .tmp 138) ?_ ?_ ?_ _
                          all_goals rfl
                        rotate_left
                        · simp only [Act.put, List.setIfInBounds_toArray, List.set_cons_zero, List.set_cons_succ, i64_w, i32_w]
                          rfl
                        refine pure_ (i := 19) (N := some 140) (v := ?_) (a' := ?_) #[true, true, true, true, true, true, true, true, true, true, true, true, true, true, true, true, true, true, true, true, false, false] rfl rfl (any_of HT_.out (by kernel_rfl)) (fun _ _ _ h => h) (Or.inl ⟨by rfl, ?_⟩) ?_ ?_
                        rotate_left
                        · intro w'
                          go_simp
                          with_reducible rfl
                        rotate_left
                        · simp only [Act.put, List.setIfInBounds_toArray, List.set_cons_zero, List.set_cons_succ, i64_w, i32_w]
                          rfl
                        refine pure_ (i := 20) (N := some 141) (v := ?_) (a' := ?_) #[true, true, true, true, true, true, true, true, true, true, true, true, true, true, true, true, true, true, true, true, true, false] rfl rfl (any_of HT_.out (by kernel_rfl)) (fun _ _ _ h => h) (Or.inl ⟨by rfl, ?_⟩) ?_ ?_
                        rotate_left
                        · intro w'
                          go_simp
                          with_reducible rfl
                        rotate_left
                        · simp only [Act.put, List.setIfInBounds_toArray, List.set_cons_zero, List.set_cons_succ, i64_w, i32_w]
                          rfl
                        refine pure_ (i := 21) (N := some 142) (v := ?_) (a' := ?_) #[true, true, true, true, true, true, true, true, true, true, true, true, true, true, true, true, true, true, true, true, true, true] rfl rfl (any_of HT_.out (by kernel_rfl)) (fun _ _ _ h => h) (Or.inl ⟨by rfl, ?_⟩) ?_ ?_
                        rotate_left
                        · intro w'
                          go_simp
                          with_reducible rfl
                        rotate_left
                        · simp only [Act.put, List.setIfInBounds_toArray, List.set_cons_zero, List.set_cons_succ, i64_w, i32_w]
                          rfl
                        refine done_ (done_of HT_.out (by kernel_rfl)) ?_
                        clear HT_ HW_ hHeld
                        have C15 := hide (below_step (unhide C14) (unhide B15))
                        clear C14 B15
                        go_wp2_with fail
                        go_roundg (gk - 1)
                        case measure => have := unhide HI; have := unhide HLT; omega
                        case rel => exact ⟨j + 1, l, congrArg (Value.int .i64) (by have := unhide HLT; have := unhide HL30; (try unfold wrap64); omega), (by have := unhide HI; have := unhide HLT; show _ = _; omega), (unhide HB).trans ((unhide C15).mono (Nat.le_of_lt (unhide SL).lt)), (unhide SL).below (unhide C15), ((unhide CN).below (unhide C15)).more (Nat.le_succ j), (fun k hk => unhide HK k (by omega)), Nat.le_succ_of_le (unhide HLL)⟩
                      · have hch : chk us u nm nc (answer x nm nc) = 140 := by
                          unfold chk
                          rw [if_neg (by rw [← unhide HSO]; rintro ⟨_, h⟩; exact heq h)]
                        clear heq
                        go_wp2_with fail
                        clear y0 y1 y2 hq
                        replace G12 : Hid (w12.drew.heap[gb]? = some (.cells (gc (nm, u, x, nc)).toArray 74 (0, 0))) := unhide G12
                        replace M12 : Hid (w12.drew.heap[gm]? = some (.cells #[.string nm, .string rt, .bool b, .int .i64 sl, .int .i64 qq, .slice A3 N c3] 65 (0, 0))) := unhide M12
                        replace U12 : Hid (KU.C w12.drew A3 us.length us) := Kd.C_drew (unhide U12)
                        replace B12 : Hid (Below wr.heap.size wr w12.drew) := below_drew (unhide B12)
                        replace HCHK : Hid (∀ (ss : List Int) (W : World), ss = answer x nm nc → KU.C W A3 us.length us → Calls Tryd.prog 14 #[.agg #[.string nm, .string rt, .bool b, .int .i64 sl, .int .i64 qq, .slice A3 N c3], .string u, .agg (bys nc), .agg (bys ss)] W fun e w' => e = .returned (.int .i64 140) ∧ Below W.heap.size W w') := by
                          have h := unhide HCHK
                          rw [hch] at h
                          exact h
                        have SN : Hid ((Tryd.prog.info? 30).map (·.size) = some (nc.map (Value.int .u8)).length) := by show _ = _; rw [List.length_map, unhide HG1]; exact size30
                        clear hch
                        refine start_ (n := 14) (S := fun w' => Below w12.drew.heap.size w12.drew w') (ds := []) #[false, false, false, false, false, false, false, false, false, false, false, false, false, false] (by kernel_rfl) rfl rfl (Below.refl _ _) (fun hHeld => ?_)
                        refine with_tabW tabT4_21 bitsT4_21 (fun HT_ HW_ => ?_)
                        refine take_ (i := 0) (N := some 106) (v := ?_) (a' := ?_) #[true, false, false, false, false, false, false, false, false, false, false, false, false, false] rfl rfl (take_ofW HT_.out HW_.out (by kernel_rfl)) (fun _ _ _ h => h) (Or.inl ⟨by rfl, ?_⟩) hHeld ?_ ?_
                        rotate_left
                        · rintro w' h1_
                          have hg_ := blk_below (unhide G12) h1_
                          have hm_ := blk_below (unhide M12) h1_
                          obtain ⟨k0_, k1_, k2_, k3_⟩ := gc_cells hg_
                          refine exec_ld (x := .tmp 13) ?_ gm 0 ?_ [.string nm, .string rt, .bool b, .int .i64 sl, .int .i64 qq, .slice A3 N c3] _ (range_of (L := [.string nm, .string rt, .bool b, .int .i64 sl, .int .i64 qq, .slice A3 N c3]) hm_ 0 (fun j v h => by rw [Nat.zero_add]; exact h)) Tryd.underlying65 rfl size65
                          all_goals rfl
                        rotate_left
                        · simp only [Act.put, List.setIfInBounds_toArray, List.set_cons_zero, List.set_cons_succ, i64_w, i32_w]
                          rfl
                        refine pure_ (i := 1) (N := some 107) (v := ?_) (a' := ?_) #[true, true, false, false, false, false, false, false, false, false, false, false, false, false] rfl rfl (any_of HT_.out (by kernel_rfl)) (fun _ _ _ h => h) (Or.inl ⟨by rfl, ?_⟩) ?_ ?_
                        rotate_left
                        · intro w'
                          go_simp
                          with_reducible rfl
                        rotate_left
                        · simp only [Act.put, List.setIfInBounds_toArray, List.set_cons_zero, List.set_cons_succ, i64_w, i32_w]
                          rfl
                        refine take_ (i := 2) (N := some 108) (v := ?_) (a' := ?_) #[true, true, true, false, false, false, false, false, false, false, false, false, false, false] rfl rfl (take_ofW HT_.out HW_.out (by kernel_rfl)) (fun _ _ _ h => h) (Or.inl ⟨by rfl, ?_⟩) hHeld ?_ ?_
                        rotate_left
                        · rintro w' h1_
                          have hg_ := blk_below (unhide G12) h1_
                          have hm_ := blk_below (unhide M12) h1_
                          obtain ⟨k0_, k1_, k2_, k3_⟩ := gc_cells hg_
                          clear k3_ hg_ hm_ h1_
                          go_simp
                          with_reducible rfl
                        rotate_left
                        · simp only [Act.put, List.setIfInBounds_toArray, List.set_cons_zero, List.set_cons_succ, i64_w, i32_w]
                          rfl
                        refine pure_ (i := 3) (N := some 109) (v := ?_) (a' := ?_) #[true, true, true, true, false, false, false, false, false, false, false, false, false, false] rfl rfl (any_of HT_.out (by kernel_rfl)) (fun _ _ _ h => h) (Or.inl ⟨by rfl, ?_⟩) ?_ ?_
                        rotate_left
                        · intro w'
                          go_simp
                          with_reducible rfl
                        rotate_left
                        · simp only [Act.put, List.setIfInBounds_toArray, List.set_cons_zero, List.set_cons_succ, i64_w, i32_w]
                          rfl
                        refine take_ (i := 4) (N := some 110) (v := ?_) (a' := ?_) #[true, true, true, true, true, false, false, false, false, false, false, false, false, false] rfl rfl (take_ofW HT_.out HW_.out (by kernel_rfl)) (fun _ _ _ h => h) (Or.inl ⟨by rfl, ?_⟩) hHeld ?_ ?_
                        rotate_left
                        · rintro w' h1_
                          have hg_ := blk_below (unhide G12) h1_
                          have hm_ := blk_below (unhide M12) h1_
                          obtain ⟨k0_, k1_, k2_, k3_⟩ := gc_cells hg_
                          refine exec_ld (x := .tmp 109) ?_ gb 3 ?_ (nc.map (Value.int .u8)) _ k3_ Tryd.underlying30 rfl (unhide SN)
                          all_goals rfl
                        rotate_left
                        · simp only [Act.put, List.setIfInBounds_toArray, List.set_cons_zero, List.set_cons_succ, i64_w, i32_w]
                          rfl
                        refine pure_ (i := 5) (N := some 111) (v := ?_) (a' := ?_) #[true, true, true, true, true, true, false, false, false, false, false, false, false, false] rfl rfl (any_of HT_.out (by kernel_rfl)) (fun _ _ _ h => h) (Or.inl ⟨by rfl, ?_⟩) ?_ ?_
                        rotate_left
                        · intro w'
                          go_simp
                          with_reducible rfl
                        rotate_left
                        · simp only [Act.put, List.setIfInBounds_toArray, List.set_cons_zero, List.set_cons_succ, i64_w, i32_w]
                          rfl
                        refine take_ (i := 6) (N := some 112) (v := ?_) (a' := ?_) #[true, true, true, true, true, true, true, false, false, false, false, false, false, false] rfl rfl (take_ofW HT_.out HW_.out (by kernel_rfl)) (fun _ _ _ h => h) (Or.inl ⟨by rfl, ?_⟩) hHeld ?_ ?_
                        rotate_left
                        · rintro w' h1_
                          have hg_ := blk_below (unhide G12) h1_
                          have hm_ := blk_below (unhide M12) h1_
                          obtain ⟨k0_, k1_, k2_, k3_⟩ := gc_cells hg_
                          clear k3_ hg_ hm_ h1_
                          go_simp
                          with_reducible rfl
                        rotate_left
                        · simp only [Act.put, List.setIfInBounds_toArray, List.set_cons_zero, List.set_cons_succ, i64_w, i32_w]
                          rfl
                        refine pure_ (i := 7) (N := some 113) (v := ?_) (a' := ?_) #[true, true, true, true, true, true, true, true, false, false, false, false, false, false] rfl rfl (any_of HT_.out (by kernel_rfl)) (fun _ _ _ h => h) (Or.inl ⟨by rfl, ?_⟩) ?_ ?_
                        rotate_left
                        · intro w'
                          go_simp
                          with_reducible rfl
                        rotate_left
                        · simp only [Act.put, List.setIfInBounds_toArray, List.set_cons_zero, List.set_cons_succ, i64_w, i32_w]
                          rfl
                        refine take_ (i := 8) (N := some 114) (v := ?_) (a' := ?_) #[true, true, true, true, true, true, true, true, true, false, false, false, false, false] rfl rfl (take_ofW HT_.out HW_.out (by kernel_rfl)) (fun _ _ _ h => h) (Or.inl ⟨by rfl, ?_⟩) hHeld ?_ ?_
                        rotate_left
                        · rintro w' h1_
                          have hg_ := blk_below (unhide G12) h1_
                          have hm_ := blk_below (unhide M12) h1_
                          obtain ⟨k0_, k1_, k2_, k3_⟩ := gc_cells hg_
                          clear k3_ hg_ hm_ h1_
                          go_simp
                          with_reducible rfl
                        rotate_left
                        · simp only [Act.put, List.setIfInBounds_toArray, List.set_cons_zero, List.set_cons_succ, i64_w, i32_w]
                          rfl
                        refine pure_ (i := 9) (N := some 115) (v := ?_) (a' := ?_) #[true, true, true, true, true, true, true, true, true, true, false, false, false, false] rfl rfl (any_of HT_.out (by kernel_rfl)) (fun _ _ _ h => h) (Or.inl ⟨by rfl, ?_⟩) ?_ ?_
                        rotate_left
                        · intro w'
                          go_simp
                          with_reducible rfl
                        rotate_left
                        · simp only [Act.put, List.setIfInBounds_toArray, List.set_cons_zero, List.set_cons_succ, i64_w, i32_w]
                          rfl
                        refine take_ (i := 10) (N := some 116) (v := ?_) (a' := ?_) #[true, true, true, true, true, true, true, true, true, true, true, false, false, false] rfl rfl (take_ofW HT_.out HW_.out (by kernel_rfl)) (fun _ _ _ h => h) (Or.inl ⟨by rfl, ?_⟩) hHeld ?_ ?_
                        rotate_left
                        · rintro w' h1_
                          have hg_ := blk_below (unhide G12) h1_
                          have hm_ := blk_below (unhide M12) h1_
                          obtain ⟨k0_, k1_, k2_, k3_⟩ := gc_cells hg_
                          refine exec_ld (x := .tmp 115) ?_ gb 3 ?_ (nc.map (Value.int .u8)) _ k3_ Tryd.underlying30 rfl (unhide SN)
                          all_goals rfl
                        rotate_left
                        · simp only [Act.put, List.setIfInBounds_toArray, List.set_cons_zero, List.set_cons_succ, i64_w, i32_w]
                          rfl
                        refine one_ (i := 11) (N := some 117) #[true, true, true, true, true, true, true, true, true, true, true, true, false, false] rfl rfl (one_of HT_.out (by kernel_rfl)) (by decide) (fun K hK => ?_)
                        refine goes_ Tryd.func15 (by kernel_rfl) rfl #[.string x, .string nm, .agg (bys nc)] (by rfl) rfl rfl (by (try simp only [List.map_toArray, List.map_cons, List.map_nil]); first | done | rfl) ?_
                        refine (unhide HANS _).mono ?_
                        rintro e w13 ⟨rfl, hb13⟩
                        refine ⟨_, rfl, ?_⟩
                        obtain ⟨s9, hs9⟩ : ∃ z, z = answer x nm nc := ⟨_, rfl⟩
                        rw [← hs9]
                        have HS9 := hide hs9
                        have B13 := hide hb13
                        clear hs9 hb13
                        clear hHeld
                        refine hK.out _ _ (unhide B13) (fun hHeld => ?_)
                        clear hK K
                        refine norm_ (a' := ?_) ?_ ?_
                        rotate_left
                        · show Act.put _ (some 117) _ = _
                          simp only [Act.put, List.setIfInBounds_toArray, List.set_cons_zero, List.set_cons_succ, i64_w, i32_w]
                          rfl
                        refine one_ (i := 12) (N := some 118) #[true, true, true, true, true, true, true, true, true, true, true, true, true, false] rfl rfl (one_of HT_.out (by kernel_rfl)) (by decide) (fun K hK => ?_)
                        refine goes_ Tryd.func14 (by kernel_rfl) rfl #[.agg #[.string nm, .string rt, .bool b, .int .i64 sl, .int .i64 qq, .slice A3 N c3], .string u, .agg (bys nc), .agg (bys s9)] (by rfl) rfl rfl (by (try simp only [List.map_toArray, List.map_cons, List.map_nil]); first | done | rfl) ?_
                        refine (unhide HCHK s9 _ (unhide HS9) (Kd.C_below (unhide U12) (unhide B13))).mono ?_
                        rintro e w14 ⟨rfl, hb14⟩
                        refine ⟨_, rfl, ?_⟩
                        have B14 := hide (below_step (unhide B13) hb14)
                        clear hb14
                        clear hHeld
                        refine hK.out _ _ (unhide B14) (fun hHeld => ?_)
                        clear hK K
                        refine norm_ (a' := ?_) ?_ ?_
                        rotate_left
                        · show Act.put _ (some 118) _ = _
                          simp only [Act.put, List.setIfInBounds_toArray, List.set_cons_zero, List.set_cons_succ, i64_w, i32_w]
                          rfl
                        refine pure_ (i := 13) (N := some 18) (v := ?_) (a' := ?_) #[true, true, true, true, true, true, true, true, true, true, true, true, true, true] rfl rfl (any_of HT_.out (by kernel_rfl)) (fun _ _ _ h => h) (Or.inl ⟨by rfl, ?_⟩) ?_ ?_
                        rotate_left
                        · intro w'
                          go_simp
                          with_reducible rfl
                        rotate_left
                        · simp only [Act.put, List.setIfInBounds_toArray, List.set_cons_zero, List.set_cons_succ, i64_w, i32_w]
                          rfl
                        refine done_ (done_of HT_.out (by kernel_rfl)) ?_
                        clear HT_ HW_ hHeld
                        have C14 := hide (below_step (unhide B12) (unhide B14))
                        have G14 := hide (blk_below (unhide G12) (unhide B14))
                        have M14 := hide (blk_below (unhide M12) (unhide B14))
                        clear G12 M12 U12 B12 B13 B14 SN HCHK
                        go_wp2_with fail
                        refine start_ (n := 22) (S := fun _ => True) (ds := []) #[false, false, false, false, false, false, false, false, false, false, false, false, false, false, false, false, false, false, false, false, false, false] (by kernel_rfl) rfl rfl trivial (fun hHeld => ?_)
                        refine with_tabW tabT4_23 bitsT4_23 (fun HT_ HW_ => ?_)
                        refine pure_ (i := 0) (N := some 121) (v := ?_) (a' := ?_) #[true, false, false, false, false, false, false, false, false, false, false, false, false, false, false, false, false, false, false, false, false, false] rfl rfl (any_of HT_.out (by kernel_rfl)) (fun _ _ _ h => h) (Or.inl ⟨by rfl, ?_⟩) ?_ ?_
                        rotate_left
                        · intro w'
                          go_simp
                          with_reducible rfl
                        rotate_left
                        · simp only [Act.put, List.setIfInBounds_toArray, List.set_cons_zero, List.set_cons_succ, i64_w, i32_w]
                          rfl
                        refine pure_ (i := 1) (N := some 122) (v := ?_) (a' := ?_) #[true, true, false, false, false, false, false, false, false, false, false, false, false, false, false, false, false, false, false, false, false, false] rfl rfl (any_of HT_.out (by kernel_rfl)) (fun _ _ _ h => h) (Or.inl ⟨by rfl, ?_⟩) ?_ ?_
                        rotate_left
                        · intro w'
                          go_simp
                          with_reducible rfl
                        rotate_left
                        · simp only [Act.put, List.setIfInBounds_toArray, List.set_cons_zero, List.set_cons_succ, i64_w, i32_w]
                          rfl
                        refine pure_ (i := 2) (N := some 123) (v := ?_) (a' := ?_) #[true, true, true, false, false, false, false, false, false, false, false, false, false, false, false, false, false, false, false, false, false, false] rfl rfl (any_of HT_.out (by kernel_rfl)) (fun _ _ _ h => h) (Or.inl ⟨by rfl, ?_⟩) ?_ ?_
                        rotate_left
                        · intro w'
                          go_simp
                          with_reducible rfl
                        rotate_left
                        · simp only [Act.put, List.setIfInBounds_toArray, List.set_cons_zero, List.set_cons_succ, i64_w, i32_w]
                          rfl
                        refine pure_ (i := 3) (N := some 124) (v := undef) (a' := ?_) #[true, true, true, true, false, false, false, false, false, false, false, false, false, false, false, false, false, false, false, false, false, false] rfl rfl (any_of HT_.out (by kernel_rfl)) (fun _ _ _ h => h) (Or.inr ⟨by rfl, rfl⟩) ?_ ?_
                        rotate_left
                        · simp only [Act.put, List.setIfInBounds_toArray, List.set_cons_zero, List.set_cons_succ, i64_w, i32_w]
                          rfl
                        refine pure_ (i := 4) (N := some 125) (v := undef) (a' := ?_) #[true, true, true, true, true, false, false, false, false, false, false, false, false, false, false, false, false, false, false, false, false, false] rfl rfl (any_of HT_.out (by kernel_rfl)) (fun _ _ _ h => h) (Or.inr ⟨by rfl, rfl⟩) ?_ ?_
                        rotate_left
                        · simp only [Act.put, List.setIfInBounds_toArray, List.set_cons_zero, List.set_cons_succ, i64_w, i32_w]
                          rfl
                        refine pure_ (i := 5) (N := some 126) (v := undef) (a' := ?_) #[true, true, true, true, true, true, false, false, false, false, false, false, false, false, false, false, false, false, false, false, false, false] rfl rfl (any_of HT_.out (by kernel_rfl)) (fun _ _ _ h => h) (Or.inr ⟨by rfl, rfl⟩) ?_ ?_
                        rotate_left
                        · simp only [Act.put, List.setIfInBounds_toArray, List.set_cons_zero, List.set_cons_succ, i64_w, i32_w]
                          rfl
                        refine pure_ (i := 6) (N := some 127) (v := undef) (a' := ?_) #[true, true, true, true, true, true, true, false, false, false, false, false, false, false, false, false, false, false, false, false, false, false] rfl rfl (any_of HT_.out (by kernel_rfl)) (fun _ _ _ h => h) (Or.inr ⟨by rfl, rfl⟩) ?_ ?_
                        rotate_left
                        · simp only [Act.put, List.setIfInBounds_toArray, List.set_cons_zero, List.set_cons_succ, i64_w, i32_w]
                          rfl
                        refine pure_ (i := 7) (N := some 128) (v := undef) (a' := ?_) #[true, true, true, true, true, true, true, true, false, false, false, false, false, false, false, false, false, false, false, false, false, false] rfl rfl (any_of HT_.out (by kernel_rfl)) (fun _ _ _ h => h) (Or.inr ⟨by rfl, rfl⟩) ?_ ?_
                        rotate_left
                        · simp only [Act.put, List.setIfInBounds_toArray, List.set_cons_zero, List.set_cons_succ, i64_w, i32_w]
                          rfl
                        refine pure_ (i := 8) (N := some 129) (v := undef) (a' := ?_) #[true, true, true, true, true, true, true, true, true, false, false, false, false, false, false, false, false, false, false, false, false, false] rfl rfl (any_of HT_.out (by kernel_rfl)) (fun _ _ _ h => h) (Or.inr ⟨by rfl, rfl⟩) ?_ ?_
                        rotate_left
                        · simp only [Act.put, List.setIfInBounds_toArray, List.set_cons_zero, List.set_cons_succ, i64_w, i32_w]
                          rfl
                        refine pure_ (i := 9) (N := some 130) (v := undef) (a' := ?_) #[true, true, true, true, true, true, true, true, true, true, false, false, false, false, false, false, false, false, false, false, false, false] rfl rfl (any_of HT_.out (by kernel_rfl)) (fun _ _ _ h => h) (Or.inr ⟨by rfl, rfl⟩) ?_ ?_
                        rotate_left
                        · simp only [Act.put, List.setIfInBounds_toArray, List.set_cons_zero, List.set_cons_succ, i64_w, i32_w]
                          rfl
                        refine pure_ (i := 10) (N := some 131) (v := undef) (a' := ?_) #[true, true, true, true, true, true, true, true, true, true, true, false, false, false, false, false, false, false, false, false, false, false] rfl rfl (any_of HT_.out (by kernel_rfl)) (fun _ _ _ h => h) (Or.inr ⟨by rfl, rfl⟩) ?_ ?_
                        rotate_left
                        · simp only [Act.put, List.setIfInBounds_toArray, List.set_cons_zero, List.set_cons_succ, i64_w, i32_w]
                          rfl
                        refine pure_ (i := 11) (N := some 132) (v := undef) (a' := ?_) #[true, true, true, true, true, true, true, true, true, true, true, true, false, false, false, false, false, false, false, false, false, false] rfl rfl (any_of HT_.out (by kernel_rfl)) (fun _ _ _ h => h) (Or.inr ⟨by rfl, rfl⟩) ?_ ?_
                        rotate_left
                        · simp only [Act.put, List.setIfInBounds_toArray, List.set_cons_zero, List.set_cons_succ, i64_w, i32_w]
                          rfl
                        refine pure_ (i := 12) (N := some 133) (v := undef) (a' := ?_) #[true, true, true, true, true, true, true, true, true, true, true, true, true, false, false, false, false, false, false, false, false, false] rfl rfl (any_of HT_.out (by kernel_rfl)) (fun _ _ _ h => h) (Or.inr ⟨by rfl, rfl⟩) ?_ ?_
                        rotate_left
                        · simp only [Act.put, List.setIfInBounds_toArray, List.set_cons_zero, List.set_cons_succ, i64_w, i32_w]
                          rfl
                        refine pure_ (i := 13) (N := some 134) (v := undef) (a' := ?_) #[true, true, true, true, true, true, true, true, true, true, true, true, true, true, false, false, false, false, false, false, false, false] rfl rfl (any_of HT_.out (by kernel_rfl)) (fun _ _ _ h => h) (Or.inr ⟨by rfl, rfl⟩) ?_ ?_
                        rotate_left
                        · simp only [Act.put, List.setIfInBounds_toArray, List.set_cons_zero, List.set_cons_succ, i64_w, i32_w]
                          rfl
                        refine pure_ (i := 14) (N := some 135) (v := undef) (a' := ?_) #[true, true, true, true, true, true, true, true, true, true, true, true, true, true, true, false, false, false, false, false, false, false] rfl rfl (any_of HT_.out (by kernel_rfl)) (fun _ _ _ h => h) (Or.inr ⟨by rfl, rfl⟩) ?_ ?_
                        rotate_left
                        · simp only [Act.put, List.setIfInBounds_toArray, List.set_cons_zero, List.set_cons_succ, i64_w, i32_w]
                          rfl
                        refine pure_ (i := 15) (N := some 136) (v := undef) (a' := ?_) #[true, true, true, true, true, true, true, true, true, true, true, true, true, true, true, true, false, false, false, false, false, false] rfl rfl (any_of HT_.out (by kernel_rfl)) (fun _ _ _ h => h) (Or.inr ⟨by rfl, rfl⟩) ?_ ?_
                        rotate_left
                        · simp only [Act.put, List.setIfInBounds_toArray, List.set_cons_zero, List.set_cons_succ, i64_w, i32_w]
                          rfl
                        refine pure_ (i := 16) (N := some 137) (v := undef) (a' := ?_) #[true, true, true, true, true, true, true, true, true, true, true, true, true, true, true, true, true, false, false, false, false, false] rfl rfl (any_of HT_.out (by kernel_rfl)) (fun _ _ _ h => h) (Or.inr ⟨by rfl, rfl⟩) ?_ ?_
                        rotate_left
                        · simp only [Act.put, List.setIfInBounds_toArray, List.set_cons_zero, List.set_cons_succ, i64_w, i32_w]
                          rfl
                        refine pure_ (i := 17) (N := some 138) (v := undef) (a' := ?_) #[true, true, true, true, true, true, true, true, true, true, true, true, true, true, true, true, true, true, false, false, false, false] rfl rfl (any_of HT_.out (by kernel_rfl)) (fun _ _ _ h => h) (Or.inr ⟨by rfl, rfl⟩) ?_ ?_
                        rotate_left
                        · simp only [Act.put, List.setIfInBounds_toArray, List.set_cons_zero, List.set_cons_succ, i64_w, i32_w]
                          rfl
                        refine pure_ (i := 18) (N := some 139) (v := undef) (a' := ?_) #[true, true, true, true, true, true, true, true, true, true, true, true, true, true, true, true, true, true, true, false, false, false] rfl rfl (any_of HT_.out (by kernel_rfl)) (fun _ _ _ h => h) (Or.inr ⟨by rfl, rfl⟩) ?_ ?_
                        rotate_left
                        · simp only [Act.put, List.setIfInBounds_toArray, List.set_cons_zero, List.set_cons_succ, i64_w, i32_w]
                          rfl
                        refine pure_ (i := 19) (N := some 140) (v := undef) (a' := ?_) #[true, true, true, true, true, true, true, true, true, true, true, true, true, true, true, true, true, true, true, true, false, false] rfl rfl (any_of HT_.out (by kernel_rfl)) (fun _ _ _ h => h) (Or.inr ⟨by rfl, rfl⟩) ?_ ?_
                        rotate_left
                        · simp only [Act.put, List.setIfInBounds_toArray, List.set_cons_zero, List.set_cons_succ, i64_w, i32_w]
                          rfl
                        refine pure_ (i := 20) (N := some 141) (v := undef) (a' := ?_) #[true, true, true, true, true, true, true, true, true, true, true, true, true, true, true, true, true, true, true, true, true, false] rfl rfl (any_of HT_.out (by kernel_rfl)) (fun _ _ _ h => h) (Or.inr ⟨by rfl, rfl⟩) ?_ ?_
                        rotate_left
                        · simp only [Act.put, List.setIfInBounds_toArray, List.set_cons_zero, List.set_cons_succ, i64_w, i32_w]
                          rfl
                        refine pure_ (i := 21) (N := some 142) (v := ?_) (a' := ?_) #[true, true, true, true, true, true, true, true, true, true, true, true, true, true, true, true, true, true, true, true, true, true] rfl rfl (any_of HT_.out (by kernel_rfl)) (fun _ _ _ h => h) (Or.inl ⟨by rfl, ?_⟩) ?_ ?_
                        rotate_left
                        · intro w'
                          go_simp
                          with_reducible rfl
                        rotate_left
                        · simp only [Act.put, List.setIfInBounds_toArray, List.set_cons_zero, List.set_cons_succ, i64_w, i32_w]
                          rfl
                        refine done_ (done_of HT_.out (by kernel_rfl)) ?_
                        clear HT_ HW_ hHeld
                        replace C14 : Hid (Below wr.heap.size wr w14.drew) := below_drew (unhide C14)
                        go_wp2_with fail
                        go_roundg (gk - 1)
                        case measure => have := unhide HI; have := unhide HLT; omega
                        case rel => exact ⟨j + 1, l, congrArg (Value.int .i64) (by have := unhide HLT; have := unhide HL30; (try unfold wrap64); omega), (by have := unhide HI; have := unhide HLT; show _ = _; omega), (unhide HB).trans ((unhide C14).mono (Nat.le_of_lt (unhide SL).lt)), (unhide SL).below (unhide C14), ((unhide CN).below (unhide C14)).more (Nat.le_succ j), (fun k hk => unhide HK k (by omega)), Nat.le_succ_of_le (unhide HLL)⟩
          · have d1 : ¬ (j : Int) < (L : Int) := by omega
            obtain ⟨D, hown, hD⟩ := unhide CN
            have HD := hide hD
            have HWS : Hid (w7.heap.size ≤ wr.heap.size) := by show _ ≤ _; rw [← unhide SM]; exact Nat.le_of_lt (unhide SL).lt
            have HBW : Hid (Below w.heap.size w wr) := (unhide HB9).trans ((unhide HB).mono (by rw [unhide SM]; exact (unhide HB9).size))
            have HJ : Hid (j ≤ 30) := by show _ ≤ _; have := unhide HI; have := unhide HL30; omega
            clear hD hlt
            go_wp2_with (first
              | (at_range; refine wpList_range_own _ rfl _ 72 rfl 9 3 law9 Tryd.underlying72 _ mb j _ rfl hown ?_; intro wz hrg0 hg0 hs0)
              | go_in)
            try go_frame
            have HR0 := hide hrg0
            have S0 : Hid (Slots wz sg sm l) := (unhide SL).keep (hg0.block sg (unhide SL).cell.2.2 (by simp)) (hg0.block sm (unhide SL).lt (by simp))
            have BZ : Hid (Below w.heap.size w wz) := (unhide HBW).grown hg0 (unhide HBW).size (fun k hk => by cases hk)
            obtain ⟨r, hr⟩ : ∃ z, z = wr.heap.size := ⟨_, rfl⟩
            have RS : Hid (sg < r ∧ sm < r ∧ mb < r ∧ w.heap.size ≤ r) := by refine ⟨?_, ?_, ?_, ?_⟩ <;> rw [hr]; exact (unhide SL).cell.2.2; exact (unhide SL).lt; exact (unhide CN).lt; exact (unhide HBW).size
            rw [← hr] at HR0 ⊢
            clear hown hrg0 hg0 hs0 SL CN HK HB HBW HWS HI hr
            go_loopw [20] (fun v20 wr => ∃ (left : Lit → Bool) (cnt : Nat), Hid (wr.ranges Tryd.prog 9 (plainElem Tryd.prog 3) mb r j D left cnt) ∧ Hid (Slots wr sg sm l) ∧ Hid (Below w.heap.size w wr)) (fun _ wr => wr.rangeLeft mb r)
            case atStart => exact ⟨_, _, HR0, S0, BZ⟩
            case round =>
              obtain ⟨left, cnt, HRG, SL, HBW⟩ := hrel
              clear HR0 S0 BZ
              have hrg := unhide HRG
              go_wp2_with (first
                | (at_next; refine next_si _ rfl _ rfl mb r j D left cnt rfl hrg ?_ ?_)
                | go_in)
              · clear hrg
                go_wp2_with fail
                go_ret
                exact ⟨rfl, unhide HBW⟩
              · intro x c w1 cnt1 hat hrg1 hlt hg1 hen
                obtain ⟨cn, hcn⟩ : ∃ z, z = cnt_ l x := ⟨_, rfl⟩
                have hcc : c = (cn : Int) := by
                  have h1 := hat (.lit (.int .i64 0))
                  rw [unhide HD x] at h1
                  have h2 : (cnt_ l x : Int) = c := by simpa using h1
                  rw [hcn]
                  exact h2.symm
                subst hcc
                have S1 := (unhide SL).keep (hg1.block sg (unhide SL).cell.2.2 (fun e => by have := Option.some.inj e; have := unhide RS; omega)) (hg1.block sm (unhide SL).lt (fun e => by have := Option.some.inj e; have := unhide RS; omega))
                have hcount := count_ok sg sm l x w1 S1 (by have := unhide HLL; have := unhide HJ; omega)
                rw [← hcn] at hcount
                have HR1 := hide hrg1
                have HLT1 := hide hlt
                have B1 : Hid (Below w.heap.size w w1) := (unhide HBW).grown hg1 (unhide HBW).size (fun k hk => by have := Option.some.inj hk; have := unhide RS; omega)
                have HS1 := hide S1
                clear hat hrg1 hlt hg1 S1 hrg hcn
                go_wp2_with fail
                refine hcount.mono ?_
                rintro e w2 ⟨rfl, hb⟩
                have HR2 := hide ((unhide HR1).kept (w' := w2) (row := none) ⟨hb.os, hb.tape, hb.output, hb.size, fun i hi _ => hb.block i hi⟩ (by simp) (by simp))
                have HS2 := hide ((unhide HS1).below hb)
                have B2 := hide (below_step (unhide B1) hb)
                clear hcount hb HR1 HS1 B1 hen
                go_wp2_with fail
                go_roundw
                case rel => exact ⟨_, cnt1, HR2, HS2, B2⟩
                case measure => rw [(unhide HR2).left_eq, (unhide HRG).left_eq]; exact unhide HLT1
      · obtain rfl : n2 = 0 := hz (by simp)
        clear hparse hz hC hn hnc h8 hgood
        go_wp2_with fail
        go_ret
        exact ⟨rfl, (unhide HB8).setCell (unhide Q1) _⟩
end Go.Proofs.YtgoephcembgmcaaDoor.Cf
