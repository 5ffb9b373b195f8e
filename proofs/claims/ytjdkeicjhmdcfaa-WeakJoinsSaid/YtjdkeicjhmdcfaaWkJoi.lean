import Derived.Test.YtjdkeicjhmdcfaaWk4
set_option linter.unusedSimpArgs false
set_option linter.unusedVariables false
namespace Go.Proofs.Ytjdkeicjhmdcfaa.WkJoi
open Go.RowKit Go.Proofs.YtjdkeicjhmdcfaaW.PrintWords Go.Proofs.YtjdkeicjhmdcfaaW.PrintLast Go.Proofs.YtjdkeicjhmdcfaaW.PrintMore Go.Proofs.Ytjdkeicjhmdcfaa.WkM Go.Proofs.Ytjdkeicjhmdcfaa.Wk
attribute [local go_sem] max2_int min2_int max_two min_two

def T10_3 : Bool × List (List Nat × List Nat) := (true, [([], []), ([], []), ([1], [1]), ([2], [2]), ([0, 3], [0, 3]), ([], []), ([], []), ([6], [6]), ([7], [7]), ([5, 8], [5, 8]), ([4, 0, 1, 2, 3, 4], [0, 1, 4]), ([9, 10, 0, 1, 2, 3, 4, 5, 6, 7, 8, 9, 10], [5, 6, 9])])
def BT10_3 : List Nat := [0, 0, 2, 6, 15, 0, 0, 64, 192, 480, 31, 2047]
theorem tabT10_3 : rtab .any (opsOf Try.f10 3) = T10_3 := by kernel_rfl
theorem bitsT10_3 : waitsOk T10_3.2 BT10_3 = true := by kernel_rfl
def T10_6 : Bool × List (List Nat × List Nat) := (true, [([], []), ([0], [0]), ([], []), ([2, 1], [2]), ([1, 3], [1, 3]), ([4], [4]), ([5, 3, 0, 1, 2, 3, 4, 5], [5])])
def BT10_6 : List Nat := [0, 1, 0, 7, 15, 31, 63]
theorem tabT10_6 : rtab .any (opsOf Try.f10 6) = T10_6 := by kernel_rfl
theorem bitsT10_6 : waitsOk T10_6.2 BT10_6 = true := by kernel_rfl
def T10_7 : Bool × List (List Nat × List Nat) := (true, [([], []), ([0], [0]), ([1], [1]), ([], []), ([3, 1], [3]), ([4], [4]), ([2, 5], [2, 5]), ([], []), ([7, 4], [7]), ([8], [8]), ([], []), ([10], [10]), ([11], [11]), ([9, 12], [9, 12]), ([6, 13], [6, 13]), ([14], [14]), ([15, 8, 0, 1, 2, 3, 4, 5, 6, 7, 8, 9, 10, 11, 12, 13, 14, 15], [15])])
def BT10_7 : List Nat := [0, 1, 3, 0, 11, 27, 63, 0, 155, 411, 0, 1024, 3072, 8091, 16383, 32767, 65535]
theorem tabT10_7 : rtab .any (opsOf Try.f10 7) = T10_7 := by kernel_rfl
theorem bitsT10_7 : waitsOk T10_7.2 BT10_7 = true := by kernel_rfl

theorem joins_eq (a b : List Int) (hnb : b.length ≤ 500) :
    ((B a % 65536 + B b % 65536) + (A a % 65536) * (b.length : Int)) % 65536 * 65536 + (A a + A b) % 65536 = val (a ++ b) := by
  have ev : val (a ++ b) = ((B a + (b.length : Int) * A a + B b) % 65536) * 65536 + (A a + A b) % 65536 := by
    unfold val
    rw [A_append, B_append]
  rw [ev]
  have hmm : (A a % 65536 * (b.length : Int)) % 65536 = ((b.length : Int) * A a) % 65536 := by
    rw [Int.mul_comm (b.length : Int), Int.mul_emod, Int.emod_emod, ← Int.mul_emod]
  generalize A a % 65536 * (b.length : Int) = t at *
  generalize (b.length : Int) * A a = u at *
  omega

set_option maxHeartbeats 4000000 in
theorem law_any (A0 : Option Addr) (c0 : Nat) (l0 : List Int) (A1 : Option Addr) (c1 : Nat) (l1 : List Int) (w : World) (hr0 : Kd.C (Kd.int .u8) w A0 l0.length l0) (hc0 : l0.length ≤ c0) (hl0 : Bytes l0)
    (hr1 : Kd.C (Kd.int .u8) w A1 l1.length l1) (hc1 : l1.length ≤ c1) (hl1 : Bytes l1) :
    Calls Try.prog 10 #[.slice A0 l0.length c0, .slice A1 l1.length c1] w fun e w' => e = .returned (.bool true) ∧ Below w.heap.size w w' := by
  have hu53 := Try.underlying53
  obtain ⟨m, hm, hm1, hm2⟩ := min_as 500 (by omega) l0.length
  obtain ⟨hcut, hra, hca⟩ := take_any A0 c0 l0 m hc0 hm1
  replace hra := hra w hr0
  have hla := hl0.take m
  have hna : (l0.take m).length ≤ 500 := by simp; omega
  generalize l0.take m = a at hcut hra hca hla hna
  obtain ⟨n, hn, hn1, hn2⟩ := min_as 500 (by omega) l1.length
  obtain ⟨hcut', hrb, hcb⟩ := take_any A1 c1 l1 n hc1 hn1
  replace hrb := hrb w hr1
  have hlb := hl1.take n
  have hnb : (l1.take n).length ≤ 500 := by simp; omega
  generalize l1.take n = b at hcut' hrb hcb hlb hnb
  have HRA := hide hra
  have HLA := hide hla
  have HRB := hide hrb
  have HLB := hide hlb
  have q1 : a.length ≤ 100000 := by omega
  have q2 : b.length ≤ 100000 := by omega
  have q3 : ([] ++ a ++ b).length ≤ 100000 := by simp; omega
  have q4 := (Sm.val a)
  have q5 : (([] : List Int).length + a.length) * 1 ≤ 140737488355328 := by simp; omega
  have q6 : (([] ++ a).length + b.length) * 1 ≤ 140737488355328 := by simp; omega
  have q7 : Bytes ([] ++ a ++ b) := by simpa using hla.append hlb
  have Q7 := hide q7
  have hgoal := joins_eq a b hnb
  have HG := hide hgoal
  clear hgoal q7 hra hla hrb hlb hr0 hl0 hr1 hl1
  go_enter Try.func10, Try.ntmps10
  go_wp2_with fail
  refine (rolls_any _).mono ?_
  rintro e w1 ⟨rfl, hb⟩
  have NB0 := hide (below_drew1 hb)
  clear hb
  go_wp2
  refine start_ (n := 12) (S := fun w' => True) (ds := []) #[false, false, false, false, false, false, false, false, false, false, false, false] (by kernel_rfl) rfl rfl trivial (fun hHeld => ?_)
  refine with_tabW tabT10_3 bitsT10_3 (fun HT_ HW_ => ?_)
  refine pure_ (i := 0) (N := some 12) (v := ?_) (a' := ?_) #[true, false, false, false, false, false, false, false, false, false, false, false] rfl rfl (any_of HT_.out (by kernel_rfl)) (fun _ _ _ h => h) (Or.inl ⟨by rfl, ?_⟩) ?_ ?_
  rotate_left
  · intro w'
    go_simp
    with_reducible rfl
  rotate_left
  · simp only [Act.put, List.setIfInBounds_toArray, List.set_cons_zero, List.set_cons_succ, i64_w, i32_w]
    rfl
  refine pure_ (i := 1) (N := some 13) (v := ?_) (a' := ?_) #[true, true, false, false, false, false, false, false, false, false, false, false] rfl rfl (any_of HT_.out (by kernel_rfl)) (fun _ _ _ h => h) (Or.inl ⟨by rfl, ?_⟩) ?_ ?_
  rotate_left
  · intro w'
    go_simp
    with_reducible rfl
  rotate_left
  · simp only [Act.put, List.setIfInBounds_toArray, List.set_cons_zero, List.set_cons_succ, i64_w, i32_w]
    rfl
  refine pure_ (i := 2) (N := some 14) (v := ?_) (a' := ?_) #[true, true, true, false, false, false, false, false, false, false, false, false] rfl rfl (any_of HT_.out (by kernel_rfl)) (fun _ _ _ h => h) (Or.inl ⟨by rfl, ?_⟩) ?_ ?_
  rotate_left
  · intro w'
    go_simp
    with_reducible rfl
  rotate_left
  · simp only [Act.put, List.setIfInBounds_toArray, List.set_cons_zero, List.set_cons_succ, i64_w, i32_w]
    rfl
  refine pure_ (i := 3) (N := some 15) (v := ?_) (a' := ?_) #[true, true, true, true, false, false, false, false, false, false, false, false] rfl rfl (any_of HT_.out (by kernel_rfl)) (fun _ _ _ h => h) (Or.inl ⟨by rfl, ?_⟩) ?_ ?_
  rotate_left
  · intro w'
    go_simp
    with_reducible rfl
  rotate_left
  · simp only [Act.put, List.setIfInBounds_toArray, List.set_cons_zero, List.set_cons_succ, i64_w, i32_w]
    rfl
  refine pure_ (i := 4) (N := some 16) (v := ?_) (a' := ?_) #[true, true, true, true, true, false, false, false, false, false, false, false] rfl rfl (any_of HT_.out (by kernel_rfl)) (fun _ _ _ h => h) (Or.inl ⟨by rfl, ?_⟩) ?_ ?_
  rotate_left
  · intro w'
    go_simp
    with_reducible rfl
  rotate_left
  · simp only [Act.put, List.setIfInBounds_toArray, List.set_cons_zero, List.set_cons_succ, i64_w, i32_w]
    rfl
  refine pure_ (i := 5) (N := some 17) (v := ?_) (a' := ?_) #[true, true, true, true, true, true, false, false, false, false, false, false] rfl rfl (any_of HT_.out (by kernel_rfl)) (fun _ _ _ h => h) (Or.inl ⟨by rfl, ?_⟩) ?_ ?_
  rotate_left
  · intro w'
    go_simp
    with_reducible rfl
  rotate_left
  · simp only [Act.put, List.setIfInBounds_toArray, List.set_cons_zero, List.set_cons_succ, i64_w, i32_w]
    rfl
  refine pure_ (i := 6) (N := some 18) (v := ?_) (a' := ?_) #[true, true, true, true, true, true, true, false, false, false, false, false] rfl rfl (any_of HT_.out (by kernel_rfl)) (fun _ _ _ h => h) (Or.inl ⟨by rfl, ?_⟩) ?_ ?_
  rotate_left
  · intro w'
    go_simp
    with_reducible rfl
  rotate_left
  · simp only [Act.put, List.setIfInBounds_toArray, List.set_cons_zero, List.set_cons_succ, i64_w, i32_w]
    rfl
  refine pure_ (i := 7) (N := some 19) (v := ?_) (a' := ?_) #[true, true, true, true, true, true, true, true, false, false, false, false] rfl rfl (any_of HT_.out (by kernel_rfl)) (fun _ _ _ h => h) (Or.inl ⟨by rfl, ?_⟩) ?_ ?_
  rotate_left
  · intro w'
    go_simp
    with_reducible rfl
  rotate_left
  · simp only [Act.put, List.setIfInBounds_toArray, List.set_cons_zero, List.set_cons_succ, i64_w, i32_w]
    rfl
  refine pure_ (i := 8) (N := some 20) (v := ?_) (a' := ?_) #[true, true, true, true, true, true, true, true, true, false, false, false] rfl rfl (any_of HT_.out (by kernel_rfl)) (fun _ _ _ h => h) (Or.inl ⟨by rfl, ?_⟩) ?_ ?_
  rotate_left
  · intro w'
    go_simp
    with_reducible rfl
  rotate_left
  · simp only [Act.put, List.setIfInBounds_toArray, List.set_cons_zero, List.set_cons_succ, i64_w, i32_w]
    rfl
  refine pure_ (i := 9) (N := some 21) (v := ?_) (a' := ?_) #[true, true, true, true, true, true, true, true, true, true, false, false] rfl rfl (any_of HT_.out (by kernel_rfl)) (fun _ _ _ h => h) (Or.inl ⟨by rfl, ?_⟩) ?_ ?_
  rotate_left
  · intro w'
    go_simp
    with_reducible rfl
  rotate_left
  · simp only [Act.put, List.setIfInBounds_toArray, List.set_cons_zero, List.set_cons_succ, i64_w, i32_w]
    rfl
  refine pure_ (i := 10) (N := some 0) (v := ?_) (a' := ?_) #[true, true, true, true, true, true, true, true, true, true, true, false] rfl rfl (any_of HT_.out (by kernel_rfl)) (fun _ _ _ h => h) (Or.inl ⟨by rfl, ?_⟩) ?_ ?_
  rotate_left
  · intro w'
    go_simp
    with_reducible rfl
  rotate_left
  · simp only [Act.put, List.setIfInBounds_toArray, List.set_cons_zero, List.set_cons_succ, i64_w, i32_w]
    rfl
  refine pure_ (i := 11) (N := some 1) (v := ?_) (a' := ?_) #[true, true, true, true, true, true, true, true, true, true, true, true] rfl rfl (any_of HT_.out (by kernel_rfl)) (fun _ _ _ h => h) (Or.inl ⟨by rfl, ?_⟩) ?_ ?_
  rotate_left
  · intro w'
    go_simp
    with_reducible rfl
  rotate_left
  · simp only [Act.put, List.setIfInBounds_toArray, List.set_cons_zero, List.set_cons_succ, i64_w, i32_w]
    rfl
  refine done_ (done_of HT_.out (by kernel_rfl)) ?_
  clear HT_ HW_ hHeld
  clear hm hn hcut hcut'
  generalize w1.drew = w2 at NB0 ⊢
  go_wp2_with fail
  refine (of_any A0 c0 a _ (Kd.C_below (unhide HRA) (unhide NB0)) hca (unhide HLA) q1).mono ?_
  rintro e w3 ⟨rfl, hb⟩
  have NB1 := hide (below_step (unhide NB0) hb)
  clear hb
  go_wp2_with fail
  refine (of_any A1 c1 b _ (Kd.C_below (unhide HRB) (unhide NB1)) hcb (unhide HLB) q2).mono ?_
  rintro e w4 ⟨rfl, hb⟩
  have NB2 := hide (below_step (unhide NB1) hb)
  clear hb
  have z1 : w.heap.size ≤ w4.heap.size := (unhide NB2).size
  go_wp2_with (at_builtin; refine unhide ?_)
  refine hide ?_
  have B1 : Hid (Box (((w4.alloc (.cells #[.int .u32 (St a).1, .int .u32 (St a).2.1, .int .u32 (St a).2.2] 53)).alloc (.cells #[.int .u32 (St b).1, .int .u32 (St b).2.1, .int .u32 (St b).2.2] 53)).alloc (.cells #[] 5)) w4.heap.size (St a)) := Box.alloc (Box.alloc (blk_new w4 _) _) _
  have B2 : Hid (Box (((w4.alloc (.cells #[.int .u32 (St a).1, .int .u32 (St a).2.1, .int .u32 (St a).2.2] 53)).alloc (.cells #[.int .u32 (St b).1, .int .u32 (St b).2.1, .int .u32 (St b).2.2] 53)).alloc (.cells #[] 5)) (w4.heap.size + 1) (St b)) := Box.alloc (heap_alloc2_new _ _ _) _
  have BB := hide (below_alloc (below_alloc (below_alloc (unhide NB2) (.cells #[.int .u32 (St a).1, .int .u32 (St a).2.1, .int .u32 (St a).2.2] 53)) (.cells #[.int .u32 (St b).1, .int .u32 (St b).2.1, .int .u32 (St b).2.2] 53)) (.cells #[] 5))
  have HO : Own (((w4.alloc (.cells #[.int .u32 (St a).1, .int .u32 (St a).2.1, .int .u32 (St a).2.2] 53)).alloc (.cells #[.int .u32 (St b).1, .int .u32 (St b).2.1, .int .u32 (St b).2.2] 53)).alloc (.cells #[] 5)) w.heap.size (.slice (some ⟨w4.heap.size + 1 + 1, 0, none⟩) 0 0) [] := by
    have h := own_empty ((w4.alloc (.cells #[.int .u32 (St a).1, .int .u32 (St a).2.1, .int .u32 (St a).2.2] 53)).alloc (.cells #[.int .u32 (St b).1, .int .u32 (St b).2.1, .int .u32 (St b).2.2] 53)) w.heap.size (by simp; omega)
    simpa using h
  refine Kd.R_append_row (Value.int .u8) (0 : Int) w.heap.size rfl (.tmp 26) (.tmp 27) 23 5 (.int .u8 0) 1 rfl Try.underlying23 info5 rfl (by decide) (.slice (some ⟨w4.heap.size + 1 + 1, 0, none⟩) 0 0) [] a A0 _ _ (fun _ => True) rfl rfl (fun _ _ => trivial) HO (Kd.C_below (unhide HRA) (unhide BB)) (unhide BB) (unhide BB).size q5 ?_
  intro v1 w5 hR1 hB1 hg1 hat1
  have B3 := hide ((unhide B1).grown hg1 ((unhide B1).ne_ HO))
  have B4 := hide ((unhide B2).grown hg1 ((unhide B2).ne_ HO))
  have R1 := hide hR1
  have BB1 := hide hB1
  clear hR1 hB1 hg1 hat1 HO B1 B2 BB
  go_wp2_with (at_builtin; refine unhide ?_)
  refine hide ?_
  refine Kd.R_append_row (Value.int .u8) (0 : Int) w.heap.size rfl (.tmp 28) (.tmp 29) 23 5 (.int .u8 0) 1 rfl Try.underlying23 info5 rfl (by decide) v1 ([] ++ a) b A1 _ _ (fun _ => True) rfl rfl (fun _ _ => trivial) (unhide R1) (Kd.C_below (unhide HRB) (unhide BB1)) (unhide BB1) (unhide BB1).size q6 ?_
  intro v2 w6 hR2 hB2 hg2 hat2
  have B5 := hide ((unhide B3).grown hg2 ((unhide B3).ne_ (unhide R1)))
  have B6 := hide ((unhide B4).grown hg2 ((unhide B4).ne_ (unhide R1)))
  have BB2 := hide hB2
  obtain ⟨A2, c2, rfl⟩ := Kd.R_slice hR2
  have hrr := Kd.R_reads' hR2
  have R2 := hide hrr.2.2
  have hc2 := hrr.2.1
  clear hR2 hB2 hg2 hat2 hrr B3 B4 R1 BB1
  have eab : [] ++ a ++ b = a ++ b := by simp
  generalize hgab : [] ++ a ++ b = ab at R2 hc2 q3 Q7
  have HAB : Hid (ab = a ++ b) := hgab.symm.trans eab
  clear eab hgab
  go_wp2_with fail
  refine (of_any A2 c2 ab _ (unhide R2) hc2 (unhide Q7) q3).mono ?_
  rintro e w7 ⟨rfl, hb⟩
  have P0 := hide ((unhide B5).below hb)
  have Q0 := hide ((unhide B6).below hb)
  have NB3 := hide (below_step (unhide BB2) hb)
  clear hb B5 B6 BB2
  go_wp2
  have MB0 := hide (below_drew1 (below_alloc (unhide NB3) (.cells #[.int .u32 (St ab).1, .int .u32 (St ab).2.1, .int .u32 (St ab).2.2] 53)))
  have M0 : Hid (Box (w7.alloc (.cells #[.int .u32 (St ab).1, .int .u32 (St ab).2.1, .int .u32 (St ab).2.2] 53)).drew w4.heap.size (St a)) := Box.alloc (unhide P0) _
  have N0 : Hid (Box (w7.alloc (.cells #[.int .u32 (St ab).1, .int .u32 (St ab).2.1, .int .u32 (St ab).2.2] 53)).drew (w4.heap.size + 1) (St b)) := Box.alloc (unhide Q0) _
  have O0 : Hid (Box (w7.alloc (.cells #[.int .u32 (St ab).1, .int .u32 (St ab).2.1, .int .u32 (St ab).2.2] 53)).drew w7.heap.size (St ab)) := blk_new w7 _
  obtain ⟨s1, k0⟩ : ∃ s1, IntKind.u32.wrap (val a + val b) = s1 := ⟨_, rfl⟩
  have k1 : bits .and .u32 s1 65535 = (A a + A b) % 65536 := by
    rw [← k0, IntKind.wrap_u32, mask_any]
    unfold val
    omega
  clear P0 Q0 NB3
  refine start_ (n := 7) (S := fun w' => Box w' w4.heap.size (St a) ∧ Box w' (w4.heap.size + 1) (St b) ∧ Box w' w7.heap.size (St ab)) (ds := []) #[false, false, false, false, false, false, false] (by kernel_rfl) rfl rfl ⟨unhide M0, unhide N0, unhide O0⟩ (fun hHeld => ?_)
  refine with_tabW tabT10_6 bitsT10_6 (fun HT_ HW_ => ?_)
  refine take_ (i := 0) (N := some 32) (v := ?_) (a' := ?_) #[true, false, false, false, false, false, false] rfl rfl (take_ofW HT_.out HW_.out (by kernel_rfl)) (fun _ _ _ h => h) (Or.inl ⟨by rfl, ?_⟩) hHeld ?_ ?_
  rotate_left
  · rintro w' ⟨h1_, h2_, h3_⟩
    obtain ⟨⟨_, _, _⟩, _, _⟩ := box3 h1_
    obtain ⟨⟨_, _, _⟩, _, _⟩ := box3 h2_
    obtain ⟨⟨_, _, _⟩, _, _⟩ := box3 h3_
    go_simp
    with_reducible rfl
  rotate_left
  · simp only [Act.put, List.setIfInBounds_toArray, List.set_cons_zero, List.set_cons_succ, i64_w, i32_w]
    rfl
  refine take_ (i := 2) (N := some 34) (v := ?_) (a' := ?_) #[true, false, true, false, false, false, false] rfl rfl (take_ofW HT_.out HW_.out (by kernel_rfl)) (fun _ _ _ h => h) (Or.inl ⟨by rfl, ?_⟩) hHeld ?_ ?_
  rotate_left
  · rintro w' ⟨h1_, h2_, h3_⟩
    obtain ⟨⟨_, _, _⟩, _, _⟩ := box3 h1_
    obtain ⟨⟨_, _, _⟩, _, _⟩ := box3 h2_
    obtain ⟨⟨_, _, _⟩, _, _⟩ := box3 h3_
    go_simp
    with_reducible rfl
  rotate_left
  · simp only [Act.put, List.setIfInBounds_toArray, List.set_cons_zero, List.set_cons_succ, i64_w, i32_w]
    rfl
  refine one_ (i := 1) (N := some 33) #[true, true, true, false, false, false, false] rfl rfl (one_of HT_.out (by kernel_rfl)) (by decide) (fun K hK => ?_)
  refine goes_ Try.func33 (by kernel_rfl) rfl #[.agg #[.int .u32 (St a).1, .int .u32 (St a).2.1, .int .u32 (St a).2.2]] (by rfl) rfl rfl (by (try simp only [List.map_toArray, List.map_cons, List.map_nil]); first | done | rfl) ?_
  refine (value_St a _).mono ?_
  rintro e w11 ⟨rfl, hb⟩
  refine ⟨_, rfl, ?_⟩
  have MB1 := hide (below_step (unhide MB0) hb)
  have M1 := hide ((unhide M0).below hb)
  have N1 := hide ((unhide N0).below hb)
  have O1 := hide ((unhide O0).below hb)
  clear hb MB0 M0 N0 O0
  clear hHeld
  refine hK.out _ _ ⟨unhide M1, unhide N1, unhide O1⟩ (fun hHeld => ?_)
  clear hK K
  refine norm_ (a' := ?_) ?_ ?_
  rotate_left
  · show Act.put _ (some 33) _ = _
    simp only [Act.put, List.setIfInBounds_toArray, List.set_cons_zero, List.set_cons_succ, i64_w, i32_w]
    rfl
  refine one_ (i := 3) (N := some 35) #[true, true, true, true, false, false, false] rfl rfl (one_of HT_.out (by kernel_rfl)) (by decide) (fun K hK => ?_)
  refine goes_ Try.func33 (by kernel_rfl) rfl #[.agg #[.int .u32 (St b).1, .int .u32 (St b).2.1, .int .u32 (St b).2.2]] (by rfl) rfl rfl (by (try simp only [List.map_toArray, List.map_cons, List.map_nil]); first | done | rfl) ?_
  refine (value_St b _).mono ?_
  rintro e w12 ⟨rfl, hb⟩
  refine ⟨_, rfl, ?_⟩
  have MB2 := hide (below_step (unhide MB1) hb)
  have M2 := hide ((unhide M1).below hb)
  have N2 := hide ((unhide N1).below hb)
  have O2 := hide ((unhide O1).below hb)
  clear hb MB1 M1 N1 O1
  clear hHeld
  refine hK.out _ _ ⟨unhide M2, unhide N2, unhide O2⟩ (fun hHeld => ?_)
  clear hK K
  refine norm_ (a' := ?_) ?_ ?_
  rotate_left
  · show Act.put _ (some 35) _ = _
    simp only [Act.put, List.setIfInBounds_toArray, List.set_cons_zero, List.set_cons_succ, i64_w, i32_w]
    rfl
  refine pure_ (i := 4) (N := some 36) (v := ?_) (a' := ?_) #[true, true, true, true, true, false, false] rfl rfl (any_of HT_.out (by kernel_rfl)) (fun _ _ _ h => h) (Or.inl ⟨by rfl, ?_⟩) ?_ ?_
  rotate_left
  · intro w'
    go_simp
    with_reducible rfl
  rotate_left
  · simp only [Act.put, List.setIfInBounds_toArray, List.set_cons_zero, List.set_cons_succ, i64_w, i32_w]
    rfl
  refine pure_ (i := 5) (N := some 37) (v := ?_) (a' := ?_) #[true, true, true, true, true, true, false] rfl rfl (any_of HT_.out (by kernel_rfl)) (fun _ _ _ h => h) (Or.inl ⟨by rfl, ?_⟩) ?_ ?_
  rotate_left
  · intro w'
    go_simp
    with_reducible rfl
  rotate_left
  · simp only [Act.put, List.setIfInBounds_toArray, List.set_cons_zero, List.set_cons_succ, i64_w, i32_w]
    rfl
  refine pure_ (i := 6) (N := some 8) (v := ?_) (a' := ?_) #[true, true, true, true, true, true, true] rfl rfl (any_of HT_.out (by kernel_rfl)) (fun _ _ _ h => h) (Or.inl ⟨by rfl, ?_⟩) ?_ ?_
  rotate_left
  · intro w'
    go_simp
    with_reducible rfl
  rotate_left
  · simp only [Act.put, List.setIfInBounds_toArray, List.set_cons_zero, List.set_cons_succ, i64_w, i32_w]
    rfl
  refine done_ (done_of HT_.out (by kernel_rfl)) ?_
  clear HT_ HW_ hHeld
  clear k0 k1
  go_wp2
  have hlo : 0 ≤ (A a + A b) % 65536 ∧ (A a + A b) % 65536 < 65536 := by omega
  generalize (A a + A b) % 65536 = lo at *
  obtain ⟨x1, t1⟩ : ∃ x, IntKind.u32.wrap (val a / 65536 + val b / 65536) = x := ⟨_, rfl⟩
  obtain ⟨x2, t2⟩ : ∃ x, bits .and .u32 (val a) 65535 = x := ⟨_, rfl⟩
  obtain ⟨x3, t3⟩ : ∃ x, IntKind.u32.wrap (b.length : Int) = x := ⟨_, rfl⟩
  obtain ⟨x4, t4⟩ : ∃ x, IntKind.u32.wrap (x2 * x3) = x := ⟨_, rfl⟩
  obtain ⟨x5, t5⟩ : ∃ x, IntKind.u32.wrap (x1 + x4) = x := ⟨_, rfl⟩
  obtain ⟨hi, t6⟩ : ∃ x, bits .and .u32 x5 65535 = x := ⟨_, rfl⟩
  have hhi : hi = (B a % 65536 + B b % 65536 + A a % 65536 * (b.length : Int)) % 65536 := by
    have e1 : val a / 65536 = B a % 65536 := by unfold val; omega
    have e2 : val b / 65536 = B b % 65536 := by unfold val; omega
    have e3 : x2 = A a % 65536 := by rw [← t2, mask_in _ (by unfold val; omega) (by unfold val; omega)]; unfold val; omega
    have e4 : x3 = (b.length : Int) := by rw [← t3, IntKind.wrap_u32]; omega
    have e5 : x4 = (A a % 65536 * (b.length : Int)) % 4294967296 := by rw [← t4, IntKind.wrap_u32, e3, e4]
    have e6 : x1 = B a % 65536 + B b % 65536 := by rw [← t1, IntKind.wrap_u32, e1, e2]; omega
    rw [← t6, ← t5, IntKind.wrap_u32, mask_any, e5, e6]
    generalize A a % 65536 * (b.length : Int) = tt
    omega
  have hfin : bits .or .u32 (hi * 65536) lo = val ab := by
    have h0 : 0 ≤ hi ∧ hi < 65536 := by rw [hhi]; omega
    have h := join_any hi lo h0.1 h0.2 hlo.1 hlo.2
    have e : hi * 65536 % 4294967296 = hi * 65536 := by omega
    rw [e] at h
    rw [h, unhide HAB, ← unhide HG, hhi]
  have hhi0 : 0 ≤ hi := by rw [hhi]; omega
  have hhi1 : hi ≤ 65535 := by rw [hhi]; omega
  have hlen : (ab.length : Int) = (a.length : Int) + (b.length : Int) := by rw [unhide HAB]; simp
  have HSZ := hide (fun W : World => size_St ab W q3)
  rw [hlen] at HSZ
  clear hhi hlo hlen
  have MB0 := hide (below_drew1 (unhide MB2))
  have M0 : Hid (Box w12.drew w4.heap.size (St a)) := unhide M2
  have N0 : Hid (Box w12.drew (w4.heap.size + 1) (St b)) := unhide N2
  have O0 : Hid (Box w12.drew w7.heap.size (St ab)) := unhide O2
  clear MB2 M2 N2 O2
  refine start_ (n := 17) (S := fun w' => Box w' w4.heap.size (St a) ∧ Box w' (w4.heap.size + 1) (St b) ∧ Box w' w7.heap.size (St ab)) (ds := []) #[false, false, false, false, false, false, false, false, false, false, false, false, false, false, false, false, false] (by kernel_rfl) rfl rfl ⟨unhide M0, unhide N0, unhide O0⟩ (fun hHeld => ?_)
  refine with_tabW tabT10_7 bitsT10_7 (fun HT_ HW_ => ?_)
  refine take_ (i := 0) (N := some 38) (v := ?_) (a' := ?_) #[true, false, false, false, false, false, false, false, false, false, false, false, false, false, false, false, false] rfl rfl (take_ofW HT_.out HW_.out (by kernel_rfl)) (fun _ _ _ h => h) (Or.inl ⟨by rfl, ?_⟩) hHeld ?_ ?_
  rotate_left
  · rintro w' ⟨h1_, h2_, h3_⟩
    obtain ⟨⟨_, _, _⟩, _, _⟩ := box3 h1_
    obtain ⟨⟨_, _, _⟩, _, _⟩ := box3 h2_
    obtain ⟨⟨_, _, _⟩, _, _⟩ := box3 h3_
    go_simp
    with_reducible rfl
  rotate_left
  · simp only [Act.put, List.setIfInBounds_toArray, List.set_cons_zero, List.set_cons_succ, i64_w, i32_w]
    rfl
  refine take_ (i := 3) (N := some 41) (v := ?_) (a' := ?_) #[true, false, false, true, false, false, false, false, false, false, false, false, false, false, false, false, false] rfl rfl (take_ofW HT_.out HW_.out (by kernel_rfl)) (fun _ _ _ h => h) (Or.inl ⟨by rfl, ?_⟩) hHeld ?_ ?_
  rotate_left
  · rintro w' ⟨h1_, h2_, h3_⟩
    obtain ⟨⟨_, _, _⟩, _, _⟩ := box3 h1_
    obtain ⟨⟨_, _, _⟩, _, _⟩ := box3 h2_
    obtain ⟨⟨_, _, _⟩, _, _⟩ := box3 h3_
    go_simp
    with_reducible rfl
  rotate_left
  · simp only [Act.put, List.setIfInBounds_toArray, List.set_cons_zero, List.set_cons_succ, i64_w, i32_w]
    rfl
  refine take_ (i := 7) (N := some 45) (v := ?_) (a' := ?_) #[true, false, false, true, false, false, false, true, false, false, false, false, false, false, false, false, false] rfl rfl (take_ofW HT_.out HW_.out (by kernel_rfl)) (fun _ _ _ h => h) (Or.inl ⟨by rfl, ?_⟩) hHeld ?_ ?_
  rotate_left
  · rintro w' ⟨h1_, h2_, h3_⟩
    obtain ⟨⟨_, _, _⟩, _, _⟩ := box3 h1_
    obtain ⟨⟨_, _, _⟩, _, _⟩ := box3 h2_
    obtain ⟨⟨_, _, _⟩, _, _⟩ := box3 h3_
    go_simp
    with_reducible rfl
  rotate_left
  · simp only [Act.put, List.setIfInBounds_toArray, List.set_cons_zero, List.set_cons_succ, i64_w, i32_w]
    rfl
  refine pure_ (i := 10) (N := some 48) (v := ?_) (a' := ?_) #[true, false, false, true, false, false, false, true, false, false, true, false, false, false, false, false, false] rfl rfl (any_of HT_.out (by kernel_rfl)) (fun _ _ _ h => h) (Or.inl ⟨by rfl, ?_⟩) ?_ ?_
  rotate_left
  · intro w'
    go_simp
    with_reducible rfl
  rotate_left
  · simp only [Act.put, List.setIfInBounds_toArray, List.set_cons_zero, List.set_cons_succ, i64_w, i32_w]
    rfl
  refine pure_ (i := 11) (N := some 49) (v := ?_) (a' := ?_) #[true, false, false, true, false, false, false, true, false, false, true, true, false, false, false, false, false] rfl rfl (any_of HT_.out (by kernel_rfl)) (fun _ _ _ h => h) (Or.inl ⟨by rfl, ?_⟩) ?_ ?_
  rotate_left
  · intro w'
    go_simp
    with_reducible rfl
  rotate_left
  · simp only [Act.put, List.setIfInBounds_toArray, List.set_cons_zero, List.set_cons_succ, i64_w, i32_w]
    rfl
  refine pure_ (i := 12) (N := some 50) (v := ?_) (a' := ?_) #[true, false, false, true, false, false, false, true, false, false, true, true, true, false, false, false, false] rfl rfl (any_of HT_.out (by kernel_rfl)) (fun _ _ _ h => h) (Or.inl ⟨by rfl, ?_⟩) ?_ ?_
  rotate_left
  · intro w'
    go_simp
    with_reducible rfl
  rotate_left
  · simp only [Act.put, List.setIfInBounds_toArray, List.set_cons_zero, List.set_cons_succ, i64_w, i32_w]
    rfl
  refine one_ (i := 1) (N := some 39) #[true, true, false, true, false, false, false, true, false, false, true, true, true, false, false, false, false] rfl rfl (one_of HT_.out (by kernel_rfl)) (by decide) (fun K hK => ?_)
  refine goes_ Try.func33 (by kernel_rfl) rfl #[.agg #[.int .u32 (St a).1, .int .u32 (St a).2.1, .int .u32 (St a).2.2]] (by rfl) rfl rfl (by (try simp only [List.map_toArray, List.map_cons, List.map_nil]); first | done | rfl) ?_
  refine (value_St a _).mono ?_
  rintro e w13 ⟨rfl, hb⟩
  refine ⟨_, rfl, ?_⟩
  have MB1 := hide (below_step (unhide MB0) hb)
  have M1 := hide ((unhide M0).below hb)
  have N1 := hide ((unhide N0).below hb)
  have O1 := hide ((unhide O0).below hb)
  clear hb MB0 M0 N0 O0
  clear hHeld
  refine hK.out _ _ ⟨unhide M1, unhide N1, unhide O1⟩ (fun hHeld => ?_)
  clear hK K
  refine norm_ (a' := ?_) ?_ ?_
  rotate_left
  · show Act.put _ (some 39) _ = _
    simp only [Act.put, List.setIfInBounds_toArray, List.set_cons_zero, List.set_cons_succ, i64_w, i32_w]
    rfl
  refine pure_ (i := 2) (N := some 40) (v := ?_) (a' := ?_) #[true, true, true, true, false, false, false, true, false, false, true, true, true, false, false, false, false] rfl rfl (any_of HT_.out (by kernel_rfl)) (fun _ _ _ h => h) (Or.inl ⟨by rfl, ?_⟩) ?_ ?_
  rotate_left
  · intro w'
    go_simp
    with_reducible rfl
  rotate_left
  · simp only [Act.put, List.setIfInBounds_toArray, List.set_cons_zero, List.set_cons_succ, i64_w, i32_w]
    rfl
  refine one_ (i := 4) (N := some 42) #[true, true, true, true, true, false, false, true, false, false, true, true, true, false, false, false, false] rfl rfl (one_of HT_.out (by kernel_rfl)) (by decide) (fun K hK => ?_)
  refine goes_ Try.func33 (by kernel_rfl) rfl #[.agg #[.int .u32 (St b).1, .int .u32 (St b).2.1, .int .u32 (St b).2.2]] (by rfl) rfl rfl (by (try simp only [List.map_toArray, List.map_cons, List.map_nil]); first | done | rfl) ?_
  refine (value_St b _).mono ?_
  rintro e w14 ⟨rfl, hb⟩
  refine ⟨_, rfl, ?_⟩
  have MB2 := hide (below_step (unhide MB1) hb)
  have M2 := hide ((unhide M1).below hb)
  have N2 := hide ((unhide N1).below hb)
  have O2 := hide ((unhide O1).below hb)
  clear hb MB1 M1 N1 O1
  clear hHeld
  refine hK.out _ _ ⟨unhide M2, unhide N2, unhide O2⟩ (fun hHeld => ?_)
  clear hK K
  refine norm_ (a' := ?_) ?_ ?_
  rotate_left
  · show Act.put _ (some 42) _ = _
    simp only [Act.put, List.setIfInBounds_toArray, List.set_cons_zero, List.set_cons_succ, i64_w, i32_w]
    rfl
  refine pure_ (i := 5) (N := some 43) (v := ?_) (a' := ?_) #[true, true, true, true, true, true, false, true, false, false, true, true, true, false, false, false, false] rfl rfl (any_of HT_.out (by kernel_rfl)) (fun _ _ _ h => h) (Or.inl ⟨by rfl, ?_⟩) ?_ ?_
  rotate_left
  · intro w'
    go_simp
    with_reducible rfl
  rotate_left
  · simp only [Act.put, List.setIfInBounds_toArray, List.set_cons_zero, List.set_cons_succ, i64_w, i32_w]
    rfl
  refine pure_ (i := 6) (N := some 44) (v := ?_) (a' := ?_) #[true, true, true, true, true, true, true, true, false, false, true, true, true, false, false, false, false] rfl rfl (any_of HT_.out (by kernel_rfl)) (fun _ _ _ h => h) (Or.inl ⟨by rfl, ?_⟩) ?_ ?_
  rotate_left
  · intro w'
    go_simp
    with_reducible rfl
  rotate_left
  · simp only [Act.put, List.setIfInBounds_toArray, List.set_cons_zero, List.set_cons_succ, i64_w, i32_w]
    rfl
  refine one_ (i := 8) (N := some 46) #[true, true, true, true, true, true, true, true, true, false, true, true, true, false, false, false, false] rfl rfl (one_of HT_.out (by kernel_rfl)) (by decide) (fun K hK => ?_)
  refine goes_ Try.func33 (by kernel_rfl) rfl #[.agg #[.int .u32 (St a).1, .int .u32 (St a).2.1, .int .u32 (St a).2.2]] (by rfl) rfl rfl (by (try simp only [List.map_toArray, List.map_cons, List.map_nil]); first | done | rfl) ?_
  refine (value_St a _).mono ?_
  rintro e w15 ⟨rfl, hb⟩
  refine ⟨_, rfl, ?_⟩
  have MB3 := hide (below_step (unhide MB2) hb)
  have M3 := hide ((unhide M2).below hb)
  have N3 := hide ((unhide N2).below hb)
  have O3 := hide ((unhide O2).below hb)
  clear hb MB2 M2 N2 O2
  clear hHeld
  refine hK.out _ _ ⟨unhide M3, unhide N3, unhide O3⟩ (fun hHeld => ?_)
  clear hK K
  refine norm_ (a' := ?_) ?_ ?_
  rotate_left
  · show Act.put _ (some 46) _ = _
    simp only [Act.put, List.setIfInBounds_toArray, List.set_cons_zero, List.set_cons_succ, i64_w, i32_w]
    rfl
  refine pure_ (i := 9) (N := some 47) (v := ?_) (a' := ?_) #[true, true, true, true, true, true, true, true, true, true, true, true, true, false, false, false, false] rfl rfl (any_of HT_.out (by kernel_rfl)) (fun _ _ _ h => h) (Or.inl ⟨by rfl, ?_⟩) ?_ ?_
  rotate_left
  · intro w'
    go_simp
    with_reducible rfl
  rotate_left
  · simp only [Act.put, List.setIfInBounds_toArray, List.set_cons_zero, List.set_cons_succ, i64_w, i32_w]
    rfl
  refine pure_ (i := 13) (N := some 51) (v := ?_) (a' := ?_) #[true, true, true, true, true, true, true, true, true, true, true, true, true, true, false, false, false] rfl rfl (any_of HT_.out (by kernel_rfl)) (fun _ _ _ h => h) (Or.inl ⟨by rfl, ?_⟩) ?_ ?_
  rotate_left
  · intro w'
    go_simp
    with_reducible rfl
  rotate_left
  · simp only [Act.put, List.setIfInBounds_toArray, List.set_cons_zero, List.set_cons_succ, i64_w, i32_w]
    rfl
  refine pure_ (i := 14) (N := some 52) (v := ?_) (a' := ?_) #[true, true, true, true, true, true, true, true, true, true, true, true, true, true, true, false, false] rfl rfl (any_of HT_.out (by kernel_rfl)) (fun _ _ _ h => h) (Or.inl ⟨by rfl, ?_⟩) ?_ ?_
  rotate_left
  · intro w'
    go_simp
    with_reducible rfl
  rotate_left
  · simp only [Act.put, List.setIfInBounds_toArray, List.set_cons_zero, List.set_cons_succ, i64_w, i32_w]
    rfl
  refine pure_ (i := 15) (N := some 53) (v := ?_) (a' := ?_) #[true, true, true, true, true, true, true, true, true, true, true, true, true, true, true, true, false] rfl rfl (any_of HT_.out (by kernel_rfl)) (fun _ _ _ h => h) (Or.inl ⟨by rfl, ?_⟩) ?_ ?_
  rotate_left
  · intro w'
    go_simp
    with_reducible rfl
  rotate_left
  · simp only [Act.put, List.setIfInBounds_toArray, List.set_cons_zero, List.set_cons_succ, i64_w, i32_w]
    rfl
  refine pure_ (i := 16) (N := some 9) (v := ?_) (a' := ?_) #[true, true, true, true, true, true, true, true, true, true, true, true, true, true, true, true, true] rfl rfl (any_of HT_.out (by kernel_rfl)) (fun _ _ _ h => h) (Or.inl ⟨by rfl, ?_⟩) ?_ ?_
  rotate_left
  · intro w'
    go_simp
    with_reducible rfl
  rotate_left
  · simp only [Act.put, List.setIfInBounds_toArray, List.set_cons_zero, List.set_cons_succ, i64_w, i32_w]
    rfl
  refine done_ (done_of HT_.out (by kernel_rfl)) ?_
  clear HT_ HW_ hHeld
  clear t1 t2 t3 t4 t5 t6
  obtain ⟨⟨_, _, _⟩, _, _⟩ := box3 (unhide O3)
  go_wp2_with fail
  refine (value_St ab _).mono ?_
  rintro e w16 ⟨rfl, hb⟩
  have MB4 := hide (below_step (unhide MB3) hb)
  have O4 := hide ((unhide O3).below hb)
  obtain ⟨⟨_, _, _⟩, _, _⟩ := box3 (unhide O4)
  clear hb
  go_wp2_with fail
  refine ((unhide HSZ) _).mono ?_
  rintro e w17 ⟨rfl, hb⟩
  have MB5 := hide (below_step (unhide MB4) hb)
  clear hb
  go_wp2
  go_ret
  exact ⟨rfl, unhide MB5⟩
end Go.Proofs.Ytjdkeicjhmdcfaa.WkJoi
