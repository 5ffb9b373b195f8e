import Derived.Test.YtjdkeicjhmdcfaaWk1
import Derived.Test.YtjdkeicjhmdcfaaWGuard
import Derived.Lib.SlBytesConst
set_option linter.unusedSimpArgs false
set_option linter.unusedVariables false
namespace Go.Proofs.Ytjdkeicjhmdcfaa.Wk
open Go.RowKit Go.Proofs.YtjdkeicjhmdcfaaW.PrintWords Go.Proofs.YtjdkeicjhmdcfaaW.PrintLast Go.Proofs.YtjdkeicjhmdcfaaW.PrintMore Go.Proofs.Ytjdkeicjhmdcfaa.WkM

theorem bytesOf_bytes (s : ByteArray) : Bytes (bytesOf s) := by
  intro x hx
  unfold bytesOf at hx
  obtain ⟨b, _, rfl⟩ := List.mem_map.1 hx
  have := b.toNat_lt
  omega
theorem bytesOf_str {l : List Int} (h : Bytes l) : bytesOf (strOfNums l) = l := by
  unfold bytesOf strOfNums
  simp only [List.map_map]
  conv => rhs; rw [← List.map_id l]
  apply List.map_congr_left
  intro x hx
  have := h x hx
  simp
  omega

/-- One round of the sum by definition. -/
theorem ref_round (s : ByteArray) (k : Nat) (h : k < s.size) (hn : s.size ≤ 2000) :
    wrap64 (A (bytesOf s) - A ((bytesOf s).drop k) + wrap64 ((s[k]'h).toNat : Int)) = A (bytesOf s) - A ((bytesOf s).drop (k + 1)) ∧
    wrap64 (B (bytesOf s) - B ((bytesOf s).drop k) + wrap64 (((s.size : Int) - (k : Int)) * wrap64 ((s[k]'h).toNat : Int))) = B (bytesOf s) - B ((bytesOf s).drop (k + 1)) := by
  have hl := bytesOf_bytes s
  have hlen := bytesOf_length s
  have hx := hl.rd_ (k : Int)
  have e : ((s[k]'h).toNat : Int) = rd (bytesOf s) (k : Int) := by rw [rd_bytesOf, ← bt_at s (k : Int) (by simpa using h)]; rfl
  rw [e, w64 (rd (bytesOf s) (k : Int)) (by omega) (by omega)]
  have ha := A_bd hl
  have hb := B_bd 2000 hl (by omega)
  have ha1 := A_bd (hl.drop k)
  have hb1 := B_bd 2000 (hl.drop k) (by simp; omega)
  have ha2 := A_bd (hl.drop (k + 1))
  have hb2 := B_bd 2000 (hl.drop (k + 1)) (by simp; omega)
  have e1 : A ((bytesOf s).drop k) = rd (bytesOf s) (k : Int) + A ((bytesOf s).drop (k + 1)) := by rw [drop_cons _ k (by omega)]; rfl
  have e2 : B ((bytesOf s).drop k) = ((s.size : Int) - (k : Int)) * rd (bytesOf s) (k : Int) + B ((bytesOf s).drop (k + 1)) := by
    rw [drop_cons _ k (by omega)]
    simp only [B, List.length_drop]
    have e : ((((bytesOf s).length - (k + 1) : Nat) : Int) + 1) = (s.size : Int) - (k : Int) := by omega
    rw [e]
  simp only [List.length_drop] at ha1 ha2 hb1 hb2
  have hm0 : 0 ≤ ((s.size : Int) - (k : Int)) * rd (bytesOf s) (k : Int) := Int.mul_nonneg (by omega) hx.1
  have hm1 : ((s.size : Int) - (k : Int)) * rd (bytesOf s) (k : Int) ≤ 2000 * 255 := Int.mul_le_mul (by omega) hx.2 hx.1 (by omega)
  generalize ((s.size : Int) - (k : Int)) * rd (bytesOf s) (k : Int) = m at *
  rw [w64 m (by omega) (by omega), w64 (A (bytesOf s) - A ((bytesOf s).drop k) + rd (bytesOf s) (k : Int)) (by omega) (by omega), w64 (B (bytesOf s) - B ((bytesOf s).drop k) + m) (by omega) (by omega)]
  exact ⟨by omega, by omega⟩
theorem ref_end (s : ByteArray) (hn : s.size ≤ 2000) : wrap64 (wrap64 ((B (bytesOf s) - B ((bytesOf s).drop s.size)).tmod 65536 * 65536) + (A (bytesOf s) - A ((bytesOf s).drop s.size)).tmod 65536) = val (bytesOf s) := by
  have hl := bytesOf_bytes s
  have hlen := bytesOf_length s
  have ha := A_bd hl
  have hb := B_bd 2000 hl (by omega)
  rw [← hlen, List.drop_length]
  simp only [A, B, Int.sub_zero]
  rw [tm _ hb.1, tm _ ha.1, w64 (B (bytesOf s) % 65536 * 65536) (by omega) (by omega), w64 _ (by omega) (by omega)]
  rfl

theorem ref_any (s : ByteArray) (w : World) (hn : s.size ≤ 2000) :
    Calls Try.prog 34 #[.string s] w fun e w' => e = .returned (.int .i64 (val (bytesOf s))) ∧ w = w' := by
  go_enter Try.func34, Try.ntmps34
  go_wp2
  go_loop [3, 4, 5] (fun a b i => ∃ (k : Nat) (x y : Int), k ≤ s.size ∧ a = .int .i64 x ∧ b = .int .i64 y ∧ i = .int .i64 (k : Int) ∧ Hid (x = A (bytesOf s) - A ((bytesOf s).drop k)) ∧ Hid (y = B (bytesOf s) - B ((bytesOf s).drop k))) (fun _ _ i => s.size - (intOf i).toNat)
  case atStart => exact ⟨0, 0, 0, Nat.zero_le _, rfl, rfl, rfl, by simp [Hid], by simp [Hid]⟩
  case round =>
    obtain ⟨k, x, y, hk, rfl, rfl, rfl, HX, HY⟩ := hrel
    by_cases hlt : k < s.size
    · have HR := hide (ref_round s k hlt hn)
      go_wp2
      go_round
      case rel =>
        have hr := unhide HR
        rw [← unhide HX, ← unhide HY] at hr
        exact ⟨k + 1, _, _, by omega, rfl, rfl, by go_num, hr.1, hr.2⟩
      case measure => simp [intOf]; omega
    · have HE := hide (ref_end s hn)
      have e : k = s.size := by omega
      have HK := hide e
      clear e
      go_wp2
      go_ret
      refine ⟨?_, rfl⟩
      have he := unhide HE
      have hx := unhide HX
      have hy := unhide HY
      rw [unhide HK] at hx hy
      rw [← hx, ← hy] at he
      rw [← he]
      rfl

def T29_3 : Bool × List (List Nat × List Nat) := (true, [([], []), ([0], [0]), ([1], [1]), ([2, 1], [2]), ([3], [3]), ([3], [3]), ([5, 3], [3, 5]), ([6, 3, 3], [3, 6]), ([4, 7, 3], [3, 4, 7]), ([3, 8], [3, 8]), ([9, 7], [9]), ([10], [10]), ([11, 10, 10], [10, 11]), ([12, 10], [10, 12]), ([10, 13], [10, 13]), ([14, 12], [14]), ([15], [15]), ([16, 15, 15], [15, 16]), ([15], [15]), ([18, 17, 15], [15, 18]), ([17, 19, 15], [15, 17, 19]), ([15, 20], [15, 20]), ([21, 19, 0, 1, 2, 3, 4, 5, 6, 7, 8, 9, 10, 11, 12, 13, 14, 15, 16, 17, 18, 19, 20, 21], [21])])
def BT29_3 : List Nat := [0, 1, 3, 7, 15, 15, 47, 111, 255, 511, 1023, 2047, 4095, 8191, 16383, 32767, 65535, 131071, 65535, 524287, 1048575, 2097151, 4194303]
theorem tabT29_3 : rtab .any (opsOf Try.f29 3) = T29_3 := by kernel_rfl
theorem bitsT29_3 : waitsOk T29_3.2 BT29_3 = true := by kernel_rfl

theorem eqA53 (d : Nat) (w : World) (x0 y0 : Int) (x1 y1 : Int) (x2 y2 : Int) :
    (Op.equalIn (d + 2) 53 (.agg #[.int .u32 x0, .int .u32 x1, .int .u32 x2]) (.agg #[.int .u32 y0, .int .u32 y1, .int .u32 y2])).run Try.prog w = .ok (x0 == y0 && (x1 == y1 && (x2 == y2))) w := by
  refine eqA_of Try.underlying53 (by kernel_rfl) ?_
  refine eqf_cons (by rfl) (by go_simp; rfl) (by go_simp; rfl) (by go_simp) ?_
  refine eqf_cons (by rfl) (by go_simp; rfl) (by go_simp; rfl) (by go_simp) ?_
  exact eqf_last (by rfl) (by go_simp; rfl) (by go_simp; rfl) (by go_simp)
/-- Two equal sums are equal. -/
theorem eq53 (w : World) (x0 x1 x2 : Int) : (binOp .eql 53 (.agg #[.int .u32 x0, .int .u32 x1, .int .u32 x2]) (.agg #[.int .u32 x0, .int .u32 x1, .int .u32 x2])).run Try.prog w = .ok (.bool true) w := by
  simp only [binOp]
  simp [Op.equal, Op.maxDepth, eqA53 9998 w]

/-- A row of three bytes that the call makes. -/
theorem row3 (W : World) (x y z : Int) : Kd.C (Kd.int .u8) (W.alloc (.cells #[.int .u8 x, .int .u8 y, .int .u8 z] 5 (3, 4))) (some ⟨W.heap.size, 0, none⟩) ([x, y, z] : List Int).length [x, y, z] := by
  refine Kd.C_of_reads (enc := Value.int .u8) (d := (0 : Int)) (h1 := fun _ => rfl) ⟨rfl, by simp, fun _ => ⟨_, rfl, fun j hj => ?_⟩⟩
  have h := blk_new W (.cells #[.int .u8 x, .int .u8 y, .int .u8 z] 5 (3, 4))
  match j, hj with
  | 0, _ => exact (cell_of_row _ _ 0 _ 5 (3, 4) h).trans rfl
  | 1, _ => exact (cell_of_row _ _ 1 _ 5 (3, 4) h).trans rfl
  | 2, _ => exact (cell_of_row _ _ 2 _ 5 (3, 4) h).trans rfl

theorem rolls_any (w : World) : Calls Try.prog 29 #[] w fun e w' => e = .returned (.bool true) ∧ Below w.heap.size w w' := by
  have hu53 := Try.underlying53
  have kc := fun (w : World) (C : Array Value) (n c : Nat) => Lib.run_convert_bytes_const (P := Try.prog) w 23 5 C n c Try.underlying23 Try.underlying5
  have y1 : Bytes [97, 98, 99] := by intro x hx; simp at hx; omega
  have y2 : Bytes [98, 99, 100] := by intro x hx; simp at hx; omega
  have v1 : (val [97, 98, 99] == 38404390) = true := by decide +kernel
  have v2 : (val [98, 99, 100] != val [97, 98, 99]) = true := by decide +kernel
  have Y1 := hide y1
  have Y2 := hide y2
  clear y1 y2
  go_enter Try.func29, Try.ntmps29
  go_wp2_with fail
  refine (of_any _ 3 [97, 98, 99] _ (row3 w 97 98 99) (by simp) (unhide Y1) (by simp)).mono ?_
  rintro e w1 ⟨rfl, hb⟩
  have HB := hide (below_step (below_alloc (Below.refl _ _) _) hb)
  clear hb
  go_wp2_with fail
  refine (roll_St 97 100 [98, 99] _ (by omega) (by omega) (by simp)).mono ?_
  rintro e w2 ⟨rfl, hb⟩
  have NB := hide (below_step (below_alloc (unhide HB) _) hb)
  have B1 : Hid (Box w2 w1.heap.size (St [97, 98, 99])) := Box.below (blk_new w1 _) hb
  clear HB hb
  go_wp2_with fail
  have B2 : Hid (Box (w2.alloc (.cells #[.int .u32 (St ([98, 99] ++ [100])).1, .int .u32 (St ([98, 99] ++ [100])).2.1, .int .u32 (St ([98, 99] ++ [100])).2.2] 53)) w2.heap.size (St [98, 99, 100])) := blk_new _ _
  have B3 : Hid (Box (w2.alloc (.cells #[.int .u32 (St ([98, 99] ++ [100])).1, .int .u32 (St ([98, 99] ++ [100])).2.1, .int .u32 (St ([98, 99] ++ [100])).2.2] 53)) w1.heap.size (St [97, 98, 99])) := blk_alloc (unhide B1) _
  have NB0 := hide (below_drew1 (below_alloc (unhide NB) (.cells #[.int .u32 (St ([98, 99] ++ [100])).1, .int .u32 (St ([98, 99] ++ [100])).2.1, .int .u32 (St ([98, 99] ++ [100])).2.2] 53)))
  have P0 : Hid (Box (w2.alloc (.cells #[.int .u32 (St ([98, 99] ++ [100])).1, .int .u32 (St ([98, 99] ++ [100])).2.1, .int .u32 (St ([98, 99] ++ [100])).2.2] 53)).drew w1.heap.size (St [97, 98, 99])) := unhide B3
  have Q0 : Hid (Box (w2.alloc (.cells #[.int .u32 (St ([98, 99] ++ [100])).1, .int .u32 (St ([98, 99] ++ [100])).2.1, .int .u32 (St ([98, 99] ++ [100])).2.2] 53)).drew w2.heap.size (St [98, 99, 100])) := unhide B2
  have eqs := eq53
  clear NB B1 B2 B3
  refine start_ (n := 23) (S := fun w' => Box w' w1.heap.size (St [97, 98, 99]) ∧ Box w' w2.heap.size (St [98, 99, 100])) (ds := []) #[false, false, false, false, false, false, false, false, false, false, false, false, false, false, false, false, false, false, false, false, false, false, false] (by kernel_rfl) rfl rfl ⟨unhide P0, unhide Q0⟩ (fun hHeld => ?_)
  refine with_tabW tabT29_3 bitsT29_3 (fun HT_ HW_ => ?_)
  refine take_ (i := 0) (N := some 8) (v := ?_) (a' := ?_) #[true, false, false, false, false, false, false, false, false, false, false, false, false, false, false, false, false, false, false, false, false, false, false] rfl rfl (take_ofW HT_.out HW_.out (by kernel_rfl)) (fun _ _ _ h => h) (Or.inl ⟨by rfl, ?_⟩) hHeld ?_ ?_
  rotate_left
  · rintro w' ⟨h1_, h2_⟩
    obtain ⟨⟨_, _, _⟩, _, _⟩ := box3 h1_
    obtain ⟨⟨_, _, _⟩, _, _⟩ := box3 h2_
    go_simp
    with_reducible rfl
  rotate_left
  · simp only [Act.put, List.setIfInBounds_toArray, List.set_cons_zero, List.set_cons_succ, i64_w, i32_w]
    rfl
  refine one_ (i := 1) (N := some 9) #[true, true, false, false, false, false, false, false, false, false, false, false, false, false, false, false, false, false, false, false, false, false, false] rfl rfl (one_of HT_.out (by kernel_rfl)) (by decide) (fun K hK => ?_)
  refine goes_ Try.func33 (by kernel_rfl) rfl #[.agg #[.int .u32 (St [97, 98, 99]).1, .int .u32 (St [97, 98, 99]).2.1, .int .u32 (St [97, 98, 99]).2.2]] (by rfl) rfl rfl (by (try simp only [List.map_toArray, List.map_cons, List.map_nil]); first | done | rfl) ?_
  refine (value_St [97, 98, 99] _).mono ?_
  rintro e w10 ⟨rfl, hb⟩
  refine ⟨_, rfl, ?_⟩
  have NB1 := hide (below_step (unhide NB0) hb)
  have P1 := hide ((unhide P0).below hb)
  have Q1 := hide ((unhide Q0).below hb)
  clear hb NB0 P0 Q0
  refine hK.out _ _ ⟨unhide P1, unhide Q1⟩ (fun hHeld => ?_)
  clear hK K
  refine norm_ (a' := ?_) ?_ ?_
  rotate_left
  · show Act.put _ (some 9) _ = _
    simp only [Act.put, List.setIfInBounds_toArray, List.set_cons_zero, List.set_cons_succ, i64_w, i32_w]
    rfl
  refine pure_ (i := 2) (N := some 10) (v := ?_) (a' := ?_) #[true, true, true, false, false, false, false, false, false, false, false, false, false, false, false, false, false, false, false, false, false, false, false] rfl rfl (any_of HT_.out (by kernel_rfl)) (fun _ _ _ h => h) (Or.inl ⟨by rfl, ?_⟩) ?_ ?_
  rotate_left
  · intro w'
    go_simp
    with_reducible rfl
  rotate_left
  · simp only [Act.put, List.setIfInBounds_toArray, List.set_cons_zero, List.set_cons_succ, i64_w, i32_w]
    rfl
  refine pure_ (i := 3) (N := some 11) (v := ?_) (a' := ?_) #[true, true, true, true, false, false, false, false, false, false, false, false, false, false, false, false, false, false, false, false, false, false, false] rfl rfl (any_of HT_.out (by kernel_rfl)) (fun _ _ _ h => h) (Or.inl ⟨by rfl, ?_⟩) ?_ ?_
  rotate_left
  · intro w'
    go_simp
    with_reducible rfl
  rotate_left
  · simp only [Act.put, List.setIfInBounds_toArray, List.set_cons_zero, List.set_cons_succ, i64_w, i32_w]
    rfl
  refine take_ (i := 4) (N := some 12) (v := ?_) (a' := ?_) #[true, true, true, true, true, false, false, false, false, false, false, false, false, false, false, false, false, false, false, false, false, false, false] rfl rfl (take_ofW HT_.out HW_.out (by kernel_rfl)) (fun _ _ _ h => h) (Or.inl ⟨by rfl, ?_⟩) hHeld ?_ ?_
  rotate_left
  · rintro w' ⟨h1_, h2_⟩
    obtain ⟨⟨_, _, _⟩, _, _⟩ := box3 h1_
    obtain ⟨⟨_, _, _⟩, _, _⟩ := box3 h2_
    go_simp
    with_reducible rfl
  rotate_left
  · simp only [Act.put, List.setIfInBounds_toArray, List.set_cons_zero, List.set_cons_succ, i64_w, i32_w]
    rfl
  refine one_ (i := 5) (N := some 13) #[true, true, true, true, true, true, false, false, false, false, false, false, false, false, false, false, false, false, false, false, false, false, false] rfl rfl (one_of HT_.out (by kernel_rfl)) (by decide) (fun K hK => ?_)
  refine value_ (v := .slice (some ⟨w10.heap.size, 0, none⟩) 3 3) (w1 := w10.alloc (.cells #[.int .u8 98, .int .u8 99, .int .u8 100] 5)) (by rfl) rfl ?hrun ?_
  case hrun =>
    first | (go_simp; done) | (go_simp; rfl)
  have hb : Below w10.heap.size w10 (w10.alloc (.cells #[.int .u8 98, .int .u8 99, .int .u8 100] 5)) := below_alloc (Below.refl _ _) _
  have NB2 := hide (below_step (unhide NB1) hb)
  have P2 := hide ((unhide P1).below hb)
  have Q2 := hide ((unhide Q1).below hb)
  clear hb
  refine hK.out _ _ ⟨unhide P2, unhide Q2⟩ (fun hHeld => ?_)
  clear hK K
  refine norm_ (a' := ?_) ?_ ?_
  rotate_left
  · show Act.put _ (some 13) _ = _
    simp only [Act.put, List.setIfInBounds_toArray, List.set_cons_zero, List.set_cons_succ, i64_w, i32_w]
    rfl
  refine one_ (i := 6) (N := some 14) #[true, true, true, true, true, true, true, false, false, false, false, false, false, false, false, false, false, false, false, false, false, false, false] rfl rfl (one_of HT_.out (by kernel_rfl)) (by decide) (fun K hK => ?_)
  refine value_ (v := .slice (some ⟨w10.heap.size, 0, none⟩) 3 3) (w1 := w10.alloc (.cells #[.int .u8 98, .int .u8 99, .int .u8 100] 5 (3, 4))) (by rfl) rfl ?hrun ?_
  case hrun =>
    first | (go_simp; done) | (go_simp; rfl)
  have hb : Below w10.heap.size w10 (w10.alloc (.cells #[.int .u8 98, .int .u8 99, .int .u8 100] 5 (3, 4))) := below_alloc (Below.refl _ _) _
  clear NB2 P2 Q2
  have NB2 := hide (below_step (unhide NB1) hb)
  have P2 := hide ((unhide P1).below hb)
  have Q2 := hide ((unhide Q1).below hb)
  clear hb NB1 P1 Q1
  refine hK.out _ _ ⟨unhide P2, unhide Q2⟩ (fun hHeld => ?_)
  clear hK K
  refine norm_ (a' := ?_) ?_ ?_
  rotate_left
  · show Act.put _ (some 14) _ = _
    simp only [Act.put, List.setIfInBounds_toArray, List.set_cons_zero, List.set_cons_succ, i64_w, i32_w]
    rfl
  refine one_ (i := 7) (N := some 15) #[true, true, true, true, true, true, true, true, false, false, false, false, false, false, false, false, false, false, false, false, false, false, false] rfl rfl (one_of HT_.out (by kernel_rfl)) (by decide) (fun K hK => ?_)
  refine goes_ Try.func32 (by kernel_rfl) rfl #[.slice (some ⟨w10.heap.size, 0, none⟩) 3 3] (by rfl) rfl rfl (by (try simp only [List.map_toArray, List.map_cons, List.map_nil]); first | done | rfl) ?_
  refine (of_any _ 3 [98, 99, 100] _ (row3 w10 98 99 100) (by simp) (unhide Y2) (by simp)).mono ?_
  rintro e w13 ⟨rfl, hb⟩
  refine ⟨_, rfl, ?_⟩
  have NB3 := hide (below_step (unhide NB2) hb)
  have P3 := hide ((unhide P2).below hb)
  have Q3 := hide ((unhide Q2).below hb)
  clear hb NB2 P2 Q2
  refine hK.out _ _ ⟨unhide P3, unhide Q3⟩ (fun hHeld => ?_)
  clear hK K
  refine norm_ (a' := ?_) ?_ ?_
  rotate_left
  · show Act.put _ (some 15) _ = _
    simp only [Act.put, List.setIfInBounds_toArray, List.set_cons_zero, List.set_cons_succ, i64_w, i32_w]
    rfl
  refine pure_ (i := 8) (N := some 16) (v := ?_) (a' := ?_) #[true, true, true, true, true, true, true, true, true, false, false, false, false, false, false, false, false, false, false, false, false, false, false] rfl rfl (any_of HT_.out (by kernel_rfl)) (fun _ _ _ h => h) (Or.inl ⟨by rfl, ?_⟩) ?_ ?_
  rotate_left
  · intro w'
    go_simp
    with_reducible rfl
  rotate_left
  · simp only [Act.put, List.setIfInBounds_toArray, List.set_cons_zero, List.set_cons_succ, i64_w, i32_w]
    rfl
  refine pure_ (i := 9) (N := some 17) (v := ?_) (a' := ?_) #[true, true, true, true, true, true, true, true, true, true, false, false, false, false, false, false, false, false, false, false, false, false, false] rfl rfl (any_of HT_.out (by kernel_rfl)) (fun _ _ _ h => h) (Or.inl ⟨by rfl, ?_⟩) ?_ ?_
  rotate_left
  · intro w'
    go_simp
    with_reducible rfl
  rotate_left
  · simp only [Act.put, List.setIfInBounds_toArray, List.set_cons_zero, List.set_cons_succ, i64_w, i32_w]
    rfl
  refine pure_ (i := 10) (N := some 18) (v := ?_) (a' := ?_) #[true, true, true, true, true, true, true, true, true, true, true, false, false, false, false, false, false, false, false, false, false, false, false] rfl rfl (any_of HT_.out (by kernel_rfl)) (fun _ _ _ h => h) (Or.inl ⟨by rfl, ?_⟩) ?_ ?_
  rotate_left
  · intro w'
    go_simp
    with_reducible rfl
  rotate_left
  · simp only [Act.put, List.setIfInBounds_toArray, List.set_cons_zero, List.set_cons_succ, i64_w, i32_w]
    rfl
  refine take_ (i := 11) (N := some 19) (v := ?_) (a' := ?_) #[true, true, true, true, true, true, true, true, true, true, true, true, false, false, false, false, false, false, false, false, false, false, false] rfl rfl (take_ofW HT_.out HW_.out (by kernel_rfl)) (fun _ _ _ h => h) (Or.inl ⟨by rfl, ?_⟩) hHeld ?_ ?_
  rotate_left
  · rintro w' ⟨h1_, h2_⟩
    obtain ⟨⟨_, _, _⟩, _, _⟩ := box3 h1_
    obtain ⟨⟨_, _, _⟩, _, _⟩ := box3 h2_
    go_simp
    with_reducible rfl
  rotate_left
  · simp only [Act.put, List.setIfInBounds_toArray, List.set_cons_zero, List.set_cons_succ, i64_w, i32_w]
    rfl
  refine one_ (i := 12) (N := some 20) #[true, true, true, true, true, true, true, true, true, true, true, true, true, false, false, false, false, false, false, false, false, false, false] rfl rfl (one_of HT_.out (by kernel_rfl)) (by decide) (fun K hK => ?_)
  refine goes_ Try.func31 (by kernel_rfl) rfl #[.agg #[.int .u32 (St [98, 99, 100]).1, .int .u32 (St [98, 99, 100]).2.1, .int .u32 (St [98, 99, 100]).2.2]] (by rfl) rfl rfl (by (try simp only [List.map_toArray, List.map_cons, List.map_nil]); first | done | rfl) ?_
  refine (size_St [98, 99, 100] _ (by simp)).mono ?_
  rintro e w14 ⟨rfl, hb⟩
  refine ⟨_, rfl, ?_⟩
  have NB4 := hide (below_step (unhide NB3) hb)
  have P4 := hide ((unhide P3).below hb)
  have Q4 := hide ((unhide Q3).below hb)
  clear hb NB3 P3 Q3
  refine hK.out _ _ ⟨unhide P4, unhide Q4⟩ (fun hHeld => ?_)
  clear hK K
  refine norm_ (a' := ?_) ?_ ?_
  rotate_left
  · show Act.put _ (some 20) _ = _
    simp only [Act.put, List.setIfInBounds_toArray, List.set_cons_zero, List.set_cons_succ, i64_w, i32_w]
    rfl
  refine pure_ (i := 13) (N := some 21) (v := ?_) (a' := ?_) #[true, true, true, true, true, true, true, true, true, true, true, true, true, true, false, false, false, false, false, false, false, false, false] rfl rfl (any_of HT_.out (by kernel_rfl)) (fun _ _ _ h => h) (Or.inl ⟨by rfl, ?_⟩) ?_ ?_
  rotate_left
  · intro w'
    go_simp
    with_reducible rfl
  rotate_left
  · simp only [Act.put, List.setIfInBounds_toArray, List.set_cons_zero, List.set_cons_succ, i64_w, i32_w]
    rfl
  refine pure_ (i := 14) (N := some 22) (v := ?_) (a' := ?_) #[true, true, true, true, true, true, true, true, true, true, true, true, true, true, true, false, false, false, false, false, false, false, false] rfl rfl (any_of HT_.out (by kernel_rfl)) (fun _ _ _ h => h) (Or.inl ⟨by rfl, ?_⟩) ?_ ?_
  rotate_left
  · intro w'
    go_simp
    with_reducible rfl
  rotate_left
  · simp only [Act.put, List.setIfInBounds_toArray, List.set_cons_zero, List.set_cons_succ, i64_w, i32_w]
    rfl
  refine pure_ (i := 15) (N := some 23) (v := ?_) (a' := ?_) #[true, true, true, true, true, true, true, true, true, true, true, true, true, true, true, true, false, false, false, false, false, false, false] rfl rfl (any_of HT_.out (by kernel_rfl)) (fun _ _ _ h => h) (Or.inl ⟨by rfl, ?_⟩) ?_ ?_
  rotate_left
  · intro w'
    go_simp
    with_reducible rfl
  rotate_left
  · simp only [Act.put, List.setIfInBounds_toArray, List.set_cons_zero, List.set_cons_succ, i64_w, i32_w]
    rfl
  refine take_ (i := 16) (N := some 24) (v := ?_) (a' := ?_) #[true, true, true, true, true, true, true, true, true, true, true, true, true, true, true, true, true, false, false, false, false, false, false] rfl rfl (take_ofW HT_.out HW_.out (by kernel_rfl)) (fun _ _ _ h => h) (Or.inl ⟨by rfl, ?_⟩) hHeld ?_ ?_
  rotate_left
  · rintro w' ⟨h1_, h2_⟩
    obtain ⟨⟨_, _, _⟩, _, _⟩ := box3 h1_
    obtain ⟨⟨_, _, _⟩, _, _⟩ := box3 h2_
    go_simp
    with_reducible rfl
  rotate_left
  · simp only [Act.put, List.setIfInBounds_toArray, List.set_cons_zero, List.set_cons_succ, i64_w, i32_w]
    rfl
  refine take_ (i := 18) (N := some 26) (v := ?_) (a' := ?_) #[true, true, true, true, true, true, true, true, true, true, true, true, true, true, true, true, true, false, true, false, false, false, false] rfl rfl (take_ofW HT_.out HW_.out (by kernel_rfl)) (fun _ _ _ h => h) (Or.inl ⟨by rfl, ?_⟩) hHeld ?_ ?_
  rotate_left
  · rintro w' ⟨h1_, h2_⟩
    obtain ⟨⟨_, _, _⟩, _, _⟩ := box3 h1_
    obtain ⟨⟨_, _, _⟩, _, _⟩ := box3 h2_
    go_simp
    with_reducible rfl
  rotate_left
  · simp only [Act.put, List.setIfInBounds_toArray, List.set_cons_zero, List.set_cons_succ, i64_w, i32_w]
    rfl
  refine one_ (i := 17) (N := some 25) #[true, true, true, true, true, true, true, true, true, true, true, true, true, true, true, true, true, true, true, false, false, false, false] rfl rfl (one_of HT_.out (by kernel_rfl)) (by decide) (fun K hK => ?_)
  refine goes_ Try.func33 (by kernel_rfl) rfl #[.agg #[.int .u32 (St [98, 99, 100]).1, .int .u32 (St [98, 99, 100]).2.1, .int .u32 (St [98, 99, 100]).2.2]] (by rfl) rfl rfl (by (try simp only [List.map_toArray, List.map_cons, List.map_nil]); first | done | rfl) ?_
  refine (value_St [98, 99, 100] _).mono ?_
  rintro e w14 ⟨rfl, hb⟩
  refine ⟨_, rfl, ?_⟩
  have NB5 := hide (below_step (unhide NB4) hb)
  have P5 := hide ((unhide P4).below hb)
  have Q5 := hide ((unhide Q4).below hb)
  clear hb NB4 P4 Q4
  refine hK.out _ _ ⟨unhide P5, unhide Q5⟩ (fun hHeld => ?_)
  clear hK K
  refine norm_ (a' := ?_) ?_ ?_
  rotate_left
  · show Act.put _ (some 25) _ = _
    simp only [Act.put, List.setIfInBounds_toArray, List.set_cons_zero, List.set_cons_succ, i64_w, i32_w]
    rfl
  refine one_ (i := 19) (N := some 27) #[true, true, true, true, true, true, true, true, true, true, true, true, true, true, true, true, true, true, true, true, false, false, false] rfl rfl (one_of HT_.out (by kernel_rfl)) (by decide) (fun K hK => ?_)
  refine goes_ Try.func33 (by kernel_rfl) rfl #[.agg #[.int .u32 (St [97, 98, 99]).1, .int .u32 (St [97, 98, 99]).2.1, .int .u32 (St [97, 98, 99]).2.2]] (by rfl) rfl rfl (by (try simp only [List.map_toArray, List.map_cons, List.map_nil]); first | done | rfl) ?_
  refine (value_St [97, 98, 99] _).mono ?_
  rintro e w15 ⟨rfl, hb⟩
  refine ⟨_, rfl, ?_⟩
  have NB6 := hide (below_step (unhide NB5) hb)
  have P6 := hide ((unhide P5).below hb)
  have Q6 := hide ((unhide Q5).below hb)
  clear hb NB5 P5 Q5
  refine hK.out _ _ ⟨unhide P6, unhide Q6⟩ (fun hHeld => ?_)
  clear hK K
  refine norm_ (a' := ?_) ?_ ?_
  rotate_left
  · show Act.put _ (some 27) _ = _
    simp only [Act.put, List.setIfInBounds_toArray, List.set_cons_zero, List.set_cons_succ, i64_w, i32_w]
    rfl
  refine pure_ (i := 20) (N := some 28) (v := ?_) (a' := ?_) #[true, true, true, true, true, true, true, true, true, true, true, true, true, true, true, true, true, true, true, true, true, false, false] rfl rfl (any_of HT_.out (by kernel_rfl)) (fun _ _ _ h => h) (Or.inl ⟨by rfl, ?_⟩) ?_ ?_
  rotate_left
  · intro w'
    go_simp
    with_reducible rfl
  rotate_left
  · simp only [Act.put, List.setIfInBounds_toArray, List.set_cons_zero, List.set_cons_succ, i64_w, i32_w]
    rfl
  refine pure_ (i := 21) (N := some 29) (v := ?_) (a' := ?_) #[true, true, true, true, true, true, true, true, true, true, true, true, true, true, true, true, true, true, true, true, true, true, false] rfl rfl (any_of HT_.out (by kernel_rfl)) (fun _ _ _ h => h) (Or.inl ⟨by rfl, ?_⟩) ?_ ?_
  rotate_left
  · intro w'
    go_simp
    with_reducible rfl
  rotate_left
  · simp only [Act.put, List.setIfInBounds_toArray, List.set_cons_zero, List.set_cons_succ, i64_w, i32_w]
    rfl
  refine pure_ (i := 22) (N := some 0) (v := ?_) (a' := ?_) #[true, true, true, true, true, true, true, true, true, true, true, true, true, true, true, true, true, true, true, true, true, true, true] rfl rfl (any_of HT_.out (by kernel_rfl)) (fun _ _ _ h => h) (Or.inl ⟨by rfl, ?_⟩) ?_ ?_
  rotate_left
  · intro w'
    go_simp
    with_reducible rfl
  rotate_left
  · simp only [Act.put, List.setIfInBounds_toArray, List.set_cons_zero, List.set_cons_succ, i64_w, i32_w]
    rfl
  refine done_ (done_of HT_.out (by kernel_rfl)) ?_
  go_wp2
  go_ret
  exact ⟨rfl, unhide NB6⟩

end Go.Proofs.Ytjdkeicjhmdcfaa.Wk
