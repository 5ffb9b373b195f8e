import Derived.Test.YtgoephcembgmcaaSh6
set_option linter.unusedSimpArgs false
set_option linter.unusedVariables false
namespace Go.Proofs.Ytgoephcembgmcaa.Sh
open Go.RowKit Go.Proofs.YtgoephcembgmcaaW.PrintWords Go.Proofs.YtgoephcembgmcaaW.PrintLast Go.Proofs.YtgoephcembgmcaaW.PrintMore Go.Proofs.Ytgoephcembgmcaa.Wk Go.Proofs.Ytgoephcembgmcaa.FrM Go.Proofs.Ytgoephcembgmcaa.Fr
open Go.Proofs.Ytgoephcembgmcaa.WkM (w64 Bytes take_snoc)
/-! A sum as digits to the base sixteen. -/
def hexd (d : Nat) : Int := if d < 10 then ((48 + d : Nat) : Int) else ((87 + d : Nat) : Int)
def hexs : List Int → List Int
  | [] => []
  | x :: t => hexd (x / 16).toNat :: hexd (x % 16).toNat :: hexs t
theorem hexs_snoc : ∀ (l : List Int) (x : Int), hexs (l ++ [x]) = hexs l ++ [hexd (x / 16).toNat, hexd (x % 16).toNat]
  | [], x => rfl
  | y :: t, x => by rw [List.cons_append, hexs, hexs_snoc t x, hexs]; rfl
theorem hexs_len : ∀ l : List Int, (hexs l).length = 2 * l.length
  | [] => rfl
  | x :: t => by rw [hexs, List.length_cons, List.length_cons, hexs_len t, List.length_cons]; omega
theorem and_15 : ∀ a : Nat, a < 256 → bits .and .u8 (a : Int) 15 = ((a % 16 : Nat) : Int) := by decide +kernel
set_option maxRecDepth 100000 in
theorem idx_hex (d : Nat) (hd : d < 16) (W : World) : (Instr.index 9 (.string { data := #[48, 49, 50, 51, 52, 53, 54, 55, 56, 57, 97, 98, 99, 100, 101, 102] }) (.int .u8 (d : Int))).run Try.prog W = .ok (.int .u8 (hexd d)) W := by
  have hu := Try.underlying9
  have h : d = 0 ∨ d = 1 ∨ d = 2 ∨ d = 3 ∨ d = 4 ∨ d = 5 ∨ d = 6 ∨ d = 7 ∨ d = 8 ∨ d = 9 ∨ d = 10 ∨ d = 11 ∨ d = 12 ∨ d = 13 ∨ d = 14 ∨ d = 15 := by omega
  rcases h with h | h | h | h | h | h | h | h | h | h | h | h | h | h | h | h <;> (subst h; simp [Instr.index, run_underlying hu, asIntOf]; rfl)
theorem own_two (W : World) (base : Nat) (hb : base ≤ W.heap.size) (a b : Int) : Own (W.alloc (.cells #[.int .u8 a, .int .u8 b] 5)) base (.slice (some ⟨W.heap.size, 0, none⟩) 2 2) [a, b] := by
  have h2 := World.ownsRow_lit (base := base) (e := 5) (size := 1) W #[.int .u8 a, .int .u8 b] 2 hb (by simp [maxLen]) (by simp)
  exact Kd.R_of_own (enc := Value.int .u8) (xs := [a, b]) (by simpa [encs] using h2) (fun k hk => trivial)
theorem idx32 (xs : List Int) (i : Nat) (hl : xs.length = 32) (hi : i < 32) (W : World) : (Instr.index 25 (.agg (bys xs)) (.int .i64 (i : Int))).run Try.prog W = .ok (.int .u8 (rd xs (i : Int))) W := by
  have h1 := bys_get xs i (by omega)
  have hu := Try.underlying25
  have d : (i : Int) < 32 := by omega
  have hz := size5
  have hs : (sizeOf 5).run Try.prog W = .ok 1 W := by
    cases hq : Try.prog.info? 5 with
    | none => simp [hq] at hz
    | some i => simp [sizeOf, typeInfo, hq] at hz ⊢; exact hz
  have ha : (isAgg 5).run Try.prog W = .ok false W := by
    have h5 := Try.underlying5
    unfold isAgg
    rw [Sem.run_bind, run_underlying h5 W]
    rfl
  simp [Instr.index, run_underlying hu, asIntOf, d, part, h1, hs, ha]
  omega
def T4_5 : Bool × List (List Nat × List Nat) := (true, [([], []), ([], []), ([1], [1]), ([2], [2]), ([], []), ([4], [4]), ([5], [5]), ([3, 6], [3, 6]), ([0, 7], [0, 7]), ([8, 8, 0, 1, 2, 3, 4, 5, 6, 7, 8], [0, 8])])
def BT4_5 : List Nat := [0, 0, 2, 6, 0, 16, 48, 126, 255, 511]
theorem tabT4_5 : rtab .any (opsOf Try.f4 5) = T4_5 := by kernel_rfl
theorem bitsT4_5 : waitsOk T4_5.2 BT4_5 = true := by kernel_rfl

set_option maxHeartbeats 2000000 in
set_option maxRecDepth 100000 in
theorem text_sum (xs : List Int) (w : World) (hl : Bytes xs) (hn : xs.length = 32) :
    Calls Try.prog 4 #[.agg (bys xs)] w fun e w' => e = .returned (.string (strOfNums (hexs xs))) ∧ Below w.heap.size w w' := by
  have HL := hide hl
  have SZ : Hid ((Try.prog.info? 25).map (·.size) = some (bys xs).size) := by show _ = _; rw [bys_size, hn]; exact size25
  clear hl
  go_enter Try.func4, Try.ntmps4
  go_wp2_with (refine wpList_load_row rfl 25 _ rfl w.heap.size rfl 25 _ (0, 0) _ (blk_new w (.cells (bys xs) 25)) Try.underlying25 rfl (unhide SZ) ?_)
  have B0 : Hid (Below w.heap.size w (w.alloc (.cells (bys xs) 25))) := below_alloc (Below.refl _ _) _
  go_loopg [3, 7] 32 (fun kq v3 v7 wr => ∃ (i : Nat) (ys : List Int) (A : Option Addr) (c : Nat), v3 = .slice A ys.length c ∧ v7 = .int .i64 (i : Int) ∧ Hid (i + kq = 32) ∧ Hid (ys = hexs (xs.take i)) ∧ Hid (Own wr w.heap.size (.slice A ys.length c) ys) ∧ Hid (Below w.heap.size w wr))
  case atStart => exact ⟨0, [], none, 0, rfl, rfl, Nat.zero_add _, rfl, Kd.R_nil _ _ _ _ _, unhide B0⟩
  case round =>
    clear B0
    obtain ⟨i, ys, A, c, rfl, rfl, HI, HY, HO, HB⟩ := hrel
    by_cases hlt : i < 32
    · obtain ⟨x, hx⟩ : ∃ x, x = rd xs (i : Int) := ⟨_, rfl⟩
      have hb := (unhide HL).rd_ (i : Int)
      rw [← hx] at hb
      obtain ⟨m, rfl⟩ := Int.eq_ofNat_of_zero_le hb.1
      have hidx : ∀ W : World, (Instr.index 25 (.agg (bys xs)) (.int .i64 (i : Int))).run Try.prog W = .ok (.int .u8 (m : Int)) W := by rw [hx]; exact idx32 xs i hn hlt
      obtain ⟨d1, hd1⟩ : ∃ d, d = m / 16 := ⟨_, rfl⟩
      obtain ⟨d2, hd2⟩ : ∃ d, d = m % 16 := ⟨_, rfl⟩
      have e1 : (m : Int) / 16 = (d1 : Int) := by omega
      have e2 : bits .and .u8 (m : Int) 15 = (d2 : Int) := by rw [hd2]; exact and_15 m (by omega)
      have k1 := idx_hex d1 (by omega)
      have k2 := idx_hex d2 (by omega)
      obtain ⟨y1, hy1⟩ : ∃ y, y = hexd d1 := ⟨_, rfl⟩
      obtain ⟨y2, hy2⟩ : ∃ y, y = hexd d2 := ⟨_, rfl⟩
      rw [← hy1] at k1
      rw [← hy2] at k2
      have d32 : (i : Int) < 32 := by omega
      have HYL : Hid (ys.length ≤ 64) := by show _ ≤ _; rw [unhide HY, hexs_len, List.length_take]; omega
      have HT : Hid (ys ++ [y1, y2] = hexs (xs.take (i + 1))) := by
        show _ = _
        rw [take_snoc xs i (by omega), hexs_snoc, unhide HY, ← hx, hy1, hy2, hd1, hd2]
        rfl
      have HLT := hide hlt
      have HOW : Hid (Own wr.drew w.heap.size (.slice A ys.length c) ys) := Kd.R_drew (unhide HO)
      have HBW : Hid (Below w.heap.size w wr.drew) := below_drew (unhide HB)
      have OA : Hid (Own (wr.drew.alloc (.cells #[.int .u8 y1, .int .u8 y2] 5)) w.heap.size (.slice A ys.length c) ys) := Kd.R_alloc (unhide HOW) _
      have BA : Hid (Below w.heap.size w (wr.drew.alloc (.cells #[.int .u8 y1, .int .u8 y2] 5))) := below_alloc (unhide HBW) _
      have CA : Hid ((Kd.int .u8).C (wr.drew.alloc (.cells #[.int .u8 y1, .int .u8 y2] 5)) (some ⟨wr.heap.size, 0, none⟩) 2 [y1, y2]) := (own_reads (own_two wr.drew wr.drew.heap.size (Nat.le_refl _) y1 y2)).2.2
      clear hlt hb hx hd1 hd2 hy1 hy2
      go_wp2
      clear hidx d32
      refine start_ (n := 10) (S := fun _ => True) (ds := []) #[false, false, false, false, false, false, false, false, false, false] (by kernel_rfl) rfl rfl trivial (fun hHeld => ?_)
      refine with_tabW tabT4_5 bitsT4_5 (fun HT_ HW_ => ?_)
      refine pure_ (i := 0) (N := some 10) (v := ?_) (a' := ?_) #[true, false, false, false, false, false, false, false, false, false] rfl rfl (any_of HT_.out (by kernel_rfl)) (fun _ _ _ h => h) (Or.inl ⟨by rfl, ?_⟩) ?_ ?_
      rotate_left
      · intro w'
        go_simp
        with_reducible rfl
      rotate_left
      · simp only [Act.put, List.setIfInBounds_toArray, List.set_cons_zero, List.set_cons_succ, i64_w, i32_w]
        rfl
      refine pure_ (i := 1) (N := some 11) (v := ?_) (a' := ?_) #[true, true, false, false, false, false, false, false, false, false] rfl rfl (any_of HT_.out (by kernel_rfl)) (fun _ _ _ h => h) (Or.inl ⟨by rfl, ?_⟩) ?_ ?_
      rotate_left
      · intro w'
        go_simp
        with_reducible rfl
      rotate_left
      · simp only [Act.put, List.setIfInBounds_toArray, List.set_cons_zero, List.set_cons_succ, i64_w, i32_w]
        rfl
      refine pure_ (i := 2) (N := some 12) (v := ?_) (a' := ?_) #[true, true, true, false, false, false, false, false, false, false] rfl rfl (any_of HT_.out (by kernel_rfl)) (fun _ _ _ h => h) (Or.inl ⟨by rfl, ?_⟩) ?_ ?_
      rotate_left
      · intro w'
        go_simp
        with_reducible rfl
      rotate_left
      · simp only [Act.put, List.setIfInBounds_toArray, List.set_cons_zero, List.set_cons_succ, i64_w, i32_w]
        rfl
      refine take_ (i := 3) (N := some 13) (v := ?_) (a' := ?_) #[true, true, true, true, false, false, false, false, false, false] rfl rfl (take_ofW HT_.out HW_.out (by kernel_rfl)) (fun _ _ _ h => h) (Or.inl ⟨by rfl, ?_⟩) hHeld ?_ ?_
      rotate_left
      · rintro w' _
        go_simp
        with_reducible rfl
      rotate_left
      · simp only [Act.put, List.setIfInBounds_toArray, List.set_cons_zero, List.set_cons_succ, i64_w, i32_w]
        rfl
      refine pure_ (i := 4) (N := some 14) (v := ?_) (a' := ?_) #[true, true, true, true, true, false, false, false, false, false] rfl rfl (any_of HT_.out (by kernel_rfl)) (fun _ _ _ h => h) (Or.inl ⟨by rfl, ?_⟩) ?_ ?_
      rotate_left
      · intro w'
        go_simp
        with_reducible rfl
      rotate_left
      · simp only [Act.put, List.setIfInBounds_toArray, List.set_cons_zero, List.set_cons_succ, i64_w, i32_w]
        rfl
      refine pure_ (i := 5) (N := some 15) (v := ?_) (a' := ?_) #[true, true, true, true, true, true, false, false, false, false] rfl rfl (any_of HT_.out (by kernel_rfl)) (fun _ _ _ h => h) (Or.inl ⟨by rfl, ?_⟩) ?_ ?_
      rotate_left
      · intro w'
        go_simp
        with_reducible rfl
      rotate_left
      · simp only [Act.put, List.setIfInBounds_toArray, List.set_cons_zero, List.set_cons_succ, i64_w, i32_w]
        rfl
      refine take_ (i := 6) (N := some 16) (v := ?_) (a' := ?_) #[true, true, true, true, true, true, true, false, false, false] rfl rfl (take_ofW HT_.out HW_.out (by kernel_rfl)) (fun _ _ _ h => h) (Or.inl ⟨by rfl, ?_⟩) hHeld ?_ ?_
      rotate_left
      · rintro w' _
        go_simp
        with_reducible rfl
      rotate_left
      · simp only [Act.put, List.setIfInBounds_toArray, List.set_cons_zero, List.set_cons_succ, i64_w, i32_w]
        rfl
      refine one_ (i := 7) (N := some 17) #[true, true, true, true, true, true, true, true, false, false] rfl rfl (one_of HT_.out (by kernel_rfl)) (by decide) (fun K hK => ?_)
      refine value_ (v := .slice (some ⟨wr.heap.size, 0, none⟩) 2 2) (w1 := wr.drew.alloc (.cells #[.int .u8 y1, .int .u8 y2] 5)) (by rfl) rfl ?hrun ?_
      case hrun =>
        first | (go_simp; done) | (go_simp; rfl)
      clear hHeld
      refine hK.out _ _ trivial (fun hHeld => ?_)
      clear hK K
      refine norm_ (a' := ?_) ?_ ?_
      rotate_left
      · show Act.put _ (some 17) _ = _
        simp only [Act.put, List.setIfInBounds_toArray, List.set_cons_zero, List.set_cons_succ, i64_w, i32_w]
        rfl
      refine one_ (i := 8) (N := some 18) #[true, true, true, true, true, true, true, true, true, false] rfl rfl (one_of HT_.out (by kernel_rfl)) (by decide) (fun K hK => ?_)
      refine Kd.R_append_rows_step (Kd.int .u8) (Rr := (Kd.int .u8).K (wr.drew.alloc (.cells #[.int .u8 y1, .int .u8 y2] 5))) (w0 := w) w.heap.size (by rfl) (.tmp 10) (.tmp 17) 22 5 (.int .u8 0) 1 rfl Try.underlying22 info5 rfl (by decide) (by decide) (.slice A ys.length c) ys [y1, y2] (some ⟨wr.heap.size, 0, none⟩) 2 2 (fun _ => True) (fun _ => False) rfl rfl (unhide OA) (unhide CA) (fun x cs h => h) (fun k h => h.elim) (fun _ _ => trivial) (unhide BA) (unhide BA).size (by have := unhide HYL; omega) ?_
      intro v7 w7 hR7 hB7 hg7 hat7
      rw [unhide HT] at hR7
      obtain ⟨A7, c7, rfl⟩ := Kd.R_slice hR7
      obtain ⟨zs, hzs⟩ : ∃ z, z = hexs (xs.take (i + 1)) := ⟨_, rfl⟩
      rw [← hzs] at hR7 ⊢
      have R7 := hide hR7
      have B7 := hide hB7
      have HZS := hide hzs
      clear hR7 hB7 hg7 hat7 hzs
      clear hHeld
      refine hK.out _ _ trivial (fun hHeld => ?_)
      clear hK K
      refine norm_ (a' := ?_) ?_ ?_
      rotate_left
      · show Act.put _ (some 18) _ = _
        simp only [Act.put, List.setIfInBounds_toArray, List.set_cons_zero, List.set_cons_succ, i64_w, i32_w]
        rfl
      refine pure_ (i := 9) (N := some 3) (v := ?_) (a' := ?_) #[true, true, true, true, true, true, true, true, true, true] rfl rfl (any_of HT_.out (by kernel_rfl)) (fun _ _ _ h => h) (Or.inl ⟨by rfl, ?_⟩) ?_ ?_
      rotate_left
      · intro w'
        go_simp
        with_reducible rfl
      rotate_left
      · simp only [Act.put, List.setIfInBounds_toArray, List.set_cons_zero, List.set_cons_succ, i64_w, i32_w]
        rfl
      refine done_ (done_of HT_.out (by kernel_rfl)) ?_
      clear HT_ HW_ hHeld
      clear e1 e2 k1 k2
      go_wp2
      go_roundg (gk - 1)
      case measure => have := unhide HI; have := unhide HLT; omega
      case rel =>
        have := unhide HI
        have := unhide HLT
        exact ⟨i + 1, zs, A7, c7, rfl, by first | rw [Int.natCast_add, Int.natCast_one, w64 _ (by omega) (by omega)] | rw [Int.natCast_add, Int.natCast_one], by show i + 1 + (gk - 1) = 32; omega, unhide HZS, unhide R7, unhide B7⟩
    · have hi : i = 32 := by have := unhide HI; omega
      subst hi
      have hcv : (convert 22 9 (.slice A ys.length c)).run Try.prog wr = .ok (.string (strOfNums ys)) wr := Kd.C_string Try.underlying22 Try.underlying5 Try.underlying9 (own_reads (unhide HO)).2.2
      go_wp2
      go_ret
      rw [unhide HY, List.take_of_length_le (by omega)]
      exact ⟨rfl, unhide HB⟩
end Go.Proofs.Ytgoephcembgmcaa.Sh
