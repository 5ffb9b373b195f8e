import Derived.Test.YtgoephcembgmcaaFr2
import Derived.Test.YtgoephcembgmcaaWGuard
import Derived.ArgAppend
set_option linter.unusedSimpArgs false
set_option linter.unusedVariables false
namespace Go.Proofs.Ytgoephcembgmcaa.Fr
open Go.RowKit Go.Proofs.YtgoephcembgmcaaW.PrintWords Go.Proofs.YtgoephcembgmcaaW.PrintLast Go.Proofs.YtgoephcembgmcaaW.PrintMore Go.Proofs.Ytgoephcembgmcaa.Wk Go.Proofs.Ytgoephcembgmcaa.FrM
open Go.Proofs.Ytgoephcembgmcaa.WkM (w64)
/-- A frame lies in block g. -/
def Frm (w : World) (g : Nat) (k s : Int) (v : Value) : Prop := w.heap[g]? = some (.cells #[.int .i64 k, .int .i64 s, v] 37 (0, 0))
theorem Frm.cells {w : World} {g : Nat} {k s : Int} {v : Value} (h : Frm w g k s v) :
    (w.cell? ⟨g, 0, none⟩ = some (.int .i64 k) ∧ w.cell? ⟨g, 1, none⟩ = some (.int .i64 s) ∧ w.cell? ⟨g, 2, none⟩ = some v) ∧ (w.frozen? ⟨g, 0, none⟩ = false ∧ w.frozen? ⟨g, 1, none⟩ = false ∧ w.frozen? ⟨g, 2, none⟩ = false) ∧ g < w.heap.size :=
  ⟨⟨(blk_cell h 0).trans rfl, (blk_cell h 1).trans rfl, (blk_cell h 2).trans rfl⟩, ⟨blk_frozen h 0, blk_frozen h 1, blk_frozen h 2⟩, blk_lt h⟩
theorem Frm.ne {w : World} {g base : Nat} {k s : Int} {v u : Value} {xs : List Int} (h : Frm w g k s v) (ho : Own w base u xs) : some g ≠ u.ownBlock := Kd.R_ne ho h (by decide)
theorem or_40 : bits .or .i64 40 3 = 43 := by decide +kernel
/-- An append of a byte to a full row moves it. -/
theorem grow_run (W : World) (ad : Addr) (xs : List Int) (p : Int) (hC : Kd.C (Kd.int .u8) W (some ad) xs.length xs) (hl : xs.length ≤ 1000000) :
    ∃ v1 w1, (Builtin.append_ #[22, 22] 22 #[.slice (some ad) xs.length xs.length, .slice (some ⟨W.heap.size, 0, none⟩) 1 1]).run Try.prog (W.alloc (.cells #[.int .u8 p] 5)) = .ok v1 w1 ∧ Own w1 W.heap.size v1 (xs ++ [p]) ∧ Below W.heap.size W w1 := by
  obtain ⟨i0, hi, hz, hsz, hby⟩ := info_parts info5
  have hC2 := Kd.C_alloc hC (.cells #[.int .u8 p] 5)
  obtain ⟨v1, w1, hr, ho, hg⟩ := run_append_arg_grows (P := Try.prog) (w := W.alloc (.cells #[.int .u8 p] 5)) 22 22 5 i0 (.int .u8 0) 1 1 Try.underlying22 hi hz hsz hby rfl (by decide) ad xs.length xs.length (xs.map (Value.int .u8)) (by rw [List.length_map, Nat.mul_one])
    (fun j u hj => by
      have hj2 : j < xs.length := by
        have := (List.getElem?_eq_some_iff.1 hj).1
        rwa [List.length_map] at this
      obtain ⟨ad', ha, hc⟩ := Kd.at_int hC2 (j : Int) (by omega) (by omega)
      cases ha
      rw [Int.toNat_natCast] at hc
      rw [hc]
      rw [List.getElem?_map, List.getElem?_eq_getElem hj2] at hj
      rw [← hj]
      unfold rd
      rw [Int.toNat_natCast, List.getD_eq_getElem?_getD, List.getElem?_eq_getElem hj2]
      rfl)
    ⟨W.heap.size, 0, none⟩ 1 1 [.int .u8 p] rfl (by simpa using World.news_of_block (cs := #[Value.int .u8 p]) (t := 5) (fr := (0, 0)) (heap_alloc_new W (.cells #[.int .u8 p] 5))) (by omega) (by simp only [maxLen]; omega) (by omega)
  refine ⟨v1, w1, hr, ?_, ?_⟩
  · have h2 : (Kd.int .u8).R 5 w1 (W.alloc (.cells #[.int .u8 p] 5)).heap.size (fun _ => True) v1 (xs ++ [p]) := Kd.R_of_own (enc := Value.int .u8) (xs := xs ++ [p]) (by rw [List.length_append, List.length_singleton]; simpa [encs] using ho) (fun k hk => trivial)
    exact Kd.R_lower h2 (by rw [World.size_alloc]; omega)
  · have hb := below_alloc (Below.refl W.heap.size W) (.cells #[.int .u8 p] 5)
    exact ⟨hg.os.trans hb.os, hg.tape.trans hb.tape, hg.output.trans hb.output, Nat.le_trans hb.size hg.size, fun k hk => (hg.block k (Nat.lt_of_lt_of_le hk hb.size) (by simp)).trans (hb.block k hk)⟩
theorem wpList_append_run {ops : Array Oper} {rest : List Oper} {o : Oper} {a : Act} {Q : Exit → Act → World → Prop} {W w1 : World} {v u v1 : Value} (hgd : o.guard = none) (s x : Operand)
    (ho : o.op = .call { callee := .builtin .append, args := #[s, x], argTypes := #[22, 22] }) (hty : o.type = 22) (hs : a.eval s = v) (hx : a.eval x = u)
    (hrun : (Builtin.append_ #[22, 22] 22 #[v, u]).run Try.prog W = .ok v1 w1) (h : wpList Try.prog ops Q rest (a.put o.dst v1) w1) : wpList Try.prog ops Q (o :: rest) a W := by
  refine wpList_plain hgd fun K hK => ?_
  unfold Oper.wp execOp
  simp only [ho, resolve, invoke, builtin, Sem.run_bind, Sem.run_pure, Result.andThen_ok, List.map_toArray, List.map_cons, List.map_nil, hs, hx, hty, hrun]
  exact hK _ _ h
def T10_5 : Bool × List (List Nat × List Nat) := (true, [([], []), ([], []), ([1], [1]), ([2], [2]), ([0, 3], [0, 3]), ([], []), ([5], [5]), ([4, 6, 4], [4, 6]), ([7, 7, 0, 1, 2, 3, 4, 5, 6, 7], [7]), ([8, 0, 1, 2, 3, 4, 5, 6, 7, 8], [])])
def BT10_5 : List Nat := [0, 0, 2, 6, 15, 0, 32, 127, 255, 511]
theorem tabT10_5 : rtab .any (opsOf Try.f10 5) = T10_5 := by kernel_rfl
theorem bitsT10_5 : waitsOk T10_5.2 BT10_5 = true := by kernel_rfl

set_option maxHeartbeats 2000000 in
set_option maxRecDepth 100000 in
theorem append_53 (ad0 : Addr) (xs : List Int) (A : Option Addr) (c : Nat) (ys : List Int) (w : World) (hx0 : Kd.C (Kd.int .u8) w (some ad0) xs.length xs) (hr : Kd.C (Kd.int .u8) w A ys.length ys) (hc : ys.length ≤ c) (hl : ys.length ≤ 16384) (hx : xs.length ≤ 70000) :
    Calls Try.prog 10 #[.agg #[.int .i64 5, .int .i64 3, .slice A ys.length c], .slice (some ad0) xs.length xs.length] w fun e w' => ∃ A' c', e = .returned (.tuple #[.slice A' (xs ++ [43] ++ vnum ys.length ++ ys).length c', .int .i64 0]) ∧ Own w' w.heap.size (.slice A' (xs ++ [43] ++ vnum ys.length ++ ys).length c') (xs ++ [43] ++ vnum ys.length ++ ys) ∧ Below w.heap.size w w' := by
  have hu := Try.underlying37
  have HR := hide hr
  have HO0 := hide hx0
  have BX : Hid (Frm (w.alloc (.cells #[.int .i64 5, .int .i64 3, .slice A ys.length c] 37)) w.heap.size 5 3 (.slice A ys.length c)) := blk_new _ _
  have BB : Hid (Below w.heap.size w (w.alloc (.cells #[.int .i64 5, .int .i64 3, .slice A ys.length c] 37))) := below_alloc (Below.refl w.heap.size w) _
  have hor := or_40
  clear hr hx0
  go_enter Try.func10, Try.ntmps10
  go_wp2_with fail
  generalize w.alloc (.cells #[.int .i64 5, .int .i64 3, .slice A ys.length c] 37) = w1 at BX BB ⊢
  refine (check_ok 5 3 A ys.length c _ (by omega) (by omega) hl).mono ?_
  rintro e w2 ⟨rfl, hb2⟩
  have BX2 : Hid (Frm w2 w.heap.size 5 3 (.slice A ys.length c)) := blk_below (unhide BX) hb2
  have BB2 : Hid (Below w.heap.size w w2) := below_step (unhide BB) hb2
  clear BX BB hb2
  obtain ⟨⟨f0, f1, f2⟩, ⟨f3, f4, f5⟩, f6⟩ := (unhide BX2).cells
  obtain ⟨v3, w3, hrun, hR3, hB3⟩ := grow_run w2 ad0 xs 43 (Kd.C_below (unhide HO0) (unhide BB2)) (by omega)
  have BX3 : Hid (Frm w3 w.heap.size 5 3 (.slice A ys.length c)) := blk_below (unhide BX2) hB3
  have hB4 := below_step (unhide BB2) hB3
  have hR4 := Kd.R_lower hR3 (unhide BB2).size
  obtain ⟨A3, c3, rfl⟩ := Kd.R_slice hR4
  obtain ⟨x3, hx3⟩ : ∃ z, z = xs ++ [(43 : Int)] := ⟨_, rfl⟩
  have hl3 : x3.length ≤ 70001 := by rw [hx3, List.length_append, List.length_singleton]; omega
  rw [← hx3] at hR4 hrun
  have R3 : Hid (Own w3.drew w.heap.size (.slice A3 x3.length c3) x3) := Kd.R_drew hR4
  have B3 : Hid (Below w.heap.size w w3.drew) := below_drew hB4
  have HX3 := hide hx3
  have HL3 := hide hl3
  have HYL := hide hl
  clear hR3 hR4 hB4 hB3 hx3 hl3 BX2 BB2 hl hx
  have HRUN := hide hrun
  clear hrun
  go_wp2_with (at_builtin; refine unhide ?_)
  refine hide ?_
  refine wpList_append_run rfl (.tmp 12) (.tmp 20) rfl rfl rfl rfl (unhide HRUN) ?_
  clear f0 f1 f2 f3 f4 f5 f6 hor HRUN
  go_wp2
  refine start_ (n := 10) (S := fun w' => Frm w' w.heap.size 5 3 (.slice A ys.length c)) (ds := []) #[false, false, false, false, false, false, false, false, false, false] (by kernel_rfl) rfl rfl (unhide BX3) (fun hHeld => ?_)
  refine with_tabW tabT10_5 bitsT10_5 (fun HT_ HW_ => ?_)
  refine pure_ (i := 0) (N := some 22) (v := ?_) (a' := ?_) #[true, false, false, false, false, false, false, false, false, false] rfl rfl (any_of HT_.out (by kernel_rfl)) (fun _ _ _ h => h) (Or.inl ⟨by rfl, ?_⟩) ?_ ?_
  rotate_left
  · intro w'
    go_simp
    with_reducible rfl
  rotate_left
  · simp only [Act.put, List.setIfInBounds_toArray, List.set_cons_zero, List.set_cons_succ, i64_w, i32_w]
    rfl
  refine pure_ (i := 1) (N := some 23) (v := ?_) (a' := ?_) #[true, true, false, false, false, false, false, false, false, false] rfl rfl (any_of HT_.out (by kernel_rfl)) (fun _ _ _ h => h) (Or.inl ⟨by rfl, ?_⟩) ?_ ?_
  rotate_left
  · intro w'
    go_simp
    with_reducible rfl
  rotate_left
  · simp only [Act.put, List.setIfInBounds_toArray, List.set_cons_zero, List.set_cons_succ, i64_w, i32_w]
    rfl
  refine take_ (i := 2) (N := some 24) (v := ?_) (a' := ?_) #[true, true, true, false, false, false, false, false, false, false] rfl rfl (take_ofW HT_.out HW_.out (by kernel_rfl)) (fun _ _ _ h => h) (Or.inl ⟨by rfl, ?_⟩) hHeld ?_ ?_
  rotate_left
  · rintro w' h1_
    obtain ⟨⟨_, _, _⟩, _, _⟩ := h1_.cells
    go_simp
    with_reducible rfl
  rotate_left
  · simp only [Act.put, List.setIfInBounds_toArray, List.set_cons_zero, List.set_cons_succ, i64_w, i32_w]
    rfl
  refine pure_ (i := 3) (N := some 25) (v := ?_) (a' := ?_) #[true, true, true, true, false, false, false, false, false, false] rfl rfl (any_of HT_.out (by kernel_rfl)) (fun _ _ _ h => h) (Or.inl ⟨by rfl, ?_⟩) ?_ ?_
  rotate_left
  · intro w'
    go_simp
    with_reducible rfl
  rotate_left
  · simp only [Act.put, List.setIfInBounds_toArray, List.set_cons_zero, List.set_cons_succ, i64_w, i32_w]
    rfl
  refine pure_ (i := 5) (N := some 27) (v := ?_) (a' := ?_) #[true, true, true, true, false, true, false, false, false, false] rfl rfl (any_of HT_.out (by kernel_rfl)) (fun _ _ _ h => h) (Or.inl ⟨by rfl, ?_⟩) ?_ ?_
  rotate_left
  · intro w'
    go_simp
    with_reducible rfl
  rotate_left
  · simp only [Act.put, List.setIfInBounds_toArray, List.set_cons_zero, List.set_cons_succ, i64_w, i32_w]
    rfl
  refine take_ (i := 6) (N := some 28) (v := ?_) (a' := ?_) #[true, true, true, true, false, true, true, false, false, false] rfl rfl (take_ofW HT_.out HW_.out (by kernel_rfl)) (fun _ _ _ h => h) (Or.inl ⟨by rfl, ?_⟩) hHeld ?_ ?_
  rotate_left
  · rintro w' h1_
    obtain ⟨⟨_, _, _⟩, _, _⟩ := h1_.cells
    go_simp
    with_reducible rfl
  rotate_left
  · simp only [Act.put, List.setIfInBounds_toArray, List.set_cons_zero, List.set_cons_succ, i64_w, i32_w]
    rfl
  refine one_ (i := 4) (N := some 26) #[true, true, true, true, true, true, true, false, false, false] rfl rfl (one_of HT_.out (by kernel_rfl)) (by decide) (fun K hK => ?_)
  refine goes_ Try.func9 (by kernel_rfl) rfl #[.slice A3 x3.length c3, .int .i64 (ys.length : Int)] (by rfl) rfl rfl (by (try simp only [List.map_toArray, List.map_cons, List.map_nil]); first | done | rfl) ?_
  refine (num_ok w.heap.size (.slice A3 x3.length c3) x3 ys.length _ (unhide R3) (unhide B3).size (by have := unhide HYL; omega) (by have := unhide HL3; omega)).mono ?_
  rintro e w4 ⟨A4, c4, rfl, hO4, hB4, hG4⟩
  refine ⟨_, rfl, ?_⟩
  have BX4 : Hid (Frm w4 w.heap.size 5 3 (.slice A ys.length c)) := hG4.blk (show Frm w3.drew w.heap.size 5 3 _ from unhide BX3) (Frm.ne (show Frm w3.drew w.heap.size 5 3 _ from unhide BX3) (unhide R3))
  have B4 := hide ((unhide B3).trans hB4)
  obtain ⟨x4, hx4⟩ : ∃ z, z = x3 ++ vnum ys.length := ⟨_, rfl⟩
  rw [← hx4] at hO4 ⊢
  have hl4 : x4.length ≤ 70100 := by have := unhide HL3; have := vnum_len 5 ys.length (by have := unhide HYL; omega); rw [hx4, List.length_append]; omega
  have R4 := hide hO4
  have HX4 := hide hx4
  have HL4 := hide hl4
  have C4 := hide (Kd.C_below (unhide HR) (unhide B4))
  clear hO4 hB4 hG4 hx4 hl4
  clear hHeld
  refine hK.out _ _ (unhide BX4) (fun hHeld => ?_)
  clear hK K
  refine norm_ (a' := ?_) ?_ ?_
  rotate_left
  · show Act.put _ (some 26) _ = _
    simp only [Act.put, List.setIfInBounds_toArray, List.set_cons_zero, List.set_cons_succ, i64_w, i32_w]
    rfl
  refine one_ (i := 7) (N := some 29) #[true, true, true, true, true, true, true, true, false, false] rfl rfl (one_of HT_.out (by kernel_rfl)) (by decide) (fun K hK => ?_)
  refine Kd.R_append_rows_step (Kd.int .u8) (Rr := (Kd.int .u8).K w4) (w0 := w) w.heap.size (by rfl) (.tmp 26) (.tmp 28) 22 5 (.int .u8 0) 1 rfl Try.underlying22 info5 rfl (by decide) (by decide) (.slice A4 x4.length c4) x4 ys A ys.length c (fun _ => True) (fun _ => False) rfl rfl (unhide R4) (unhide C4) (fun x cs h => h) (fun k h => h.elim) (fun _ _ => trivial) (unhide B4) (unhide B4).size (by have := unhide HL4; have := unhide HYL; omega) ?_
  intro v5 w5 hR5 hB5 hg5 hat5
  have BX5 : Hid (Frm w5 w.heap.size 5 3 (.slice A ys.length c)) := blk_grown (unhide BX4) hg5 ((unhide BX4).ne (unhide R4))
  obtain ⟨A5, c5, rfl⟩ := Kd.R_slice hR5
  obtain ⟨x5, hx5⟩ : ∃ z, z = x4 ++ ys := ⟨_, rfl⟩
  rw [← hx5] at hR5 ⊢
  have R5 := hide hR5
  have B5 := hide hB5
  have HX5 := hide hx5
  clear hR5 hB5 hg5 hat5 hx5
  clear hHeld
  refine hK.out _ _ (unhide BX5) (fun hHeld => ?_)
  clear hK K
  refine norm_ (a' := ?_) ?_ ?_
  rotate_left
  · show Act.put _ (some 29) _ = _
    simp only [Act.put, List.setIfInBounds_toArray, List.set_cons_zero, List.set_cons_succ, i64_w, i32_w]
    rfl
  refine pure_ (i := 8) (N := some 4) (v := ?_) (a' := ?_) #[true, true, true, true, true, true, true, true, true, false] rfl rfl (any_of HT_.out (by kernel_rfl)) (fun _ _ _ h => h) (Or.inl ⟨by rfl, ?_⟩) ?_ ?_
  rotate_left
  · intro w'
    go_simp
    with_reducible rfl
  rotate_left
  · simp only [Act.put, List.setIfInBounds_toArray, List.set_cons_zero, List.set_cons_succ, i64_w, i32_w]
    rfl
  refine pure_ (i := 9) (N := some 5) (v := ?_) (a' := ?_) #[true, true, true, true, true, true, true, true, true, true] rfl rfl (any_of HT_.out (by kernel_rfl)) (fun _ _ _ h => h) (Or.inl ⟨by rfl, ?_⟩) ?_ ?_
  rotate_left
  · intro w'
    go_simp
    with_reducible rfl
  rotate_left
  · simp only [Act.put, List.setIfInBounds_toArray, List.set_cons_zero, List.set_cons_succ, i64_w, i32_w]
    rfl
  refine done_ (done_of HT_.out (by kernel_rfl)) ?_
  clear HT_ HW_ hHeld
  go_wp2
  have he : x5 = xs ++ [43] ++ vnum ys.length ++ ys := by rw [unhide HX5, unhide HX4, unhide HX3]
  rw [← he]
  refine bodyPost_ret (v := .tuple #[.slice A5 x5.length c5, .int .i64 0]) (by simp [results, Try.results10, go_sem]) rfl ⟨A5, c5, rfl, unhide R5, unhide B5⟩
end Go.Proofs.Ytgoephcembgmcaa.Fr
