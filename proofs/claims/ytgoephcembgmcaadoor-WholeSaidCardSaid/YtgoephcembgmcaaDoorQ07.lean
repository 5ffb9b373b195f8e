import Derived.Test.YtgoephcembgmcaaDoorQ06
import Derived.Maps.GroupsBeside
import Derived.WalkArith
set_option linter.unusedSimpArgs false
set_option linter.unusedVariables false
namespace Go.Proofs.YtgoephcembgmcaaDoor.Bl
open Go.RowKit Go.Proofs.YtgoephcembgmcaaDoorW.PrintWords Go.Proofs.YtgoephcembgmcaaDoorW.PrintLast Wk FrM Fr Sh Rg
open WkM (w64 Bytes val)
def T60_5 : Bool × List (List Nat × List Nat) := (true, [([], []), ([0], [0]), ([1], [1]), ([], []), ([3], [3]), ([], []), ([5], [5]), ([4, 6], [4, 6]), ([2, 7], [2, 7]), ([8, 7], [8])])
def BT60_5 : List Nat := [0, 1, 3, 0, 8, 0, 32, 120, 255, 511]
theorem tabT60_5 : rtab .any (opsOf Tryd.f60 5) = T60_5 := by kernel_rfl
theorem bitsT60_5 : waitsOk T60_5.2 BT60_5 = true := by kernel_rfl

set_option maxHeartbeats 4000000 in
set_option maxRecDepth 100000 in
theorem check_sig (A : Option Addr) (c n : Nat) (bs : List (Int × List Int)) (w : World) (hC : BkC w A bs) (hbs : ∀ b ∈ bs, Blk b) (hl : bs.length = (n + 3) / 4) (hn : n ≤ 500) :
    Calls Tryd.prog 60 #[sgV n (.slice A bs.length c)] w fun e w' => e = .returned (.int .i64 0) ∧ Below w.heap.size w w' := by
  obtain ⟨m, hm⟩ : ∃ m, m = bs.length := ⟨_, rfl⟩
  rw [← hm]
  have D1 : ¬ 4096 < (m : Int) := by omega
  have HL : Hid ((n + 3) / 4 = m) := by show _ = _; omega
  have HM := hide hm
  have HN := hide hn
  have HC := hide hC
  have HB := hide hbs
  clear hm hl hn hC hbs
  go_enter Tryd.func60, Tryd.ntmps60
  go_wp2_with fail
  have S0 : Sg (w.alloc (.cells #[.int .i64 4, .int .i64 8, .int .i64 (n : Int), .slice A m c] 33)) w.heap.size n (.slice A m c) := blk_new _ _
  have B0 : Below w.heap.size w (w.alloc (.cells #[.int .i64 4, .int .i64 8, .int .i64 (n : Int), .slice A m c] 33)) := below_alloc (Below.refl _ _) _
  have C0 : BkC (w.alloc (.cells #[.int .i64 4, .int .i64 8, .int .i64 (n : Int), .slice A m c] 33)) A bs := (unhide HC).alloc _
  show Calls _ _ _ (w.alloc (.cells #[.int .i64 4, .int .i64 8, .int .i64 (n : Int), .slice A m c] 33)) _
  generalize w.alloc (.cells #[.int .i64 4, .int .i64 8, .int .i64 (n : Int), .slice A m c] 33) = w1 at S0 B0 C0 ⊢
  refine (count_ok n _ (by have := unhide HN; omega)).mono ?_
  intro e w' hh
  rw [hh.1, hh.2]
  clear hh
  rw [unhide HL]
  have S0 := hide S0
  have B0 := hide B0
  have C0 := hide C0
  go_wp2
  refine start_ (n := 10) (S := fun w' => Sg w' w.heap.size n (.slice A m c)) (ds := []) (bt 10 0) (by kernel_rfl) rfl (by kernel_rfl) (unhide S0) (fun hHeld => ?_)
  refine with_tabW tabT60_5 bitsT60_5 (fun HT_ HW_ => ?_)
  refine run_ [(0, 39)] ?_
  iterate 1 ((first | refine sp_ (v := ?_) (a' := ?_) HT_.out rfl rfl rfl (by kernel_rfl) (fun _ _ _ h => h) ?_ ?_ ?_ | refine sg_ (v := ?_) (a' := ?_) HT_.out rfl rfl (by kernel_rfl) (fun _ _ _ h => h) (by rfl) ?_ ?_ ?_); rotate_left; (· intro w'; go_simp; with_reducible rfl); rotate_left; (· simp only [Act.put, List.setIfInBounds_toArray, List.set_cons_zero, List.set_cons_succ, i64_w, i32_w]; rfl))
  refine rend_ ?_
  refine take_ (i := 1) (N := some 40) (v := ?_) (a' := ?_) (bt 10 3) rfl rfl (take_ofW HT_.out HW_.out (by kernel_rfl)) (fun _ _ _ h => h) (Or.inl ⟨by rfl, ?_⟩) hHeld ?_ ?_
  rotate_left
  · rintro w' h1_
    obtain ⟨⟨_, _, _, _⟩, _, _⟩ := box4 h1_
    go_simp
    with_reducible rfl
  rotate_left
  · simp only [Act.put, List.setIfInBounds_toArray, List.set_cons_zero, List.set_cons_succ, i64_w, i32_w]
    rfl
  refine run_ [(2, 41), (3, 42)] ?_
  iterate 2 ((first | refine sp_ (v := ?_) (a' := ?_) HT_.out rfl rfl rfl (by kernel_rfl) (fun _ _ _ h => h) ?_ ?_ ?_ | refine sg_ (v := ?_) (a' := ?_) HT_.out rfl rfl (by kernel_rfl) (fun _ _ _ h => h) (by rfl) ?_ ?_ ?_); rotate_left; (· intro w'; go_simp; with_reducible rfl); rotate_left; (· simp only [Act.put, List.setIfInBounds_toArray, List.set_cons_zero, List.set_cons_succ, i64_w, i32_w]; rfl))
  refine rend_ ?_
  refine take_ (i := 4) (N := some 43) (v := ?_) (a' := ?_) (bt 10 31) rfl rfl (take_ofW HT_.out HW_.out (by kernel_rfl)) (fun _ _ _ h => h) (Or.inl ⟨by rfl, ?_⟩) hHeld ?_ ?_
  rotate_left
  · rintro w' h1_
    obtain ⟨⟨_, _, _, _⟩, _, _⟩ := box4 h1_
    go_simp
    with_reducible rfl
  rotate_left
  · simp only [Act.put, List.setIfInBounds_toArray, List.set_cons_zero, List.set_cons_succ, i64_w, i32_w]
    rfl
  refine run_ [(5, 44)] ?_
  iterate 1 ((first | refine sp_ (v := ?_) (a' := ?_) HT_.out rfl rfl rfl (by kernel_rfl) (fun _ _ _ h => h) ?_ ?_ ?_ | refine sg_ (v := ?_) (a' := ?_) HT_.out rfl rfl (by kernel_rfl) (fun _ _ _ h => h) (by rfl) ?_ ?_ ?_); rotate_left; (· intro w'; go_simp; with_reducible rfl); rotate_left; (· simp only [Act.put, List.setIfInBounds_toArray, List.set_cons_zero, List.set_cons_succ, i64_w, i32_w]; rfl))
  refine rend_ ?_
  refine take_ (i := 6) (N := some 45) (v := ?_) (a' := ?_) (bt 10 127) rfl rfl (take_ofW HT_.out HW_.out (by kernel_rfl)) (fun _ _ _ h => h) (Or.inl ⟨by rfl, ?_⟩) hHeld ?_ ?_
  rotate_left
  · rintro w' h1_
    obtain ⟨⟨_, _, _, _⟩, _, _⟩ := box4 h1_
    go_simp
    with_reducible rfl
  rotate_left
  · simp only [Act.put, List.setIfInBounds_toArray, List.set_cons_zero, List.set_cons_succ, i64_w, i32_w]
    rfl
  refine one_ (i := 7) (N := some 46) (bt 10 255) rfl rfl (one_of HT_.out (by kernel_rfl)) (by decide) (fun K hK => ?_)
  refine goes_ Tryd.func22 (by kernel_rfl) rfl #[.int .i64 (n : Int), .int .i64 4] (by rfl) rfl rfl (by (try simp only [List.map_toArray, List.map_cons, List.map_nil]); first | done | rfl) ?_
  refine (count_ok n _ (by have := unhide HN; omega)).mono ?_
  intro e w4 hh
  rw [hh.1, hh.2]
  clear hh
  rw [unhide HL]
  refine ⟨_, rfl, ?_⟩
  clear hHeld
  refine hK.out _ _ (show Sg w1.drew _ _ _ from unhide S0) (fun hHeld => ?_)
  clear hK K
  refine norm_ (a' := ?_) ?_ ?_
  rotate_left
  · show Act.put _ (some 46) _ = _
    simp only [Act.put, List.setIfInBounds_toArray, List.set_cons_zero, List.set_cons_succ, i64_w, i32_w]
    rfl
  refine run_ [(8, 47), (9, 38)] ?_
  iterate 2 ((first | refine sp_ (v := ?_) (a' := ?_) HT_.out rfl rfl rfl (by kernel_rfl) (fun _ _ _ h => h) ?_ ?_ ?_ | refine sg_ (v := ?_) (a' := ?_) HT_.out rfl rfl (by kernel_rfl) (fun _ _ _ h => h) (by rfl) ?_ ?_ ?_); rotate_left; (· intro w'; go_simp; with_reducible rfl); rotate_left; (· simp only [Act.put, List.setIfInBounds_toArray, List.set_cons_zero, List.set_cons_succ, i64_w, i32_w]; rfl))
  refine rend_ ?_
  refine done_ (done_of HT_.out (by kernel_rfl)) ?_
  clear HT_ HW_ hHeld
  have S1 : Hid (Sg w1.drew w.heap.size n (.slice A m c)) := unhide S0
  have B1 := hide (below_drew (unhide B0))
  have C1 : Hid (BkC w1.drew A bs) := unhide C0
  clear S0 B0 C0
  obtain ⟨⟨_, _, _, _⟩, ⟨_, _, _, _⟩, _⟩ := box4 (unhide S1)
  go_wp2
  go_loopg [51] m (fun kq v51 wr => ∃ i : Nat, v51 = .int .i64 (i : Int) ∧ Hid (i + kq = m) ∧ Hid (Sg wr w.heap.size n (.slice A m c)) ∧ Hid (Below w.heap.size w wr) ∧ Hid (BkC wr A bs))
  case atStart => exact ⟨0, rfl, Nat.zero_add _, S1, B1, C1⟩
  case round =>
    obtain ⟨i, rfl, HI, S2, B2, C2⟩ := hrel
    by_cases hlt : i < m
    · have him : i < bs.length := by have := unhide HM; omega
      obtain ⟨b, hb⟩ : ∃ b, bs[i]? = some b := ⟨_, List.getElem?_eq_getElem him⟩
      obtain ⟨g, rfl, hr⟩ := (unhide C2) (by omega)
      have HR := hide (hr i b hb)
      have hbk := (unhide HB) b (List.mem_of_getElem? hb)
      obtain ⟨cs, hcs⟩ : ∃ cs, cs = bk b.1 b.2 := ⟨_, rfl⟩
      have hcl : cs.length = 33 := by rw [hcs]; exact bk_len _ _ hbk.len
      have h24 : ∀ j : Nat, j < 24 → cs[9 + j]? = some (.int .u8 0) := by
        intro j hj
        obtain ⟨_, _, s, hs, hl, _⟩ := hbk
        rw [hcs, hs]
        unfold bk
        rw [show 9 + j = (8 + j) + 1 from by omega, List.getElem?_cons_succ, List.getElem?_map, List.getElem?_append_right (by omega), hl, show 8 + j - 8 = j from by omega, List.getElem?_replicate, if_pos hj]
        rfl
      have h1c : ∀ u ∈ cs, u.oneCell' = true := by rw [hcs]; exact bk_one _ _
      rw [← hcs] at HR
      have SZ : Hid ((Tryd.prog.info? 86).map (·.size) = some cs.length) := by show _ = _; rw [hcl]; exact size86
      have SZA : Hid ((Tryd.prog.info? 86).map (·.size) = some cs.toArray.size) := by show _ = _; rw [List.size_toArray, hcl]; exact size86
      have SA : Hid (((bk 0 (List.replicate 32 0)).toArray).size = cs.toArray.size) := by show _ = _; rw [List.size_toArray, List.size_toArray, hcl]; rfl
      have H1 := hide h1c
      have H24 := hide h24
      have HCL := hide hcl
      have S5 := hide (blk_alloc (unhide S2) (.cells cs.toArray 86))
      have B5 := hide (below_alloc (unhide B2) (.cells cs.toArray 86))
      have C5 := hide ((unhide C2).alloc (.cells cs.toArray 86))
      have R5 : Hid ((wr.alloc (.cells cs.toArray 86)).heap[wr.heap.size]? = some (.cells cs.toArray 86 (0, 0))) := blk_new _ _
      obtain ⟨⟨_, _, _, _⟩, ⟨_, _, _, _⟩, _⟩ := box4 (unhide S5)
      have d1 : (i : Int) < (m : Int) := by omega
      clear hr hbk hcs hcl h1c h24 him hlt hb
      go_wp2_with (first | refine wpList_load_mid rfl 86 (.tmp 53) rfl g (i * 33) rfl cs _ (unhide HR) Tryd.underlying86 rfl (unhide SZ) ?_ | (refine wpList_store_row rfl 86 (.tmp 4) (.tmp 54) rfl wr.heap.size cs.toArray rfl rfl 86 _ (blk_new wr _) (unhide SZA) (unhide SA) (all_oneCell_toArray (unhide H1)) ?_; rw [World.setRow_alloc_new]))
      have F5 : ∀ j : Nat, j < 24 → (wr.alloc (.cells cs.toArray 86)).cell? ⟨wr.heap.size, 9 + j, none⟩ = some (.int .u8 0) := fun j hj => (blk_cell (unhide R5) (9 + j)).trans (by rw [List.getElem?_toArray]; exact (unhide H24) j hj)
      generalize wr.alloc (.cells cs.toArray 86) = w5 at S5 B5 C5 F5 ⊢
      have HF := hide F5
      have HI1 : Hid ((i : Int) < (m : Int)) := by show _ < _; omega
      have HI2 : Hid (m ≤ 200) := by have := unhide HL; have := unhide HN; show _ ≤ _; omega
      clear F5 R5 SZ SZA SA H1 H24 HCL d1
      obtain ⟨gk1, h_⟩ : ∃ k, k = gk := ⟨_, rfl⟩
      subst h_
      obtain ⟨wr1, h_⟩ : ∃ k, k = wr := ⟨_, rfl⟩
      subst h_
      go_loopg [60] 24 (fun kq v60 wr => ∃ j : Nat, v60 = .int .i64 (j : Int) ∧ Hid (j + kq = 24) ∧ wr = w5)
      case atStart => exact ⟨0, rfl, rfl, rfl⟩
      case round =>
        obtain ⟨j, rfl, HJ, rfl⟩ := hrel
        by_cases hj : j < 24
        · have d2 : (j : Int) < 24 := by omega
          have f5 := (unhide HF) j hj
          have e5 : wrap64 ((j : Int) + 1) = ((j + 1 : Nat) : Int) := by rw [w64 _ (by omega) (by omega)]; omega
          have E5 := hide e5
          clear e5 hj
          go_wp2
          go_roundg (gk - 1)
          case measure => have := unhide HJ; omega
          case rel => exact ⟨j + 1, by first | exact congrArg (Value.int .i64) (unhide E5) | exact congrArg (Value.int .i64) (by omega), by have := unhide HJ; show _ = _; omega, rfl⟩
        · have d2 : ¬ (j : Int) < 24 := by omega
          have e5 : wrap64 ((i : Int) + 1) = ((i + 1 : Nat) : Int) := by have := unhide HI1; have := unhide HI2; rw [w64 _ (by omega) (by omega)]; omega
          have E5 := hide e5
          clear hj e5
          go_wp2
          go_roundg (gk1 - 1)
          case measure => have := unhide HI; have := unhide HI1; omega
          case rel => exact ⟨i + 1, congrArg (Value.int .i64) (unhide E5), by have := unhide HI; have := unhide HI1; show _ = _; omega, S5, B5, C5⟩
    · have d1 : ¬ (i : Int) < (m : Int) := by omega
      clear hlt
      go_wp2
      go_ret
      exact ⟨rfl, unhide B2⟩
end Go.Proofs.YtgoephcembgmcaaDoor.Bl
namespace Go.Proofs.YtgoephcembgmcaaDoor.Bl
open Go.RowKit Go.Proofs.YtgoephcembgmcaaDoorW.PrintWords Go.Proofs.YtgoephcembgmcaaDoorW.PrintLast Wk FrM Fr Sh Rg
open WkM (w64 Bytes val)
/-- A block's bytes; those of some; a signature's. -/
def b1B (b : Int × List Int) : List Int := vnum b.1.toNat ++ b.2.take 8
def bsB (bs : List (Int × List Int)) : List Int := bs.flatMap b1B
def sgB (n : Nat) (bs : List (Int × List Int)) : List Int := vnum 4 ++ vnum 8 ++ vnum n ++ bsB bs
theorem bsB_succ {bs : List (Int × List Int)} {i : Nat} {b : Int × List Int} (h : bs[i]? = some b) : bsB (bs.take (i + 1)) = bsB (bs.take i) ++ vnum b.1.toNat ++ b.2.take 8 := by
  unfold bsB
  rw [List.take_add_one, h, List.flatMap_append, List.append_assoc]
  simp [b1B]
theorem bsB_len (bs : List (Int × List Int)) (h : ∀ b ∈ bs, Blk b) : (bsB bs).length ≤ 14 * bs.length := by
  induction bs with
  | nil => simp [bsB]
  | cons b t ih =>
    have h1 := ih (fun x hx => h x (List.mem_cons_of_mem _ hx))
    have hb := h b List.mem_cons_self
    have h2 := vnum_len 5 b.1.toNat (by have := hb.1; have := hb.2.1; omega)
    unfold bsB at h1 ⊢
    rw [List.flatMap_cons, List.length_append, b1B, List.length_append, List.length_take, List.length_cons]
    omega
theorem row8 {w : World} {p : Nat} {v : Int} {s : List Int} (h : w.heap[p]? = some (.cells (bk v s).toArray 86 (0, 0))) (hs : s.length = 32) : Kd.C (Kd.int .u8) w (some ⟨p, 1, none⟩) (s.take 8).length (s.take 8) := by
  refine ⟨rfl, by rw [List.length_take]; omega, fun _ => ⟨_, rfl, fun j x hj => ⟨[.int .u8 x], rfl, rfl, fun i u hu => ?_⟩⟩⟩
  have hs1 : (Kd.int .u8).sz = 1 := rfl
  rw [hs1, Nat.mul_one]
  have hi : i = 0 := by
    rcases i with _ | i
    · rfl
    · simp at hu
  subst hi
  simp only [List.getElem?_cons_zero, Option.some.injEq] at hu
  subst hu
  rw [Addr.add_mid, Nat.add_zero]
  refine (blk_cell h (1 + j)).trans ?_
  rw [List.getElem?_take] at hj
  split at hj
  · rw [List.getElem?_toArray, Nat.add_comm 1 j]
    unfold bk
    rw [List.getElem?_cons_succ, List.getElem?_map, hj]
    rfl
  · cases hj
theorem num_lit (base : Nat) (v : Value) (xs : List Int) (n : Nat) (i : Int) (w : World) (hi : i = (n : Int)) (ho : Own w base v xs) (hbase : base ≤ w.heap.size) (hn : n ≤ 1099511627776) (hx : xs.length ≤ 100000) :
    Calls Tryd.prog 53 #[v, .int .i64 i] w fun e w' => ∃ A c, e = .returned (.slice A (xs ++ vnum n).length c) ∧ Own w' base (.slice A (xs ++ vnum n).length c) (xs ++ vnum n) ∧ Below base w w' ∧ Grew w w' v (.slice A (xs ++ vnum n).length c) := by
  subst hi
  exact num_ok base v xs n w ho hbase hn hx
theorem check_sig_m (A : Option Addr) (c n m : Nat) (bs : List (Int × List Int)) (w : World) (hm : m = bs.length) (hC : BkC w A bs) (hbs : ∀ b ∈ bs, Blk b) (hl : bs.length = (n + 3) / 4) (hn : n ≤ 500) :
    Calls Tryd.prog 60 #[sgV n (.slice A m c)] w fun e w' => e = .returned (.int .i64 0) ∧ Below w.heap.size w w' := by
  subst hm
  exact check_sig A c n bs w hC hbs hl hn
def T55_4 : Bool × List (List Nat × List Nat) := (true, [([], []), ([0], [0]), ([1], [1]), ([], []), ([3], [3]), ([2, 4, 2], [2, 4]), ([], []), ([6], [6]), ([5, 7, 5], [5, 7]), ([8, 8, 0, 1, 2, 3, 4, 5, 6, 7, 8], [8])])
def BT55_4 : List Nat := [0, 1, 3, 0, 8, 31, 0, 64, 255, 511]
theorem tabT55_4 : rtab .any (opsOf Tryd.f55 4) = T55_4 := by kernel_rfl
theorem bitsT55_4 : waitsOk T55_4.2 BT55_4 = true := by kernel_rfl

set_option maxHeartbeats 4000000 in
set_option maxRecDepth 100000 in
theorem bytes_sig (A : Option Addr) (c n : Nat) (bs : List (Int × List Int)) (w : World) (hC : BkC w A bs) (hbs : ∀ b ∈ bs, Blk b) (hl : bs.length = (n + 3) / 4) (hn : n ≤ 500) :
    Calls Tryd.prog 55 #[sgV n (.slice A bs.length c)] w fun e w' => ∃ A1 c1, e = .returned (.tuple #[.slice A1 (sgB n bs).length c1, .int .i64 0]) ∧ Own w' w.heap.size (.slice A1 (sgB n bs).length c1) (sgB n bs) ∧ Below w.heap.size w w' := by
  obtain ⟨m, hm⟩ : ∃ m, m = bs.length := ⟨_, rfl⟩
  have HL : Hid ((n + 3) / 4 = bs.length) := by show _ = _; omega
  have HM := hide hm
  have HN := hide hn
  have HC := hide hC
  have HB := hide hbs
  rw [← hm]
  clear hm hl hn hC hbs
  go_enter Tryd.func55, Tryd.ntmps55
  go_wp2_with fail
  have S0 : Sg (w.alloc (.cells #[.int .i64 4, .int .i64 8, .int .i64 (n : Int), .slice A m c] 33)) w.heap.size n (.slice A m c) := blk_new _ _
  have B0 : Below w.heap.size w (w.alloc (.cells #[.int .i64 4, .int .i64 8, .int .i64 (n : Int), .slice A m c] 33)) := below_alloc (Below.refl _ _) _
  have C0 : BkC (w.alloc (.cells #[.int .i64 4, .int .i64 8, .int .i64 (n : Int), .slice A m c] 33)) A bs := (unhide HC).alloc _
  show Calls _ _ _ (w.alloc (.cells #[.int .i64 4, .int .i64 8, .int .i64 (n : Int), .slice A m c] 33)) _
  generalize w.alloc (.cells #[.int .i64 4, .int .i64 8, .int .i64 (n : Int), .slice A m c] 33) = w1 at S0 B0 C0 ⊢
  refine (check_sig_m A c n m bs w1 (unhide HM) C0 (unhide HB) (unhide HL).symm (unhide HN)).mono ?_
  rintro e w2 ⟨rfl, hb2⟩
  have S2 := hide (blk_below S0 hb2)
  have B2 := hide (below_step B0 hb2)
  have C2 := hide (C0.below hb2)
  clear S0 B0 C0 hb2
  go_wp2
  have SD : Hid (Sg w2.drew w.heap.size n (.slice A m c)) := unhide S2
  have BD := hide (below_drew (unhide B2))
  have OD : Hid (Own w2.drew w.heap.size (.slice none 0 0) []) := Kd.R_nil _ _ _ _ _
  refine start_ (n := 10) (S := fun w' => Sg w' w.heap.size n (.slice A m c)) (ds := []) (bt 10 0) (by kernel_rfl) rfl (by kernel_rfl) (unhide SD) (fun hHeld => ?_)
  refine with_tabW tabT55_4 bitsT55_4 (fun HT_ HW_ => ?_)
  refine run_ [(0, 13)] ?_
  iterate 1 ((first | refine sp_ (v := ?_) (a' := ?_) HT_.out rfl rfl rfl (by kernel_rfl) (fun _ _ _ h => h) ?_ ?_ ?_ | refine sg_ (v := ?_) (a' := ?_) HT_.out rfl rfl (by kernel_rfl) (fun _ _ _ h => h) (by rfl) ?_ ?_ ?_); rotate_left; (· intro w'; go_simp; with_reducible rfl); rotate_left; (· simp only [Act.put, List.setIfInBounds_toArray, List.set_cons_zero, List.set_cons_succ, i64_w, i32_w]; rfl))
  refine rend_ ?_
  refine take_ (i := 1) (N := some 14) (v := ?_) (a' := ?_) (bt 10 3) rfl rfl (take_ofW HT_.out HW_.out (by kernel_rfl)) (fun _ _ _ h => h) (Or.inl ⟨by rfl, ?_⟩) hHeld ?_ ?_
  rotate_left
  · rintro w' h1_
    obtain ⟨⟨_, _, _, _⟩, _, _⟩ := box4 h1_
    go_simp
    with_reducible rfl
  rotate_left
  · simp only [Act.put, List.setIfInBounds_toArray, List.set_cons_zero, List.set_cons_succ, i64_w, i32_w]
    rfl
  refine run_ [(3, 16)] ?_
  iterate 1 ((first | refine sp_ (v := ?_) (a' := ?_) HT_.out rfl rfl rfl (by kernel_rfl) (fun _ _ _ h => h) ?_ ?_ ?_ | refine sg_ (v := ?_) (a' := ?_) HT_.out rfl rfl (by kernel_rfl) (fun _ _ _ h => h) (by rfl) ?_ ?_ ?_); rotate_left; (· intro w'; go_simp; with_reducible rfl); rotate_left; (· simp only [Act.put, List.setIfInBounds_toArray, List.set_cons_zero, List.set_cons_succ, i64_w, i32_w]; rfl))
  refine rend_ ?_
  refine take_ (i := 4) (N := some 17) (v := ?_) (a' := ?_) (bt 10 27) rfl rfl (take_ofW HT_.out HW_.out (by kernel_rfl)) (fun _ _ _ h => h) (Or.inl ⟨by rfl, ?_⟩) hHeld ?_ ?_
  rotate_left
  · rintro w' h1_
    obtain ⟨⟨_, _, _, _⟩, _, _⟩ := box4 h1_
    go_simp
    with_reducible rfl
  rotate_left
  · simp only [Act.put, List.setIfInBounds_toArray, List.set_cons_zero, List.set_cons_succ, i64_w, i32_w]
    rfl
  refine run_ [(6, 19)] ?_
  iterate 1 ((first | refine sp_ (v := ?_) (a' := ?_) HT_.out rfl rfl rfl (by kernel_rfl) (fun _ _ _ h => h) ?_ ?_ ?_ | refine sg_ (v := ?_) (a' := ?_) HT_.out rfl rfl (by kernel_rfl) (fun _ _ _ h => h) (by rfl) ?_ ?_ ?_); rotate_left; (· intro w'; go_simp; with_reducible rfl); rotate_left; (· simp only [Act.put, List.setIfInBounds_toArray, List.set_cons_zero, List.set_cons_succ, i64_w, i32_w]; rfl))
  refine rend_ ?_
  refine take_ (i := 7) (N := some 20) (v := ?_) (a' := ?_) (bt 10 219) rfl rfl (take_ofW HT_.out HW_.out (by kernel_rfl)) (fun _ _ _ h => h) (Or.inl ⟨by rfl, ?_⟩) hHeld ?_ ?_
  rotate_left
  · rintro w' h1_
    obtain ⟨⟨_, _, _, _⟩, _, _⟩ := box4 h1_
    go_simp
    with_reducible rfl
  rotate_left
  · simp only [Act.put, List.setIfInBounds_toArray, List.set_cons_zero, List.set_cons_succ, i64_w, i32_w]
    rfl
  refine one_ (i := 2) (N := some 15) (bt 10 223) rfl rfl (one_of HT_.out (by kernel_rfl)) (by decide) (fun K hK => ?_)
  refine goes_ Tryd.func53 (by kernel_rfl) rfl #[.slice none 0 0, .int .i64 4] (by rfl) rfl rfl (by (try simp only [List.map_toArray, List.map_cons, List.map_nil]); first | done | rfl) ?_
  refine (num_lit w.heap.size (.slice none 0 0) [] 4 4 _ rfl (unhide OD) (unhide BD).size (by decide) (by decide)).mono ?_
  rintro e w4 ⟨A4, c4, rfl, hO4, hB4, hG4⟩
  refine ⟨_, rfl, ?_⟩
  have S4 : Hid (Sg w4 w.heap.size n (.slice A m c)) := hG4.blk (unhide SD) (Kd.R_ne (unhide OD) (unhide SD) (by decide))
  obtain ⟨x4, hx4⟩ : ∃ z, z = [] ++ vnum 4 := ⟨_, rfl⟩
  rw [← hx4] at hO4 ⊢
  have hl4 : x4.length ≤ 10 := by rw [hx4, List.length_append]; have := vnum_len 5 4 (by decide); have := vnum_len 5 8 (by decide); have := vnum_len 5 n (by have := unhide HN; omega); simp only [List.length_nil]; omega
  have O4 := hide hO4
  have HX4 := hide hx4
  have HL4 := hide hl4
  have B4 := hide ((unhide BD).trans hB4)
  clear hO4 hB4 hG4 hx4 hl4
  clear hHeld
  refine hK.out _ _ (unhide S4) (fun hHeld => ?_)
  clear hK K
  refine norm_ (a' := ?_) ?_ ?_
  rotate_left
  · show Act.put _ (some 15) _ = _
    simp only [Act.put, List.setIfInBounds_toArray, List.set_cons_zero, List.set_cons_succ, i64_w, i32_w]
    rfl
  refine one_ (i := 5) (N := some 18) (bt 10 255) rfl rfl (one_of HT_.out (by kernel_rfl)) (by decide) (fun K hK => ?_)
  refine goes_ Tryd.func53 (by kernel_rfl) rfl #[.slice A4 x4.length c4, .int .i64 8] (by rfl) rfl rfl (by (try simp only [List.map_toArray, List.map_cons, List.map_nil]); first | done | rfl) ?_
  refine (num_lit w.heap.size (.slice A4 x4.length c4) x4 8 8 _ rfl (unhide O4) (unhide B4).size (by decide) (by have := unhide HL4; omega)).mono ?_
  rintro e w5 ⟨A5, c5, rfl, hO5, hB5, hG5⟩
  refine ⟨_, rfl, ?_⟩
  have S5 : Hid (Sg w5 w.heap.size n (.slice A m c)) := hG5.blk (unhide S4) (Kd.R_ne (unhide O4) (unhide S4) (by decide))
  obtain ⟨x5, hx5⟩ : ∃ z, z = x4 ++ vnum 8 := ⟨_, rfl⟩
  rw [← hx5] at hO5 ⊢
  have hl5 : x5.length ≤ 20 := by rw [hx5, List.length_append]; have := vnum_len 5 4 (by decide); have := vnum_len 5 8 (by decide); have := vnum_len 5 n (by have := unhide HN; omega); have := unhide HL4; omega
  have O5 := hide hO5
  have HX5 := hide hx5
  have HL5 := hide hl5
  have B5 := hide ((unhide B4).trans hB5)
  clear hO5 hB5 hG5 hx5 hl5
  clear hHeld
  refine hK.out _ _ (unhide S5) (fun hHeld => ?_)
  clear hK K
  refine norm_ (a' := ?_) ?_ ?_
  rotate_left
  · show Act.put _ (some 18) _ = _
    simp only [Act.put, List.setIfInBounds_toArray, List.set_cons_zero, List.set_cons_succ, i64_w, i32_w]
    rfl
  refine one_ (i := 8) (N := some 21) (bt 10 511) rfl rfl (one_of HT_.out (by kernel_rfl)) (by decide) (fun K hK => ?_)
  refine goes_ Tryd.func53 (by kernel_rfl) rfl #[.slice A5 x5.length c5, .int .i64 (n : Int)] (by rfl) rfl rfl (by (try simp only [List.map_toArray, List.map_cons, List.map_nil]); first | done | rfl) ?_
  refine (num_ok w.heap.size (.slice A5 x5.length c5) x5 n _ (unhide O5) (unhide B5).size (by have := unhide HN; omega) (by have := unhide HL5; omega)).mono ?_
  rintro e w6 ⟨A6, c6, rfl, hO6, hB6, hG6⟩
  refine ⟨_, rfl, ?_⟩
  have S6 : Hid (Sg w6 w.heap.size n (.slice A m c)) := hG6.blk (unhide S5) (Kd.R_ne (unhide O5) (unhide S5) (by decide))
  obtain ⟨x6, hx6⟩ : ∃ z, z = x5 ++ vnum n := ⟨_, rfl⟩
  rw [← hx6] at hO6 ⊢
  have hl6 : x6.length ≤ 30 := by rw [hx6, List.length_append]; have := vnum_len 5 4 (by decide); have := vnum_len 5 8 (by decide); have := vnum_len 5 n (by have := unhide HN; omega); have := unhide HL5; omega
  have O6 := hide hO6
  have HX6 := hide hx6
  have HL6 := hide hl6
  have B6 := hide ((unhide B5).trans hB6)
  clear hO6 hB6 hG6 hx6 hl6
  clear hHeld
  refine hK.out _ _ (unhide S6) (fun hHeld => ?_)
  clear hK K
  refine norm_ (a' := ?_) ?_ ?_
  rotate_left
  · show Act.put _ (some 21) _ = _
    simp only [Act.put, List.setIfInBounds_toArray, List.set_cons_zero, List.set_cons_succ, i64_w, i32_w]
    rfl
  refine run_ [(9, 5)] ?_
  iterate 1 ((first | refine sp_ (v := ?_) (a' := ?_) HT_.out rfl rfl rfl (by kernel_rfl) (fun _ _ _ h => h) ?_ ?_ ?_ | refine sg_ (v := ?_) (a' := ?_) HT_.out rfl rfl (by kernel_rfl) (fun _ _ _ h => h) (by rfl) ?_ ?_ ?_); rotate_left; (· intro w'; go_simp; with_reducible rfl); rotate_left; (· simp only [Act.put, List.setIfInBounds_toArray, List.set_cons_zero, List.set_cons_succ, i64_w, i32_w]; rfl))
  refine rend_ ?_
  refine done_ (done_of HT_.out (by kernel_rfl)) ?_
  clear HT_ HW_ hHeld
  have HXA : Hid (sgB n bs = x6 ++ bsB bs) := by show sgB n bs = _; rw [unhide HX6, unhide HX5, unhide HX4]; unfold sgB; rfl
  have C6 : Hid (BkC w6 A bs) := (unhide HC).below (unhide B6)
  clear HX4 HX5 HX6 S2 B2 C2 SD BD OD S4 S5 O4 O5 B4 B5 HL4 HL5
  obtain ⟨⟨_, _, _, _⟩, ⟨_, _, _, _⟩, _⟩ := box4 (unhide S6)
  go_wp2
  go_loopg [5, 25] m (fun kq v5 v25 wr => ∃ (i : Nat) (A1 : Option Addr) (c1 : Nat) (zs : List Int), v25 = .int .i64 (i : Int) ∧ v5 = .slice A1 zs.length c1 ∧ Hid (i + kq = m) ∧ Hid (zs = x6 ++ bsB (bs.take i)) ∧ Hid (Sg wr w.heap.size n (.slice A m c)) ∧ Hid (Own wr w.heap.size (.slice A1 zs.length c1) zs) ∧ Hid (Below w.heap.size w wr))
  case atStart => exact ⟨0, A6, c6, x6, rfl, rfl, Nat.zero_add _, (by show x6 = x6 ++ bsB (bs.take 0); simp [bsB]), S6, O6, B6⟩
  case round =>
    obtain ⟨i, A1, c1, zs, rfl, rfl, HI, HZ, S2, O2, B2⟩ := hrel
    by_cases hlt : i < m
    · have him : i < bs.length := by have := unhide HM; omega
      obtain ⟨b, hb⟩ : ∃ b, bs[i]? = some b := ⟨_, List.getElem?_eq_getElem him⟩
      obtain ⟨g, rfl, hr⟩ := ((unhide HC).below (unhide B2)) (by omega)
      have HR := hide (hr i b hb)
      have hbk := (unhide HB) b (List.mem_of_getElem? hb)
      obtain ⟨cs, hcs⟩ : ∃ cs, cs = bk b.1 b.2 := ⟨_, rfl⟩
      obtain ⟨q, hq⟩ : ∃ q : Nat, q = b.1.toNat := ⟨_, rfl⟩
      have hq1 : b.1 = (q : Int) := by have := hbk.1; omega
      have hcl : cs.length = 33 := by rw [hcs]; exact bk_len _ _ hbk.len
      have h0 : cs[0]? = some (.int .u32 (q : Int)) := by rw [hcs, ← hq1]; rfl
      have h1c : ∀ u ∈ cs, u.oneCell' = true := by rw [hcs]; exact bk_one _ _
      rw [← hcs] at HR
      have SZ : Hid ((Tryd.prog.info? 86).map (·.size) = some cs.length) := by show _ = _; rw [hcl]; exact size86
      have SZA : Hid ((Tryd.prog.info? 86).map (·.size) = some cs.toArray.size) := by show _ = _; rw [List.size_toArray, hcl]; exact size86
      have SA : Hid (((bk 0 (List.replicate 32 0)).toArray).size = cs.toArray.size) := by show _ = _; rw [List.size_toArray, List.size_toArray, hcl]; rfl
      have H1 := hide h1c
      have HCL := hide hcl
      have HCS := hide hcs
      have S5 := hide (blk_alloc (unhide S2) (.cells cs.toArray 86))
      have B5 := hide (below_alloc (unhide B2) (.cells cs.toArray 86))
      have O5 := hide (Kd.R_alloc (unhide O2) (.cells cs.toArray 86))
      have R5 : Hid ((wr.alloc (.cells cs.toArray 86)).heap[wr.heap.size]? = some (.cells cs.toArray 86 (0, 0))) := blk_new _ _
      have f0 : (wr.alloc (.cells cs.toArray 86)).cell? ⟨wr.heap.size, 0, none⟩ = some (.int .u32 (q : Int)) := (blk_cell (unhide R5) 0).trans (by rw [List.getElem?_toArray]; exact h0)
      have d1 : (i : Int) < (m : Int) := by omega
      have HQ1 : Hid (q < 4294967296) := by have := hbk.2.1; show _ < _; omega
      have HQ := hide hq
      have HBK := hide hbk
      have HBB := hide hb
      have HLT := hide hlt
      have e1 : wrap64 (q : Int) = (q : Int) := w64 _ (by have := unhide HQ1; omega) (by have := unhide HQ1; omega)
      have hzl : zs.length ≤ 3000 := by
        rw [unhide HZ, List.length_append]
        have h1 := bsB_len (bs.take i) (fun x hx => (unhide HB) x (List.mem_of_mem_take hx))
        rw [List.length_take] at h1
        have := unhide HL6; have := unhide HL; have := unhide HN; omega
      have HZL := hide hzl
      clear hr hbk hcs hcl h1c him hb hq hq1 h0 hlt hzl
      go_wp2_with (first | refine wpList_load_mid rfl 86 (.tmp 27) rfl g (i * 33) rfl cs _ (unhide HR) Tryd.underlying86 rfl (unhide SZ) ?_ | (refine wpList_store_row rfl 86 (.tmp 7) (.tmp 28) rfl wr.heap.size cs.toArray rfl rfl 86 _ (blk_new wr _) (unhide SZA) (unhide SA) (all_oneCell_toArray (unhide H1)) ?_; rw [World.setRow_alloc_new]))
      generalize wr.alloc (.cells cs.toArray 86) = w5 at S5 B5 O5 R5 f0 ⊢
      try rw [e1]
      refine (num_ok w.heap.size (.slice A1 zs.length c1) zs q w5 (unhide O5) (unhide B5).size (by have := unhide HQ1; omega) (by have := unhide HZL; omega)).mono ?_
      rintro e w7 ⟨A7, c7, rfl, hO7, hB7, hG7⟩
      have S7 : Hid (Sg w7 w.heap.size n (.slice (some ⟨g, 0, none⟩) m c)) := hG7.blk (unhide S5) (Kd.R_ne (unhide O5) (unhide S5) (by decide))
      have R7 : Hid (w7.heap[wr.heap.size]? = some (.cells cs.toArray 86 (0, 0))) := hG7.blk (unhide R5) (Kd.R_ne (unhide O5) (unhide R5) (by decide))
      have B7 := hide ((unhide B5).trans hB7)
      obtain ⟨z7, hz7⟩ : ∃ z, z = zs ++ vnum q := ⟨_, rfl⟩
      rw [← hz7] at hO7 ⊢
      have hl7 : z7.length ≤ 3010 := by rw [hz7, List.length_append]; have := vnum_len 5 q (by have := unhide HQ1; omega); have := unhide HZL; omega
      obtain ⟨s8, hs8⟩ : ∃ z, z = b.2.take 8 := ⟨_, rfl⟩
      have hC8 : Kd.C (Kd.int .u8) w7 (some ⟨wr.heap.size, 1, none⟩) s8.length s8 := by rw [hs8]; exact row8 (v := b.1) (by rw [← unhide HCS]; exact unhide R7) (unhide HBK).len
      have hsl : s8.length = 8 := by rw [hs8, List.length_take, (unhide HBK).len]; rfl
      rw [hsl] at hC8
      have C8 := hide hC8
      have HSL := hide hsl
      have HS8 := hide hs8
      have O7 := hide hO7
      have HZ7 := hide hz7
      have HL7 := hide hl7
      clear hO7 hB7 hG7 hz7 hl7 hC8 hsl hs8 S5 B5 O5 R5 f0 e1
      obtain ⟨⟨_, _, _, _⟩, ⟨_, _, _, _⟩, _⟩ := box4 (unhide S7)
      go_wp2_with (at_builtin; refine unhide ?_)
      refine hide ?_
      refine Kd.R_append_row (w0 := w) (Value.int .u8) (0 : Int) w.heap.size rfl (.tmp 34) (.tmp 38) 22 5 (.int .u8 0) 1 rfl Tryd.underlying22 info5 rfl (by decide) (.slice A7 z7.length c7) z7 s8 (some ⟨wr.heap.size, 1, none⟩) 8 32 (fun _ => True) rfl rfl (fun _ _ => trivial) (unhide O7) (unhide C8) (unhide B7) (unhide B7).size (by have := unhide HL7; omega) ?_
      intro v8 w8 hR8 hB8 hg8 hat8
      have S8 : Hid (Sg w8 w.heap.size n (.slice (some ⟨g, 0, none⟩) m c)) := blk_grown (unhide S7) hg8 (Kd.R_ne (unhide O7) (unhide S7) (by decide))
      obtain ⟨A8, c8, rfl⟩ := Kd.R_slice hR8
      obtain ⟨z8, hz8⟩ : ∃ z, z = z7 ++ s8 := ⟨_, rfl⟩
      rw [← hz8] at hR8 ⊢
      have hlen8 : z7.length + 8 = z8.length := by rw [hz8, List.length_append, unhide HSL]
      have HZ8 := hide hz8
      have O8 := hide hR8
      have B8 := hide hB8
      have HLEN := hide hlen8
      clear hR8 hB8 hg8 hat8 hz8 hlen8
      have e2 : wrap64 ((i : Int) + 1) = ((i + 1 : Nat) : Int) := by have := unhide HLT; have := unhide HM; have := unhide HL; have := unhide HN; rw [w64 _ (by omega) (by omega)]; omega
      have E2 := hide e2
      clear e2
      go_wp2
      go_roundg (gk - 1)
      case measure => have := unhide HI; have := unhide HLT; omega
      case rel => exact ⟨i + 1, A8, c8, z8, congrArg (Value.int .i64) (unhide E2), rfl, (by have := unhide HI; have := unhide HLT; show _ = _; omega), (by show z8 = _; rw [unhide HZ8, unhide HS8, unhide HZ7, unhide HZ, bsB_succ (unhide HBB), unhide HQ]; simp only [List.append_assoc]), S8, O8, B8⟩
    · have d1 : ¬ (i : Int) < (m : Int) := by omega
      have him : bs.length ≤ i := by have := unhide HM; omega
      have hz : zs = sgB n bs := by rw [unhide HZ, List.take_of_length_le him, unhide HXA]
      have HZZ := hide hz
      clear hlt him hz
      go_wp2
      rw [← unhide HZZ]
      refine bodyPost_ret (v := .tuple #[.slice A1 zs.length c1, .int .i64 0]) (by simp [results, Tryd.results55, go_sem]) rfl ⟨A1, c1, rfl, unhide O2, unhide B2⟩
end Go.Proofs.YtgoephcembgmcaaDoor.Bl
namespace Go.Proofs.YtgoephcembgmcaaDoor.Fr
open Go.RowKit Go.Proofs.YtgoephcembgmcaaDoorW.PrintWords Go.Proofs.YtgoephcembgmcaaDoorW.PrintLast Wk FrM Rg
open Sh (Bs bys bys_size bys_one size5 size25)
open WkM (w64)
/-- The first 32 bytes of a row into an array. -/
theorem copy_in (W : World) (g t : Nat) (xs L : List Int) (ad : Addr) (n c : Nat) (h : Bs W g t xs) (hx : xs.length = 32) (hC : Kd.C (Kd.int .u8) W (some ad) n L) (hn : 32 ≤ n) :
    (Builtin.copy_ #[22, 22] 3 #[.slice (some ⟨g, 0, none⟩) 32 32, .slice (some ad) n c]).run Tryd.prog W = .ok (.int .i64 32) (W.setRow g (bys (L.take 32))) := by
  have hl : (L.take 32).length = 32 := by rw [List.length_take, hC.1]; omega
  have h1 := run_copy_row Tryd.prog W 22 22 3 5 g 0 32 32 ad n c (bys xs) t ((L.take 32).map (Value.int .u8)) Tryd.underlying22 size5 h (by rw [List.length_map, hl]; exact (Nat.min_eq_right hn).symm) (fun j v hj => by
    have hj2 : j < 32 := by
      have := (List.getElem?_eq_some_iff.1 hj).1
      rwa [List.length_map, hl] at this
    obtain ⟨ad', ha, hc⟩ := Kd.at_int hC (j : Int) (by omega) (by omega)
    cases ha
    rw [Int.toNat_natCast] at hc
    rw [hc]
    rw [List.getElem?_map, List.getElem?_take, if_pos hj2, List.getElem?_eq_getElem (by rw [hC.1]; omega)] at hj
    rw [← hj]
    unfold rd
    rw [Int.toNat_natCast, List.getD_eq_getElem?_getD, List.getElem?_eq_getElem (by rw [hC.1]; omega)]
    rfl) (by rw [List.length_map, hl, bys_size]; omega) (fun v hv => by
      obtain ⟨x, _, rfl⟩ := List.mem_map.1 hv
      rfl)
  rw [List.length_map, hl] at h1
  have e : ((bys xs).toList.take 0 ++ (L.take 32).map (Value.int .u8) ++ (bys xs).toList.drop (0 + 32)).toArray = bys (L.take 32) := by
    have hl : (bys xs).toList.length ≤ 0 + 32 := by rw [Array.length_toList, bys_size]; omega
    rw [List.drop_of_length_le hl, List.take_zero, List.nil_append, List.append_nil]
    rfl
  rw [e] at h1
  exact h1
theorem Rdr.far {w : World} {g : Nat} {v : Value} {k : Int} (h : Rdr w g v k) {p : Nat} (hp : p ≠ g) (cs : Array Value) : Rdr (w.setRow p cs) g v k := (setRow_other w p g cs (Ne.symm hp)).trans h
theorem KeepBut.row {w w1 : World} {g p : Nat} {row : Option Nat} (h : KeepBut w w1 g row) (hp : w.heap.size ≤ p) (cs : Array Value) : KeepBut w (w1.setRow p cs) g row :=
  ⟨by rw [size_setRow]; exact h.1, fun i hi hg hr => (setRow_other w1 p i cs (by omega)).trans (h.2 i hi hg hr)⟩
def T15_2 : Bool × List (List Nat × List Nat) := (true, [([], []), ([0], [0]), ([1], [1]), ([2], [2]), ([3], [3]), ([4], [4]), ([5], [5]), ([6, 5], [5, 6]), ([7, 5], [5, 7]), ([8, 5], [5, 8]), ([9, 5], [5, 9]), ([5], [5]), ([11, 5], [5, 11]), ([12, 5], [5, 12]), ([13, 5], [5, 13]), ([10, 14, 5], [5, 10, 14]), ([15, 5], [5, 15]), ([5, 16], [5, 16])])
def BT15_2 : List Nat := [0, 1, 3, 7, 15, 31, 63, 127, 255, 511, 1023, 63, 2111, 6207, 14399, 32767, 65535, 131071]
theorem tabT15_2 : rtab .any (opsOf Tryd.f36 2) = T15_2 := by kernel_rfl
theorem bitsT15_2 : waitsOk T15_2.2 BT15_2 = true := by kernel_rfl
def T15_6 : Bool × List (List Nat × List Nat) := (true, [([], []), ([0], [0]), ([1], [1]), ([2], [2]), ([], []), ([], []), ([5], [5]), ([6], [6]), ([7], [7]), ([], []), ([9], [9]), ([10], [10]), ([11], [11]), ([8, 12], [8, 12]), ([4, 13], [4, 13]), ([3, 14], [3, 14]), ([0, 0, 1, 2, 3, 4, 5, 6, 7, 8, 9, 10, 11, 12, 13, 14, 15], [0]), ([16, 0, 1, 2, 3, 4, 5, 6, 7, 8, 9, 10, 11, 12, 13, 14, 15], [16]), ([17, 15, 14, 0, 1, 2, 3, 4, 5, 6, 7, 8, 9, 10, 11, 12, 13, 14, 15], [15, 17])])
def BT15_6 : List Nat := [0, 1, 3, 7, 0, 0, 32, 96, 224, 0, 512, 1536, 3584, 8160, 16368, 32767, 65535, 131071, 262143]
theorem tabT15_6 : rtab .any (opsOf Tryd.f36 6) = T15_6 := by kernel_rfl
theorem bitsT15_6 : waitsOk T15_6.2 BT15_6 = true := by kernel_rfl

set_option maxHeartbeats 2000000 in
set_option maxRecDepth 100000 in
theorem sum_rd (g base : Nat) (ad : Addr) (n c k : Nat) (L sm rest : List Int) (w : World) (h : Rdr w g (.slice (some ad) n c) (k : Int)) (hC : Kd.C (Kd.int .u8) w (some ad) n L) (hL : L.drop k = sm ++ rest) (hs : sm.length = 32) (hn : n ≤ 1000000) (hnc : n ≤ c) (hne : ad.block ≠ g) (hb : base ≤ g) (hk : k ≤ n) :
    Calls Tryd.prog 36 #[.pointer (some ⟨g, 0, none⟩)] w fun e w' => e = .returned (.agg (bys sm)) ∧ Rdr w' g (.slice (some ad) n c) ((k + 32 : Nat) : Int) ∧ Below base w w' ∧ KeepBut w w' g none := by
  have hu := Tryd.underlying155
  have hLn : L.length = n := hC.1
  have hlen : L.length - k = 32 + rest.length := by rw [← List.length_drop, hL, List.length_append, hs]
  obtain ⟨nk, hnk⟩ : ∃ q, q = n - k := ⟨_, rfl⟩
  have E3 : Hid (wrap64 ((n : Int) - (k : Int)) = (nk : Int)) := by show _ = _; rw [w64 _ (by omega) (by omega)]; omega
  have D3 : Hid (¬ (nk : Int) < 32) := by show ¬ _; omega
  have D5 : Hid (32 ≤ nk) := by show _ ≤ _; omega
  obtain ⟨k2, hk2⟩ : ∃ q, q = k + 32 := ⟨_, rfl⟩
  have E1 : Hid (wrap64 ((k : Int) + 32) = (k2 : Int)) := by show _ = _; rw [w64 _ (by omega) (by omega)]; omega
  rw [← hk2]
  obtain ⟨A9, hcut, hcr, hcl⟩ := drop_any (some ad) c L k (by omega) (by omega)
  obtain ⟨M, hM⟩ : ∃ M, M = L.drop k := ⟨_, rfl⟩
  have hMn : M.length = nk := by rw [hM, List.length_drop]; omega
  have hMt : M.take 32 = sm := by rw [hM, hL, ← hs, List.take_left]
  rw [← hM, hLn, hMn] at hcut hcr
  obtain ⟨ad9, rfl⟩ : ∃ a, A9 = some a := by
    obtain ⟨a, ha, _⟩ := Kd.at_int (hcr w hC) 0 (by omega) (by omega)
    exact ⟨a, ha⟩
  have HCUT := hide hcut
  have HCR := hide hcr
  have HMT := hide hMt
  have NG : Hid (g < w.heap.size) := h.cells.2.2
  have R0 : Hid (Rdr ((w.alloc (.cells (bys (List.replicate 32 0)) 28)).alloc (.cells (bys (List.replicate 32 0)) 28)) g (.slice (some ad) n c) (k : Int)) := (h.alloc _).alloc _
  have C0 : Hid (Kd.C (Kd.int .u8) ((w.alloc (.cells (bys (List.replicate 32 0)) 28)).alloc (.cells (bys (List.replicate 32 0)) 28)) (some ad) n L) := Kd.C_alloc (Kd.C_alloc hC _) _
  have B0 : Hid (Below base w ((w.alloc (.cells (bys (List.replicate 32 0)) 28)).alloc (.cells (bys (List.replicate 32 0)) 28))) := ((below_alloc (below_alloc (Below.refl w.heap.size w) _) _)).mono (Nat.le_trans hb (Nat.le_of_lt h.cells.2.2))
  have K0 : Hid (KeepBut w ((w.alloc (.cells (bys (List.replicate 32 0)) 28)).alloc (.cells (bys (List.replicate 32 0)) 28)) g none) := KeepBut.of_below (below_alloc (below_alloc (Below.refl w.heap.size w) _) _) g none
  have X0 : Hid (Bs ((w.alloc (.cells (bys (List.replicate 32 0)) 28)).alloc (.cells (bys (List.replicate 32 0)) 28)) w.heap.size 28 (List.replicate 32 0)) := blk_alloc (blk_new _ _) _
  have X1 : Hid (Bs ((w.alloc (.cells (bys (List.replicate 32 0)) 28)).alloc (.cells (bys (List.replicate 32 0)) 28)) (w.heap.size + 1) 28 (List.replicate 32 0)) := heap_alloc2_new w _ _
  have SZ : Hid ((Tryd.prog.info? 28).map (·.size) = some (bys sm).size) := by show _ = _; rw [bys_size, hs]; exact size25
  have HS := hide hs
  clear h hC hL hlen hLn hnk hcut hcr hcl hM hMn hMt hk2 hs
  go_enter Tryd.func36, Tryd.ntmps36
  go_wp2
  show Code.wp _ _ _ _ ((w.alloc (.cells (bys (List.replicate 32 0)) 28)).alloc (.cells (bys (List.replicate 32 0)) 28))
  obtain ⟨g1, hg1⟩ : ∃ q, q = w.heap.size + 1 := ⟨_, rfl⟩
  rw [← hg1] at X1 ⊢
  have HG1 := hide hg1
  clear hg1
  generalize (w.alloc (.cells (bys (List.replicate 32 0)) 28)).alloc (.cells (bys (List.replicate 32 0)) 28) = w1 at R0 C0 B0 K0 X0 X1 ⊢
  have e3 := unhide E3
  have d3 := unhide D3
  refine start_ (n := 18) (S := fun w' => Rdr w' g (.slice (some ad) n c) (k : Int)) (ds := []) (bt 18 0) (by kernel_rfl) rfl (by kernel_rfl) (unhide R0) (fun hHeld => ?_)
  refine with_tabW tabT15_2 bitsT15_2 (fun HT_ HW_ => ?_)
  refine run_ [(0, 4), (1, 5), (2, 6)] ?_
  iterate 3 ((first | refine sp_ (v := ?_) (a' := ?_) HT_.out rfl rfl rfl (by kernel_rfl) (fun _ _ _ h => h) ?_ ?_ ?_ | refine sg_ (v := ?_) (a' := ?_) HT_.out rfl rfl (by kernel_rfl) (fun _ _ _ h => h) (by rfl) ?_ ?_ ?_); rotate_left; (· intro w'; go_simp; with_reducible rfl); rotate_left; (· simp only [Act.put, List.setIfInBounds_toArray, List.set_cons_zero, List.set_cons_succ, i64_w, i32_w]; rfl))
  refine rend_ ?_
  refine take_ (i := 3) (N := some 7) (v := ?_) (a' := ?_) (bt 18 15) rfl rfl (take_ofW HT_.out HW_.out (by kernel_rfl)) (fun _ _ _ h => h) (Or.inl ⟨by rfl, ?_⟩) hHeld ?_ ?_
  rotate_left
  · rintro w' h1_
    obtain ⟨⟨_, _, _⟩, _, _⟩ := h1_.cells
    go_simp
    with_reducible rfl
  rotate_left
  · simp only [Act.put, List.setIfInBounds_toArray, List.set_cons_zero, List.set_cons_succ, i64_w, i32_w]
    rfl
  refine run_ [(4, 8), (5, 9), (6, 10), (7, 11), (8, 12)] ?_
  iterate 5 ((first | refine sp_ (v := ?_) (a' := ?_) HT_.out rfl rfl rfl (by kernel_rfl) (fun _ _ _ h => h) ?_ ?_ ?_ | refine sg_ (v := ?_) (a' := ?_) HT_.out rfl rfl (by kernel_rfl) (fun _ _ _ h => h) (by rfl) ?_ ?_ ?_); rotate_left; (· intro w'; go_simp; with_reducible rfl); rotate_left; (· simp only [Act.put, List.setIfInBounds_toArray, List.set_cons_zero, List.set_cons_succ, i64_w, i32_w]; rfl))
  refine rend_ ?_
  refine take_ (i := 9) (N := some 13) (v := ?_) (a' := ?_) (bt 18 1023) rfl rfl (take_ofW HT_.out HW_.out (by kernel_rfl)) (fun _ _ _ h => h) (Or.inl ⟨by rfl, ?_⟩) hHeld ?_ ?_
  rotate_left
  · rintro w' h1_
    obtain ⟨⟨_, _, _⟩, _, _⟩ := h1_.cells
    go_simp
    with_reducible rfl
  rotate_left
  · simp only [Act.put, List.setIfInBounds_toArray, List.set_cons_zero, List.set_cons_succ, i64_w, i32_w]
    rfl
  refine run_ [(10, 14), (11, 15), (12, 16), (13, 17)] ?_
  iterate 4 ((first | refine sp_ (v := ?_) (a' := ?_) HT_.out rfl rfl rfl (by kernel_rfl) (fun _ _ _ h => h) ?_ ?_ ?_ | refine sg_ (v := ?_) (a' := ?_) HT_.out rfl rfl (by kernel_rfl) (fun _ _ _ h => h) (by rfl) ?_ ?_ ?_); rotate_left; (· intro w'; go_simp; with_reducible rfl); rotate_left; (· simp only [Act.put, List.setIfInBounds_toArray, List.set_cons_zero, List.set_cons_succ, i64_w, i32_w]; rfl))
  refine rend_ ?_
  refine take_ (i := 14) (N := some 18) (v := ?_) (a' := ?_) (bt 18 32767) rfl rfl (take_ofW HT_.out HW_.out (by kernel_rfl)) (fun _ _ _ h => h) (Or.inl ⟨by rfl, ?_⟩) hHeld ?_ ?_
  rotate_left
  · rintro w' h1_
    obtain ⟨⟨_, _, _⟩, _, _⟩ := h1_.cells
    go_simp
    with_reducible rfl
  rotate_left
  · simp only [Act.put, List.setIfInBounds_toArray, List.set_cons_zero, List.set_cons_succ, i64_w, i32_w]
    rfl
  refine run_ [(15, 19), (16, 20), (17, 21)] ?_
  iterate 3 ((first | refine sp_ (v := ?_) (a' := ?_) HT_.out rfl rfl rfl (by kernel_rfl) (fun _ _ _ h => h) ?_ ?_ ?_ | refine sg_ (v := ?_) (a' := ?_) HT_.out rfl rfl (by kernel_rfl) (fun _ _ _ h => h) (by rfl) ?_ ?_ ?_); rotate_left; (· intro w'; go_simp; with_reducible rfl); rotate_left; (· simp only [Act.put, List.setIfInBounds_toArray, List.set_cons_zero, List.set_cons_succ, i64_w, i32_w]; rfl))
  refine rend_ ?_
  refine done_ (done_of HT_.out (by kernel_rfl)) ?_
  clear HT_ HW_ hHeld
  obtain ⟨⟨m0, m1, m2⟩, m3, m4⟩ := (show Rdr w1.drew g (.slice (some ad) n c) (k : Int) from unhide R0).cells
  clear e3
  go_wp2
  clear m0 m1 m2 m3 m4 d3
  have hcut := unhide HCUT
  have e1 := unhide E1
  refine start_ (n := 19) (S := fun w' => Rdr w' g (.slice (some ad) n c) (k : Int)) (ds := [18]) (bt 19 0) (by kernel_rfl) rfl (by kernel_rfl) (unhide R0) (fun hHeld => ?_)
  refine with_tabW tabT15_6 bitsT15_6 (fun HT_ HW_ => ?_)
  refine run_ [(0, 35), (1, 36), (2, 37)] ?_
  iterate 3 ((first | refine sp_ (v := ?_) (a' := ?_) HT_.out rfl rfl rfl (by kernel_rfl) (fun _ _ _ h => h) ?_ ?_ ?_ | refine sg_ (v := ?_) (a' := ?_) HT_.out rfl rfl (by kernel_rfl) (fun _ _ _ h => h) (by rfl) ?_ ?_ ?_); rotate_left; (· intro w'; go_simp; with_reducible rfl); rotate_left; (· simp only [Act.put, List.setIfInBounds_toArray, List.set_cons_zero, List.set_cons_succ, i64_w, i32_w]; rfl))
  refine rend_ ?_
  refine take_ (i := 3) (N := some 38) (v := ?_) (a' := ?_) (bt 19 15) rfl rfl (take_ofW HT_.out HW_.out (by kernel_rfl)) (fun _ _ _ h => h) (Or.inl ⟨by rfl, ?_⟩) hHeld ?_ ?_
  rotate_left
  · rintro w' h1_
    obtain ⟨⟨_, _, _⟩, _, _⟩ := h1_.cells
    go_simp
    with_reducible rfl
  rotate_left
  · simp only [Act.put, List.setIfInBounds_toArray, List.set_cons_zero, List.set_cons_succ, i64_w, i32_w]
    rfl
  refine run_ [(4, 39), (5, 40), (6, 41), (7, 42)] ?_
  iterate 4 ((first | refine sp_ (v := ?_) (a' := ?_) HT_.out rfl rfl rfl (by kernel_rfl) (fun _ _ _ h => h) ?_ ?_ ?_ | refine sg_ (v := ?_) (a' := ?_) HT_.out rfl rfl (by kernel_rfl) (fun _ _ _ h => h) (by rfl) ?_ ?_ ?_); rotate_left; (· intro w'; go_simp; with_reducible rfl); rotate_left; (· simp only [Act.put, List.setIfInBounds_toArray, List.set_cons_zero, List.set_cons_succ, i64_w, i32_w]; rfl))
  refine rend_ ?_
  refine take_ (i := 8) (N := some 43) (v := ?_) (a' := ?_) (bt 19 511) rfl rfl (take_ofW HT_.out HW_.out (by kernel_rfl)) (fun _ _ _ h => h) (Or.inl ⟨by rfl, ?_⟩) hHeld ?_ ?_
  rotate_left
  · rintro w' h1_
    obtain ⟨⟨_, _, _⟩, _, _⟩ := h1_.cells
    go_simp
    with_reducible rfl
  rotate_left
  · simp only [Act.put, List.setIfInBounds_toArray, List.set_cons_zero, List.set_cons_succ, i64_w, i32_w]
    rfl
  refine run_ [(9, 44), (10, 45), (11, 46)] ?_
  iterate 3 ((first | refine sp_ (v := ?_) (a' := ?_) HT_.out rfl rfl rfl (by kernel_rfl) (fun _ _ _ h => h) ?_ ?_ ?_ | refine sg_ (v := ?_) (a' := ?_) HT_.out rfl rfl (by kernel_rfl) (fun _ _ _ h => h) (by rfl) ?_ ?_ ?_); rotate_left; (· intro w'; go_simp; with_reducible rfl); rotate_left; (· simp only [Act.put, List.setIfInBounds_toArray, List.set_cons_zero, List.set_cons_succ, i64_w, i32_w]; rfl))
  refine rend_ ?_
  refine take_ (i := 12) (N := some 47) (v := ?_) (a' := ?_) (bt 19 8191) rfl rfl (take_ofW HT_.out HW_.out (by kernel_rfl)) (fun _ _ _ h => h) (Or.inl ⟨by rfl, ?_⟩) hHeld ?_ ?_
  rotate_left
  · rintro w' h1_
    obtain ⟨⟨_, _, _⟩, _, _⟩ := h1_.cells
    go_simp
    with_reducible rfl
  rotate_left
  · simp only [Act.put, List.setIfInBounds_toArray, List.set_cons_zero, List.set_cons_succ, i64_w, i32_w]
    rfl
  refine run_ [(13, 48)] ?_
  iterate 1 ((first | refine sp_ (v := ?_) (a' := ?_) HT_.out rfl rfl rfl (by kernel_rfl) (fun _ _ _ h => h) ?_ ?_ ?_ | refine sg_ (v := ?_) (a' := ?_) HT_.out rfl rfl (by kernel_rfl) (fun _ _ _ h => h) (by rfl) ?_ ?_ ?_); rotate_left; (· intro w'; go_simp; with_reducible rfl); rotate_left; (· simp only [Act.put, List.setIfInBounds_toArray, List.set_cons_zero, List.set_cons_succ, i64_w, i32_w]; rfl))
  refine rend_ ?_
  refine one_ (i := 14) (N := some 49) (bt 19 32767) rfl rfl (one_of HT_.out (by kernel_rfl)) (by decide) (fun K hK => ?_)
  have hcp := copy_in w1.drew.drew g1 28 _ M ad9 nk (c - k) (unhide X1) List.length_replicate ((unhide HCR) _ (unhide C0)) (unhide D5)
  rw [unhide HMT] at hcp
  have R3 : Hid (Rdr (w1.drew.drew.setRow g1 (bys sm)) g (.slice (some ad) n c) (k : Int)) := Rdr.far (show Rdr w1.drew.drew g _ _ from unhide R0) (by have := unhide HG1; have := unhide NG; omega) _
  have X3 : Hid (Bs (w1.drew.drew.setRow g1 (bys sm)) w.heap.size 28 (List.replicate 32 0)) := (setRow_other w1.drew.drew g1 w.heap.size _ (by have := unhide HG1; omega)).trans (unhide X0)
  have X4 : Hid (Bs (w1.drew.drew.setRow g1 (bys sm)) g1 28 sm) := (show Bs w1.drew.drew g1 28 (List.replicate 32 0) from unhide X1).row
  have B3 : Hid (Below base w (w1.drew.drew.setRow g1 (bys sm))) := below_setRow (below_drew (below_drew (unhide B0))) (by have := unhide HG1; have := unhide NG; omega) _
  have K3 : Hid (KeepBut w (w1.drew.drew.setRow g1 (bys sm)) g none) := KeepBut.row (show KeepBut w w1.drew.drew g none from unhide K0) (by have := unhide HG1; omega) _
  generalize w1.drew.drew.setRow g1 (bys sm) = w3 at hcp R3 X3 X4 B3 K3
  refine value_ (v := .int .i64 32) (w1 := w3) (by rfl) rfl ?hrun ?_
  case hrun =>
    go_simp
  clear hcp
  clear hHeld
  refine hK.out _ _ (unhide R3) (fun hHeld => ?_)
  clear hK K
  refine norm_ (a' := ?_) ?_ ?_
  rotate_left
  · show Act.put _ (some 49) _ = _
    simp only [Act.put, List.setIfInBounds_toArray, List.set_cons_zero, List.set_cons_succ, i64_w, i32_w]
    rfl
  refine run_ [(15, 50), (16, 51), (17, 52)] ?_
  iterate 3 ((first | refine sp_ (v := ?_) (a' := ?_) HT_.out rfl rfl rfl (by kernel_rfl) (fun _ _ _ h => h) ?_ ?_ ?_ | refine sg_ (v := ?_) (a' := ?_) HT_.out rfl rfl (by kernel_rfl) (fun _ _ _ h => h) (by rfl) ?_ ?_ ?_); rotate_left; (· intro w'; go_simp; with_reducible rfl); rotate_left; (· simp only [Act.put, List.setIfInBounds_toArray, List.set_cons_zero, List.set_cons_succ, i64_w, i32_w]; rfl))
  refine rend_ ?_
  refine last_ (i := 18) (N := none) (bt 19 524287) rfl rfl (one_of HT_.out (by kernel_rfl)) (by decide) (fun K hK => ?_)
  obtain ⟨⟨m0, m1, m2⟩, m3, m4⟩ := (unhide R3).cells
  refine skip_ (w1 := w3.setCell ⟨g, 1, none⟩ (.int .i64 (k2 : Int))) (by rfl) rfl ?hrun ?_
  case hrun =>
    first | (go_simp; done) | (go_simp; rfl)
  refine hK.out _ _ ?_
  clear hK K
  refine done_ (done_of HT_.out (by kernel_rfl)) ?_
  clear HT_ HW_; (try clear hHeld)
  have R4 : Hid (Rdr (w3.setCell ⟨g, 1, none⟩ (.int .i64 (k2 : Int))) g (.slice (some ad) n c) (k2 : Int)) := blk_put (unhide R3) 1 _ rfl
  have X5 : Hid (Bs (w3.setCell ⟨g, 1, none⟩ (.int .i64 (k2 : Int))) w.heap.size 28 (List.replicate 32 0)) := (unhide X3).far (by have := unhide NG; simp; omega) _
  have X6 : Hid (Bs (w3.setCell ⟨g, 1, none⟩ (.int .i64 (k2 : Int))) g1 28 sm) := (unhide X4).far (by have := unhide NG; have := unhide HG1; simp; omega) _
  have B4 : Hid (Below base w (w3.setCell ⟨g, 1, none⟩ (.int .i64 (k2 : Int)))) := (unhide B3).setCell hb _
  have K4 : Hid (KeepBut w (w3.setCell ⟨g, 1, none⟩ (.int .i64 (k2 : Int))) g none) := (unhide K3).set_ 1 _
  clear m0 m1 m2 m3 m4 e1 hcut
  generalize w3.setCell ⟨g, 1, none⟩ (.int .i64 (k2 : Int)) = w4 at R4 X5 X6 B4 K4 ⊢
  go_wp2_with (first | refine wpList_load_row rfl 28 _ rfl g1 rfl 28 _ (0, 0) _ (unhide X6) Tryd.underlying28 rfl (unhide SZ) ?_ | refine wpList_store_row rfl 28 _ _ rfl w.heap.size (bys sm) rfl rfl 28 _ (unhide X5) (unhide SZ) (by rw [bys_size, bys_size, unhide HS]; rfl) (bys_one _) ?_)
  refine bodyPost_ret (v := .agg (bys sm)) ?_ rfl ⟨rfl, ?_, ?_, ?_⟩
  · exact results_cell_row rfl _ _ w.heap.size 28 (bys sm) (0, 0) _ rfl (unhide X5).row Tryd.underlying28 rfl (unhide SZ)
  · exact Rdr.far (unhide R4) (by have := unhide NG; omega) _
  · exact below_setRow (unhide B4) (by have := unhide NG; omega) _
  · exact KeepBut.row (unhide K4) (Nat.le_refl _) _
end Go.Proofs.YtgoephcembgmcaaDoor.Fr
namespace Go.Proofs.YtgoephcembgmcaaDoor.Bl
open Go.RowKit Go.Proofs.YtgoephcembgmcaaDoorW.PrintWords Go.Proofs.YtgoephcembgmcaaDoorW.PrintLast Wk FrM Fr Sh Rg
open WkM (w64 Bytes val)
/-- A reader in block r over the bytes L, before the bytes 'rest'. -/
def RdAt (w : World) (r : Nat) (ad : Addr) (c : Nat) (L rest : List Int) : Prop := ∃ k : Nat, Rdr w r (.slice (some ad) L.length c) (k : Int) ∧ L.drop k = rest ∧ k ≤ L.length
theorem num_at (r base : Nat) (ad : Addr) (c m : Nat) (L rest : List Int) (w : World) (h : RdAt w r ad c L (vnum m ++ rest)) (hC : Kd.C (Kd.int .u8) w (some ad) L.length L) (hm : m ≤ 1099511627776) (hn : L.length ≤ 1000000) (hne : ad.block ≠ r) (hb : base ≤ r) :
    Calls Tryd.prog 33 #[.pointer (some ⟨r, 0, none⟩)] w fun e w' => e = .returned (.int .i64 (m : Int)) ∧ RdAt w' r ad c L rest ∧ Below base w w' ∧ KeepBut w w' r none := by
  obtain ⟨k, hr, hL, hk⟩ := h
  refine (num_rd r base ad L.length c k m L rest w hr hC hL hm hn hne hb).mono ?_
  rintro e w' ⟨h1, h2, h3, h4⟩
  have hl : (L.drop k).length = (vnum m).length + rest.length := by rw [hL, List.length_append]
  rw [List.length_drop] at hl
  exact ⟨h1, ⟨_, h2, by rw [← List.drop_drop, hL, List.drop_left], by omega⟩, h3, h4⟩
theorem byte_at (r base : Nat) (ad : Addr) (c : Nat) (x : Int) (L rest : List Int) (w : World) (h : RdAt w r ad c L (x :: rest)) (hC : Kd.C (Kd.int .u8) w (some ad) L.length L) (hn : L.length ≤ 1000000) (hne : ad.block ≠ r) (hb : base ≤ r) :
    Calls Tryd.prog 37 #[.pointer (some ⟨r, 0, none⟩)] w fun e w' => e = .returned (.int .u8 x) ∧ RdAt w' r ad c L rest ∧ Below base w w' ∧ KeepBut w w' r none := by
  obtain ⟨k, hr, hL, hk⟩ := h
  obtain ⟨h1, h2, h3⟩ := rd_drop hL
  obtain ⟨ad', hA, hcell⟩ := Kd.at_int hC (k : Int) (by omega) (by omega)
  injection hA with hA
  subst hA
  rw [h1] at hcell
  refine (byte_ok r base ad L.length c k x w hr h2 hn hcell hne hb).mono ?_
  rintro e w' ⟨h4, h5, h6, h7⟩
  exact ⟨h4, ⟨_, h5, h3, by omega⟩, h6, h7⟩
theorem errAt (r : Nat) (ad : Addr) (c : Nat) (L rest : List Int) (w : World) (h : RdAt w r ad c L rest) : Calls Tryd.prog 35 #[.pointer (some ⟨r, 0, none⟩)] w fun e w' => e = .returned .nilIface ∧ w = w' := by
  obtain ⟨k, hr, _⟩ := h
  exact err_ok r _ _ w hr
theorem atAt (r : Nat) (ad : Addr) (c : Nat) (L rest : List Int) (w : World) (h : RdAt w r ad c L rest) : Calls Tryd.prog 32 #[.pointer (some ⟨r, 0, none⟩)] w fun e w' => (∃ k : Nat, e = .returned (.int .i64 (k : Int)) ∧ L.drop k = rest ∧ k ≤ L.length) ∧ w = w' := by
  obtain ⟨k, hr, hL, hk⟩ := h
  exact (at_ok r _ _ w hr).mono fun e w' hh => ⟨⟨k, hh.1, hL, hk⟩, hh.2⟩
theorem endAt (r : Nat) (ad : Addr) (c : Nat) (L : List Int) (w : World) (h : RdAt w r ad c L []) : Calls Tryd.prog 40 #[.pointer (some ⟨r, 0, none⟩)] w fun e w' => e = .returned .nilIface ∧ Below w.heap.size w w' := by
  obtain ⟨k, hr, hL, hk⟩ := h
  have : k = L.length := by have h1 := congrArg List.length hL; rw [List.length_drop] at h1; simp at h1; omega
  subst this
  exact end_ok r L.length c (some ad) w hr
theorem RdAt.below {w w1 : World} {r : Nat} {ad : Addr} {c : Nat} {L rest : List Int} (h : RdAt w r ad c L rest) (hb : Below w.heap.size w w1) : RdAt w1 r ad c L rest := by
  obtain ⟨k, hr, h1⟩ := h
  exact ⟨k, blk_below hr hb, h1⟩
theorem RdAt.alloc {w : World} {r : Nat} {ad : Addr} {c : Nat} {L rest : List Int} (h : RdAt w r ad c L rest) (o : Obj) : RdAt (w.alloc o) r ad c L rest := h.below (below_alloc (Below.refl _ _) o)
theorem RdAt.far {w : World} {r : Nat} {ad : Addr} {c : Nat} {L rest : List Int} (h : RdAt w r ad c L rest) {p : Addr} (hp : r ≠ p.block) (u : Value) : RdAt (w.setCell p u) r ad c L rest := by
  obtain ⟨k, hr, h1⟩ := h
  exact ⟨k, blk_far hr hp u, h1⟩
theorem RdAt.grown {w w1 : World} {r : Nat} {ad : Addr} {c : Nat} {L rest : List Int} {row : Option Nat} (h : RdAt w r ad c L rest) (hg : w.grownBy w1 row) (hne : some r ≠ row) : RdAt w1 r ad c L rest := by
  obtain ⟨k, hr, h1⟩ := h
  exact ⟨k, blk_grown hr hg hne, h1⟩
theorem RdAt.ne {α : Type} {d : Kd α} {e base : Nat} {ok : Nat → Prop} {w : World} {r : Nat} {ad : Addr} {c : Nat} {L rest : List Int} {v : Value} {xs : List α} (h : RdAt w r ad c L rest) (ho : d.R e w base ok v xs) (he : e ≠ 155) : some r ≠ v.ownBlock := by
  obtain ⟨k, hr, h1⟩ := h
  exact Kd.R_ne ho hr he
/-- A row over a reader's step. -/
theorem R_rd {α : Type} {d : Kd α} {e base : Nat} {w w1 : World} {r : Nat} {ad : Addr} {c : Nat} {L rest : List Int} {v : Value} {xs : List α} (h : d.R e w base (fun _ => True) v xs) (hr : RdAt w r ad c L rest) (hk : KeepBut w w1 r none) (ht : ∀ q, q ∈ e :: d.E → q ≠ 155) : d.R e w1 base (fun _ => True) v xs := by
  obtain ⟨k, hr, _⟩ := hr
  exact Kd.R_mono (Kd.R_keep (Kd.R_types h hr ht) hk (fun k hk => hk.2)) (fun _ _ => trivial)
theorem blk_rd {w w1 : World} {r g : Nat} {o : Obj} (h : w.heap[g]? = some o) (hk : KeepBut w w1 r none) (hne : g ≠ r) : w1.heap[g]? = some o := (hk.2 g (blk_lt h) hne (by simp)).trans h
theorem blK_155 : ∀ q, q ∈ 86 :: blK.E → q ≠ 155 := by
  intro q hq
  simp [blK, rawK] at hq
  omega
/-- A block's sums, in a block of memory. -/
def Row33 (w : World) (p : Nat) (v : Int) (s : List Int) : Prop := w.heap[p]? = some (.cells (bk v s).toArray 86 (0, 0)) ∧ s.length = 32
theorem bk_set0 (v v' : Int) (s : List Int) : (bk v s).toArray.setIfInBounds 0 (.int .u32 v') = (bk v' s).toArray := by rw [List.setIfInBounds_toArray]; rfl
theorem bk_set (v y : Int) (s : List Int) (i : Nat) : (bk v s).toArray.setIfInBounds (1 + i) (.int .u8 y) = (bk v (s.set i y)).toArray := by
  rw [List.setIfInBounds_toArray, Nat.add_comm 1 i]
  unfold bk
  rw [List.set_cons_succ, List.map_set]
theorem Row33.set0 {w : World} {p : Nat} {v : Int} {s : List Int} (h : Row33 w p v s) (v' : Int) : Row33 (w.setCell ⟨p, 0, none⟩ (.int .u32 v')) p v' s := ⟨blk_put h.1 0 _ (bk_set0 _ _ _), h.2⟩
theorem Row33.set {w : World} {p : Nat} {v : Int} {s : List Int} (h : Row33 w p v s) (i : Nat) (y : Int) : Row33 (w.setCell ⟨p, 1 + i, none⟩ (.int .u8 y)) p v (s.set i y) := ⟨blk_put h.1 (1 + i) _ (bk_set _ _ _ _), by rw [List.length_set]; exact h.2⟩
theorem wpList_lit86 {ops : Array Oper} {rest : List Oper} {o : Oper} {a : Act} {w : World} {Q : Exit → Act → World → Prop} (hg : o.guard = none) (x : Operand) (ho : o.op = .buildSlice 31 1 #[(0, x)]) (v : Int) (s : List Int) (h32 : s.length = 32) (hx : a.eval x = .agg (bk v s).toArray)
    (h : wpList Tryd.prog ops Q rest (a.put o.dst (.slice (some ⟨w.heap.size, 0, none⟩) 1 1)) (w.alloc (.cells (bk v s).toArray 86))) : wpList Tryd.prog ops Q (o :: rest) a w :=
  wpList_plain hg fun _ hK => by
    unfold Oper.wp
    rw [lit86_run v s h32 w o a.eval x ho hx]
    exact hK _ _ h
end Go.Proofs.YtgoephcembgmcaaDoor.Bl
namespace Go.Proofs.YtgoephcembgmcaaDoor.Bl
open Go.RowKit Go.Proofs.YtgoephcembgmcaaDoorW.PrintWords Go.Proofs.YtgoephcembgmcaaDoorW.PrintLast Wk Rg
open Go.Maps Go.WideElems Go.MapKept
open Go.ChangeShapes (lits)
/-! A map of slices of numbers: what a look-up finds, in any world with the same map. -/
theorem one_key : ∀ (l : List MapEntry), l.Pairwise (fun x y => x.key ≠ y.key) → ∀ x ∈ l, ∀ y ∈ l, x.key = y.key → x = y
  | [], _, x, hx, _, _, _ => by cases hx
  | a :: l, h, x, hx, y, hy, e => by
    rw [List.pairwise_cons] at h
    rcases List.mem_cons.1 hx with rfl | hx'
    · rcases List.mem_cons.1 hy with rfl | hy
      · rfl
      · exact absurd e (h.1 y hy)
    · rcases List.mem_cons.1 hy with rfl | hy
      · exact absurd e.symm (h.1 _ hx')
      · exact one_key l h.2 x hx' y hy e
section
variable {P : Program} {t k E e : TypeId} {q : IntKind} {base b n : Nat} {D : DataW Unit} {w : World} {key : Value} {kl : Lit}
theorem look_all (h : w.ownsGroups P k base e q b n D) (K : Keyed P k) (ht : P.underlying t = some (.map k E)) (hz : ∀ W, (zeroValue E).run P W = .ok (.slice none 0 0) W) (hn : n < maxLen) (hkey : keyOf P k key = some kl) :
    ∃ v zs, (∀ w1, w1.heap[b]? = w.heap[b]? → (Instr.lookup t (.map (some b)) key false).run P w1 = .ok v w1) ∧ D.atKey kl .nil = rowDatum q v zs ∧ w.ownsInts base e q v zs ∧ zs.length ≤ n ∧ w.groupBack P t k base e q b n D key kl v := by
  obtain ⟨es, clock, hb, F, hs, rfl, hbb, hlen, hap⟩ := h
  have hd : es.toList.Pairwise (fun x y => x.key ≠ y.key) := ((stamped_iff es clock).1 F.stamped).2.2
  rcases Maps.fit_look false K ht (hz w) hb F hkey with ⟨hrun, hno, hat⟩ | ⟨e0, y, hm0, h3, hrun, hR, hat, _⟩
  · refine ⟨.slice none 0 0, [], fun w1 h1 => ?_, hat _, World.ownsInts_nil _ _ _ _, Nat.zero_le _, groups_back K ht hb F hs hn hbb hlen hap hkey (fun x _ _ => ?_) (by simp [Value.ownBlock])⟩
    · rcases Maps.fit_look false K ht (hz w1) (h1.trans hb) F hkey with ⟨hrun1, _, _⟩ | ⟨e1, _, hm1, h31, _⟩
      · exact hrun1
      · exact absurd h31 (hno e1 hm1)
    · cases x.val.ownBlock <;> simp [Value.ownBlock]
  · obtain ⟨zs, ho, rfl⟩ := rowElem_inv hR
    refine ⟨e0.val, zs, fun w1 h1 => ?_, hat _, ho, hlen e0 hm0 zs ho, groups_back K ht hb F hs hn hbb hlen hap hkey (fun x hx hne => hap x hx e0 hm0 (by rw [h3]; exact hne)) (fun e1 => ?_)⟩
    · rcases Maps.fit_look false K ht (hz w1) (h1.trans hb) F hkey with ⟨_, hno, _⟩ | ⟨e1, _, hm1, h31, hrun1, _⟩
      · exact absurd h3 (hno e0 hm0)
      · rw [one_key _ hd e1 hm1 e0 hm0 (h31.trans h3.symm)] at hrun1
        exact hrun1
    · have := (ho.1.lt b e1).1
      omega
end
theorem lits_inj {q : IntKind} : ∀ {xs ys : List Int}, lits (H := Unit) q xs = lits q ys → xs = ys
  | [], [], _ => rfl
  | [], y :: ys, h => by simp [lits] at h
  | x :: xs, [], h => by simp [lits] at h
  | x :: xs, y :: ys, h => by
    simp only [lits, List.map_cons, List.cons.injEq, DataW.lit.injEq, Lit.int.injEq, true_and] at h
    obtain ⟨h1, h2⟩ := h
    rw [h1, lits_inj (q := q) h2]
/-- All numbers in the map are below m. -/
def Good (m : Nat) (D : DataW Unit) : Prop := ∀ kl zs, D.atKey kl .nil = .slice (lits .i64 zs) [] → ∀ z ∈ zs, 0 ≤ z ∧ z < (m : Int)
theorem Good.nil (m : Nat) : Good m (.map []) := fun kl zs h => by simp [DataW.atKey] at h
theorem Good.at {m : Nat} {D : DataW Unit} {w : World} {base e : Nat} {v : Value} {zs : List Int} {kl : Lit} (h : Good m D) (hat : D.atKey kl .nil = rowDatum .i64 v zs) (ho : w.ownsInts base e .i64 v zs) : ∀ z ∈ zs, 0 ≤ z ∧ z < (m : Int) := by
  rcases ho.datum (H := Unit) with ⟨h1, h2⟩ | h1
  · rw [h2]; intro z hz; cases hz
  · exact h kl zs (hat.trans h1)
theorem Good.put {m : Nat} {D : DataW Unit} {w : World} {base e : Nat} {v : Value} {zs : List Int} {kl : Lit} (h : Good m D) (hD : IsMap D) (hk : WideAt.IsKeyLit kl) (ho : w.ownsInts base e .i64 v zs) (hz : ∀ z ∈ zs, 0 ≤ z ∧ z < (m : Int)) : Good m (D.put kl (rowDatum .i64 v zs)) := by
  intro kl' ys hy
  by_cases he : kl' = kl
  · subst he
    rw [atKey_put_same hD hk] at hy
    rcases ho.datum (H := Unit) with ⟨h1, h2⟩ | h1
    · rw [h1] at hy; cases hy
    · rw [h1] at hy
      have : ys = zs := by injection hy with hy; exact (lits_inj hy).symm
      rw [this]
      exact hz
  · rw [atKey_put_other he] at hy
    exact h kl' ys hy
theorem groups_isMap {P : Program} {k base e b n : Nat} {q : IntKind} {D : DataW Unit} {w : World} (h : w.ownsGroups P k base e q b n D) : IsMap D := by
  obtain ⟨es, clock, _, _, _, rfl, _⟩ := h
  exact ⟨_, rfl⟩
end Go.Proofs.YtgoephcembgmcaaDoor.Bl
namespace Go.Proofs.YtgoephcembgmcaaDoor.Bl
open Go.RowKit Go.Proofs.YtgoephcembgmcaaDoorW.PrintWords Go.Proofs.YtgoephcembgmcaaDoorW.PrintLast Wk FrM Fr Sh Rg
open WkM (w64 Bytes val)
open Go.Maps Go.WideElems Go.MapKept
/-- A table in block tb: the signature, the map in block mb. -/
def Tbl (w : World) (tb n : Nat) (v : Value) (mb : Nat) : Prop := w.heap[tb]? = some (.cells #[.int .i64 4, .int .i64 8, .int .i64 (n : Int), v, .map (some mb)] 183 (0, 0))
theorem box5 {wr : World} {g t : Nat} {x y z u v : Value} (h : wr.heap[g]? = some (.cells #[x, y, z, u, v] t (0, 0))) :
    (wr.cell? ⟨g, 0, none⟩ = some x ∧ wr.cell? ⟨g, 1, none⟩ = some y ∧ wr.cell? ⟨g, 2, none⟩ = some z ∧ wr.cell? ⟨g, 3, none⟩ = some u ∧ wr.cell? ⟨g, 4, none⟩ = some v) ∧ g < wr.heap.size :=
  ⟨⟨(blk_cell h 0).trans rfl, (blk_cell h 1).trans rfl, (blk_cell h 2).trans rfl, (blk_cell h 3).trans rfl, (blk_cell h 4).trans rfl⟩, blk_lt h⟩
theorem keyed84 : Keyed Tryd.prog 84 := int_keyed Tryd.underlying84
theorem zero184 : ∀ W : World, (zeroValue 184).run Tryd.prog W = .ok (.slice none 0 0) W := fun W => by kernel_rfl
theorem key84 (q : Nat) (h : q < 4294967296) : keyOf Tryd.prog 84 (.int .u32 (q : Int)) = some (.int .u32 (q : Int)) := keyOf_int_mk Tryd.underlying84 (WalkArith.wf_u32 (by omega))
theorem wf64 (i : Nat) (h : i < 1000000) : (Lit.int .i64 (i : Int)).wf = true := WalkArith.wf_i64 (by omega)
theorem mkMap181 : ∀ W : World, (Instr.makeMap 181 none).run Tryd.prog W = .ok (.map (some W.heap.size)) (W.alloc (.map #[] 0)) := fun W => by kernel_rfl
theorem groups_grown {w w1 : World} {k base b n : Nat} {e : TypeId} {q : IntKind} {D : DataW Unit} (h : w.ownsGroups Tryd.prog k base e q b n D) (hg : w.grownBy w1 none) : w1.ownsGroups Tryd.prog k base e q b n D :=
  h.kept hg (by simp) (fun es clock hb x hx => by cases x.val.ownBlock <;> simp)
theorem groups_below {w w1 : World} {k base e b n : Nat} {q : IntKind} {D : DataW Unit} (h : w.ownsGroups Tryd.prog k base e q b n D) (hb : Below w.heap.size w w1) : w1.ownsGroups Tryd.prog k base e q b n D :=
  groups_grown h ⟨hb.os, hb.tape, hb.output, hb.size, fun k hk _ => hb.block k hk⟩
theorem mapUp_run {P : Program} {t : TypeId} {m x v : Operand} {ev : Operand → Value} {o : Oper} {M K V : Value} {w w2 : World} (hop : o.op = .mapUpdate t m x v) (hm : ev m = M) (hx : ev x = K) (hv : ev v = V) (hrun : (Instr.mapUpdate t M K V).run P w = .ok () w2) : (execOp ev o).run P w = .ok .skip w2 := by
  unfold execOp
  rw [hop]
  simp [hm, hx, hv, hrun, Result.andThen]
theorem step_append_ints {ops : Array Oper} {o : Oper} {a : Act} {K : Act → World → Prop} {Q : Exit → Act → World → Prop} {W : World} (base : Nat) (hw : Region.wanted o (yielded ops a.tmps) = true) (s x : Operand) (ho : o.op = .call { callee := .builtin .append, args := #[s, x], argTypes := #[184, 184] })
    (v : Value) (zs : List Int) (i : Int) (hs : a.eval s = v) (hx : a.eval x = .slice (some ⟨W.heap.size, 0, none⟩) 1 1) (HO : W.ownsInts base 3 .i64 v zs) (hi : (Lit.int .i64 i).wf = true) (hbase : base ≤ W.heap.size) (hl : (zs.length + 1) * 8 ≤ 140737488355328)
    (h : ∀ v1 w1, w1.ownsInts base 3 .i64 v1 (zs ++ [i]) → W.grownBy w1 v.ownBlock → (v1.ownBlock = v.ownBlock ∨ ∃ b, v1.ownBlock = some b ∧ W.heap.size ≤ b) → K (a.put o.dst v1) w1) :
    if Region.wanted o (yielded ops a.tmps) = true then Oper.wp Tryd.prog o a (W.alloc (.cells #[.int .i64 i] 3)) K Q else K (a.put o.dst undef) (W.alloc (.cells #[.int .i64 i] 3)) := by
  refine step_append_cells (W := W) (w0 := W) base hw s x 184 3 (.int .i64 0) 1 8 ho Tryd.underlying184 (by kernel_rfl) rfl (by decide) (by decide) v zs.length (zs.map (Value.int .i64)) [.int .i64 i] hs hx rfl (by intro u hu; rw [List.mem_singleton] at hu; subst hu; rfl) HO.1 (Below.refl _ _) hbase hl ?_
  intro v1 w1 hown1 hb1 hg1 hat1
  exact h v1 w1 (HO.appended hown1 hi) hg1 hat1
def T61_5 : Bool × List (List Nat × List Nat) := (true, [([], []), ([0], [0]), ([1], [1]), ([2], [2]), ([], []), ([4], [4]), ([], []), ([6], [6]), ([7], [7]), ([8], [8]), ([], []), ([10], [10]), ([9, 11], [9, 11]), ([], []), ([13], [13]), ([12, 14], [12, 14]), ([3, 5, 15, 15, 0, 1, 2, 3, 4, 5, 6, 7, 8, 9, 10, 11, 12, 13, 14, 15], [3, 5, 15])])
def BT61_5 : List Nat := [0, 1, 3, 7, 0, 16, 0, 64, 192, 448, 0, 1024, 4032, 0, 8192, 32704, 65535]
theorem tabT61_5 : rtab .any (opsOf Tryd.f61 5) = T61_5 := by kernel_rfl
theorem bitsT61_5 : waitsOk T61_5.2 BT61_5 = true := by kernel_rfl

set_option maxHeartbeats 4000000 in
set_option maxRecDepth 100000 in
theorem index_ok (A : Option Addr) (c n : Nat) (bs : List (Int × List Int)) (w : World) (hC : BkC w A bs) (hbs : ∀ b ∈ bs, Blk b) (hl : bs.length = (n + 3) / 4) (hn : n ≤ 500) :
    Calls Tryd.prog 61 #[sgV n (.slice A bs.length c)] w fun e w' => ∃ (tb mb : Nat) (D : DataW Unit), e = .returned (.pointer (some ⟨tb, 0, none⟩)) ∧ Tbl w' tb n (.slice A bs.length c) mb ∧ w'.ownsGroups Tryd.prog 84 (mb + 1) 3 .i64 mb bs.length D ∧ Good bs.length D ∧ Below w.heap.size w w' := by
  obtain ⟨m, hm⟩ : ∃ m, m = bs.length := ⟨_, rfl⟩
  have HL : Hid (m ≤ 200) := by show _ ≤ _; omega
  rw [← hm]
  have HM := hide hm
  have HC := hide hC
  have HB := hide hbs
  clear hm hl hn hC hbs
  go_enter Tryd.func61, Tryd.ntmps61
  have mk := mkMap181
  go_wp2
  clear mk
  obtain ⟨mb, hmb⟩ : ∃ z, z = w.heap.size + 1 := ⟨_, rfl⟩
  obtain ⟨tb, htb⟩ : ∃ z, z = w.heap.size + 1 + 1 := ⟨_, rfl⟩
  have G0 : (((w.alloc (.cells #[.int .i64 4, .int .i64 8, .int .i64 (n : Int), .slice A m c] 33)).alloc (.map #[] 0))).ownsGroups (H := Unit) Tryd.prog 84 (mb + 1) 3 .i64 mb 0 (.map []) := by
    have h := World.ownsGroups_made (H := Unit) (w.alloc (.cells #[.int .i64 4, .int .i64 8, .int .i64 (n : Int), .slice A m c] 33)) Tryd.prog 84 3 .i64
    rw [World.size_alloc] at h
    rw [hmb]
    exact h
  have S0 : Sg ((((w.alloc (.cells #[.int .i64 4, .int .i64 8, .int .i64 (n : Int), .slice A m c] 33)).alloc (.map #[] 0))).alloc (.cells #[.int .i64 4, .int .i64 8, .int .i64 (n : Int), .slice A m c, .map (some (w.heap.size + 1))] 183)) w.heap.size n (.slice A m c) := blk_alloc (blk_alloc (blk_new _ _) _) _
  have T0 : Tbl ((((w.alloc (.cells #[.int .i64 4, .int .i64 8, .int .i64 (n : Int), .slice A m c] 33)).alloc (.map #[] 0))).alloc (.cells #[.int .i64 4, .int .i64 8, .int .i64 (n : Int), .slice A m c, .map (some (w.heap.size + 1))] 183)) tb n (.slice A m c) mb := by
    have h := blk_new ((w.alloc (.cells #[.int .i64 4, .int .i64 8, .int .i64 (n : Int), .slice A m c] 33)).alloc (.map #[] 0)) (.cells #[.int .i64 4, .int .i64 8, .int .i64 (n : Int), .slice A m c, .map (some (w.heap.size + 1))] 183)
    rw [World.size_alloc, World.size_alloc] at h
    rw [htb, hmb]
    exact h
  have B0 : Below w.heap.size w ((((w.alloc (.cells #[.int .i64 4, .int .i64 8, .int .i64 (n : Int), .slice A m c] 33)).alloc (.map #[] 0))).alloc (.cells #[.int .i64 4, .int .i64 8, .int .i64 (n : Int), .slice A m c, .map (some (w.heap.size + 1))] 183)) := below_alloc (below_alloc (below_alloc (Below.refl _ _) _) _) _
  have G1 := groups_below G0 (below_alloc (Below.refl _ _) (.cells #[.int .i64 4, .int .i64 8, .int .i64 (n : Int), .slice A m c, .map (some (w.heap.size + 1))] 183))
  rw [← htb, ← hmb]
  rw [← hmb] at S0 T0 B0 G1
  clear G0
  generalize (((w.alloc (.cells #[.int .i64 4, .int .i64 8, .int .i64 (n : Int), .slice A m c] 33)).alloc (.map #[] 0))).alloc (.cells #[.int .i64 4, .int .i64 8, .int .i64 (n : Int), .slice A m c, .map (some mb)] 183) = w1 at S0 T0 B0 G1 ⊢
  have HMB : Hid (w.heap.size < mb) := by show _ < _; omega
  have HTB : Hid (w.heap.size < tb ∧ tb ≠ mb) := by show _ ∧ _; omega
  have S0 := hide S0
  have T0 := hide T0
  have B0 := hide B0
  have G1 := hide G1
  clear hmb htb
  go_loopg [13] m (fun kq v13 wr => ∃ (i : Nat) (D : DataW Unit), v13 = .int .i64 (i : Int) ∧ Hid (i + kq = m) ∧ Hid (Sg wr w.heap.size n (.slice A m c)) ∧ Hid (Tbl wr tb n (.slice A m c) mb) ∧ Hid (wr.ownsGroups Tryd.prog 84 (mb + 1) 3 .i64 mb i D) ∧ Hid (Good m D) ∧ Hid (Below w.heap.size w wr))
  case atStart => exact ⟨0, .map [], rfl, Nat.zero_add _, S0, T0, G1, Good.nil m, B0⟩
  case round =>
    obtain ⟨i, D, rfl, HI, S2, T2, G2, HG, B2⟩ := hrel
    by_cases hlt : i < m
    · have him : i < bs.length := by have := unhide HM; omega
      obtain ⟨b, hb⟩ : ∃ b, bs[i]? = some b := ⟨_, List.getElem?_eq_getElem him⟩
      obtain ⟨g, rfl, hr⟩ := ((unhide HC).below (unhide B2)) (by omega)
      have HR := hide (hr i b hb)
      have hbk := (unhide HB) b (List.mem_of_getElem? hb)
      obtain ⟨cs, hcs⟩ : ∃ cs, cs = bk b.1 b.2 := ⟨_, rfl⟩
      obtain ⟨q, hq⟩ : ∃ q : Nat, q = b.1.toNat := ⟨_, rfl⟩
      have hq1 : b.1 = (q : Int) := by have := hbk.1; omega
      have hcl : cs.length = 33 := by rw [hcs]; exact bk_len _ _ hbk.len
      have h0 : cs[0]? = some (.int .u32 (q : Int)) := by rw [hcs, ← hq1]; rfl
      have h1c : ∀ u ∈ cs, u.oneCell' = true := by rw [hcs]; exact bk_one _ _
      rw [← hcs] at HR
      have SZ : Hid ((Tryd.prog.info? 86).map (·.size) = some cs.length) := by show _ = _; rw [hcl]; exact size86
      have SZA : Hid ((Tryd.prog.info? 86).map (·.size) = some cs.toArray.size) := by show _ = _; rw [List.size_toArray, hcl]; exact size86
      have SA : Hid (((bk 0 (List.replicate 32 0)).toArray).size = cs.toArray.size) := by show _ = _; rw [List.size_toArray, List.size_toArray, hcl]; rfl
      have H1 := hide h1c
      have H0 := hide h0
      have d1 : (i : Int) < (m : Int) := by omega
      have HQ1 : Hid (q < 4294967296) := by have := hbk.2.1; show _ < _; omega
      have HLT := hide hlt
      clear hr hbk hcs hcl h1c him hb hq hq1 h0 hlt
      go_wp2_with (first | refine wpList_load_mid rfl 86 (.tmp 16) rfl g (i * 33) rfl cs _ (unhide HR) Tryd.underlying86 rfl (unhide SZ) ?_ | (refine wpList_store_row rfl 86 (.tmp 5) (.tmp 17) rfl wr.heap.size cs.toArray rfl rfl 86 _ (blk_new wr _) (unhide SZA) (unhide SA) (all_oneCell_toArray (unhide H1)) ?_; rw [World.setRow_alloc_new]))
      obtain ⟨p, hp⟩ : ∃ p, p = wr.heap.size := ⟨_, rfl⟩
      have S3 := hide (blk_alloc (unhide S2) (.cells cs.toArray 86))
      have T3 : Hid (Tbl (wr.alloc (.cells cs.toArray 86)) tb n (.slice (some ⟨g, 0, none⟩) m c) mb) := blk_alloc (unhide T2) _
      have B3 := hide (below_alloc (unhide B2) (.cells cs.toArray 86))
      have G3 := hide (groups_below (unhide G2) (below_alloc (Below.refl _ _) (.cells cs.toArray 86)))
      have R3 : Hid ((wr.alloc (.cells cs.toArray 86)).heap[p]? = some (.cells cs.toArray 86 (0, 0))) := by show _ = _; rw [hp]; exact blk_new _ _
      have HPW : Hid (w.heap.size < p ∧ p ≠ mb) := by
        have h1 := (unhide B2).size
        have h2 := blk_lt (unhide S2)
        obtain ⟨es, clock, hb, _⟩ := unhide G2
        have h3 := blk_lt hb
        show _ ∧ _
        omega
      rw [← hp]
      generalize wr.alloc (.cells cs.toArray 86) = w3 at S3 T3 B3 G3 R3 ⊢
      clear S2 T2 B2 G2 SZ SZA SA hp
      have SD : Hid (Sg w3.drew w.heap.size n (.slice (some ⟨g, 0, none⟩) m c)) := unhide S3
      have TD : Tbl w3.drew tb n (.slice (some ⟨g, 0, none⟩) m c) mb := unhide T3
      have BD := hide (below_drew (unhide B3))
      have GD := groups_grown (unhide G3) (w1 := w3.drew) ⟨rfl, rfl, rfl, Nat.le_refl _, fun k hk _ => rfl⟩
      have RD : w3.drew.heap[p]? = some (.cells cs.toArray 86 (0, 0)) := unhide R3
      obtain ⟨v, zs, hlook, hat, hoi, hzl, hback⟩ := look_all GD keyed84 Tryd.underlying181 zero184 (by have := unhide HLT; have := unhide HL; simp only [maxLen]; omega) (key84 q (unhide HQ1))
      have HMLT : Hid (mb < w3.drew.heap.size) := by obtain ⟨es, clock, hb, _⟩ := GD; exact blk_lt hb
      have TD := hide TD
      have RD := hide RD
      have GD := hide GD
      have HLOOK := hide hlook
      have HAT := hide hat
      have HOI := hide hoi
      have HZL := hide hzl
      have HBACK := hide hback
      clear hlook hat hoi hzl hback S3 T3 B3 G3 R3
      have e1 : wrap64 ((i : Int) + 1) = ((i + 1 : Nat) : Int) := by have := unhide HLT; have := unhide HL; rw [w64 _ (by omega) (by omega)]; omega
      have E1 := hide e1
      clear e1
      simp only [Act.put]
      refine start_ (n := 17) (S := fun w' => Tbl w' tb n (.slice (some ⟨g, 0, none⟩) m c) mb ∧ w'.heap[p]? = some (.cells cs.toArray 86 (0, 0)) ∧ w'.heap[mb]? = w3.drew.heap[mb]?) (ds := [16]) (bt 17 0) (by kernel_rfl) rfl (by kernel_rfl) ⟨unhide TD, unhide RD, rfl⟩ (fun hHeld => ?_)
      refine with_tabW tabT61_5 bitsT61_5 (fun HT_ HW_ => ?_)
      refine run_ [(0, 18), (1, 19), (2, 20)] ?_
      iterate 3 ((first | refine sp_ (v := ?_) (a' := ?_) HT_.out rfl rfl rfl (by kernel_rfl) (fun _ _ _ h => h) ?_ ?_ ?_ | refine sg_ (v := ?_) (a' := ?_) HT_.out rfl rfl (by kernel_rfl) (fun _ _ _ h => h) (by rfl) ?_ ?_ ?_); rotate_left; (· intro w'; go_simp; with_reducible rfl); rotate_left; (· simp only [Act.put, List.setIfInBounds_toArray, List.set_cons_zero, List.set_cons_succ, i64_w, i32_w]; rfl))
      refine rend_ ?_
      refine take_ (i := 3) (N := some 21) (v := ?_) (a' := ?_) (bt 17 15) rfl rfl (take_ofW HT_.out HW_.out (by kernel_rfl)) (fun _ _ _ h => h) (Or.inl ⟨by rfl, ?_⟩) hHeld ?_ ?_
      rotate_left
      · rintro w' ⟨h1_, h2_, h3_⟩
        obtain ⟨⟨_, _, _, _, _⟩, _⟩ := box5 h1_
        have c0_ := (blk_cell h2_ 0).trans ((List.getElem?_toArray).trans (unhide H0))
        have hl_ := (unhide HLOOK) w' h3_
        go_simp
        with_reducible rfl
      rotate_left
      · simp only [Act.put, List.setIfInBounds_toArray, List.set_cons_zero, List.set_cons_succ, i64_w, i32_w]
        rfl
      refine run_ [(4, 22)] ?_
      iterate 1 ((first | refine sp_ (v := ?_) (a' := ?_) HT_.out rfl rfl rfl (by kernel_rfl) (fun _ _ _ h => h) ?_ ?_ ?_ | refine sg_ (v := ?_) (a' := ?_) HT_.out rfl rfl (by kernel_rfl) (fun _ _ _ h => h) (by rfl) ?_ ?_ ?_); rotate_left; (· intro w'; go_simp; with_reducible rfl); rotate_left; (· simp only [Act.put, List.setIfInBounds_toArray, List.set_cons_zero, List.set_cons_succ, i64_w, i32_w]; rfl))
      refine rend_ ?_
      refine take_ (i := 5) (N := some 23) (v := ?_) (a' := ?_) (bt 17 63) rfl rfl (take_ofW HT_.out HW_.out (by kernel_rfl)) (fun _ _ _ h => h) (Or.inl ⟨by rfl, ?_⟩) hHeld ?_ ?_
      rotate_left
      · rintro w' ⟨h1_, h2_, h3_⟩
        obtain ⟨⟨_, _, _, _, _⟩, _⟩ := box5 h1_
        have c0_ := (blk_cell h2_ 0).trans ((List.getElem?_toArray).trans (unhide H0))
        have hl_ := (unhide HLOOK) w' h3_
        go_simp
        with_reducible rfl
      rotate_left
      · simp only [Act.put, List.setIfInBounds_toArray, List.set_cons_zero, List.set_cons_succ, i64_w, i32_w]
        rfl
      refine run_ [(6, 24), (7, 25), (8, 26)] ?_
      iterate 3 ((first | refine sp_ (v := ?_) (a' := ?_) HT_.out rfl rfl rfl (by kernel_rfl) (fun _ _ _ h => h) ?_ ?_ ?_ | refine sg_ (v := ?_) (a' := ?_) HT_.out rfl rfl (by kernel_rfl) (fun _ _ _ h => h) (by rfl) ?_ ?_ ?_); rotate_left; (· intro w'; go_simp; with_reducible rfl); rotate_left; (· simp only [Act.put, List.setIfInBounds_toArray, List.set_cons_zero, List.set_cons_succ, i64_w, i32_w]; rfl))
      refine rend_ ?_
      refine take_ (i := 9) (N := some 27) (v := ?_) (a' := ?_) (bt 17 1023) rfl rfl (take_ofW HT_.out HW_.out (by kernel_rfl)) (fun _ _ _ h => h) (Or.inl ⟨by rfl, ?_⟩) hHeld ?_ ?_
      rotate_left
      · rintro w' ⟨h1_, h2_, h3_⟩
        obtain ⟨⟨_, _, _, _, _⟩, _⟩ := box5 h1_
        have c0_ := (blk_cell h2_ 0).trans ((List.getElem?_toArray).trans (unhide H0))
        have hl_ := (unhide HLOOK) w' h3_
        go_simp
        with_reducible rfl
      rotate_left
      · simp only [Act.put, List.setIfInBounds_toArray, List.set_cons_zero, List.set_cons_succ, i64_w, i32_w]
        rfl
      refine run_ [(10, 28)] ?_
      iterate 1 ((first | refine sp_ (v := ?_) (a' := ?_) HT_.out rfl rfl rfl (by kernel_rfl) (fun _ _ _ h => h) ?_ ?_ ?_ | refine sg_ (v := ?_) (a' := ?_) HT_.out rfl rfl (by kernel_rfl) (fun _ _ _ h => h) (by rfl) ?_ ?_ ?_); rotate_left; (· intro w'; go_simp; with_reducible rfl); rotate_left; (· simp only [Act.put, List.setIfInBounds_toArray, List.set_cons_zero, List.set_cons_succ, i64_w, i32_w]; rfl))
      refine rend_ ?_
      refine take_ (i := 11) (N := some 29) (v := ?_) (a' := ?_) (bt 17 4095) rfl rfl (take_ofW HT_.out HW_.out (by kernel_rfl)) (fun _ _ _ h => h) (Or.inl ⟨by rfl, ?_⟩) hHeld ?_ ?_
      rotate_left
      · rintro w' ⟨h1_, h2_, h3_⟩
        obtain ⟨⟨_, _, _, _, _⟩, _⟩ := box5 h1_
        have c0_ := (blk_cell h2_ 0).trans ((List.getElem?_toArray).trans (unhide H0))
        have hl_ := (unhide HLOOK) w' h3_
        go_simp
        with_reducible rfl
      rotate_left
      · simp only [Act.put, List.setIfInBounds_toArray, List.set_cons_zero, List.set_cons_succ, i64_w, i32_w]
        rfl
      refine take_ (i := 12) (N := some 30) (v := ?_) (a' := ?_) (bt 17 8191) rfl rfl (take_ofW HT_.out HW_.out (by kernel_rfl)) (fun _ _ _ h => h) (Or.inl ⟨by rfl, ?_⟩) hHeld ?_ ?_
      rotate_left
      · rintro w' ⟨h1_, h2_, h3_⟩
        obtain ⟨⟨_, _, _, _, _⟩, _⟩ := box5 h1_
        have c0_ := (blk_cell h2_ 0).trans ((List.getElem?_toArray).trans (unhide H0))
        have hl_ := (unhide HLOOK) w' h3_
        go_simp
        with_reducible rfl
      rotate_left
      · simp only [Act.put, List.setIfInBounds_toArray, List.set_cons_zero, List.set_cons_succ, i64_w, i32_w]
        rfl
      refine run_ [(13, 31)] ?_
      iterate 1 ((first | refine sp_ (v := ?_) (a' := ?_) HT_.out rfl rfl rfl (by kernel_rfl) (fun _ _ _ h => h) ?_ ?_ ?_ | refine sg_ (v := ?_) (a' := ?_) HT_.out rfl rfl (by kernel_rfl) (fun _ _ _ h => h) (by rfl) ?_ ?_ ?_); rotate_left; (· intro w'; go_simp; with_reducible rfl); rotate_left; (· simp only [Act.put, List.setIfInBounds_toArray, List.set_cons_zero, List.set_cons_succ, i64_w, i32_w]; rfl))
      refine rend_ ?_
      refine one_ (i := 14) (N := some 32) (bt 17 32767) rfl rfl (one_of HT_.out (by kernel_rfl)) (by decide) (fun K hK => ?_)
      refine value_ (v := .slice (some ⟨w3.drew.heap.size, 0, none⟩) 1 1) (w1 := w3.drew.alloc (.cells #[.int .i64 (i : Int)] 3)) (wanted_none rfl) rfl ?hrun ?_
      case hrun =>
        go_simp
      clear hHeld
      refine hK.out _ _ ⟨blk_alloc (unhide TD) _, blk_alloc (unhide RD) _, Below.heap_alloc _ _ mb (unhide HMLT)⟩ (fun hHeld => ?_)
      clear hK K
      refine norm_ (a' := ?_) ?_ ?_
      rotate_left
      · show Act.put _ (some 32) _ = _
        simp only [Act.put, List.setIfInBounds_toArray, List.set_cons_zero, List.set_cons_succ, i64_w, i32_w]
        rfl
      refine one_ (i := 15) (N := some 33) (bt 17 65535) rfl rfl (one_of HT_.out (by kernel_rfl)) (by decide) (fun K hK => ?_)
      refine step_append_ints (W := w3.drew) (mb + 1) (wanted_none rfl) (.tmp 30) (.tmp 32) rfl v zs (i : Int) rfl rfl (unhide HOI) (WalkArith.wf_i64 (by have := unhide HLT; have := unhide HL; omega)) (unhide HMLT) (by have := unhide HZL; have := unhide HLT; have := unhide HL; omega) ?_
      intro v1 w1 OI hg1 hat1
      have T1 : Tbl w1 tb n (.slice (some ⟨g, 0, none⟩) m c) mb := blk_grown (unhide TD) hg1 (own_ne (unhide HOI).1 (unhide TD) (by decide))
      have R1 : w1.heap[p]? = some (.cells cs.toArray 86 (0, 0)) := blk_grown (unhide RD) hg1 (own_ne (unhide HOI).1 (unhide RD) (by decide))
      have M1 : w1.heap[mb]? = w3.drew.heap[mb]? := hg1.block mb (unhide HMLT) (fun he => by have := ((unhide HOI).1.lt mb he.symm).1; omega)
      have S1 := hide (blk_grown (unhide SD) hg1 (own_ne (unhide HOI).1 (unhide SD) (by decide)))
      obtain ⟨w2, hrun, hown2, hg2⟩ := (unhide HBACK) w1 v1 (zs ++ [(i : Int)]) hg1 OI (by have := unhide HZL; rw [List.length_append, List.length_singleton]; omega) hat1
      have B2 := hide (RowKit.Below.groups (unhide BD) (unhide HOI) hg1 hg2 (unhide BD).size (by have := unhide HMB; omega) (by have := unhide HMB; omega))
      have G2 := hide hown2
      have HG2 := hide ((unhide HG).put (groups_isMap (unhide GD)) (keyed84.key (key84 q (unhide HQ1))) OI (fun z hz => by rcases List.mem_append.1 hz with hz | hz; exact (unhide HG).at (unhide HAT) (unhide HOI) z hz; rw [List.mem_singleton] at hz; subst hz; have := unhide HLT; omega))
      have S2 : Hid (Sg w2 w.heap.size n (.slice (some ⟨g, 0, none⟩) m c)) := blk_grown (unhide S1) hg2 (by have := unhide HMB; intro he; injection he with he; omega)
      have T2 : Hid (Tbl w2 tb n (.slice (some ⟨g, 0, none⟩) m c) mb) := blk_grown T1 hg2 (by have := unhide HTB; intro he; injection he with he; omega)
      have HRUN := hide hrun
      clear hrun hown2 hat1
      clear hHeld
      refine hK.out _ _ ⟨T1, R1, M1⟩ (fun hHeld => ?_)
      clear hg1 hg2 T1 R1 M1 OI
      clear hK K
      refine norm_ (a' := ?_) ?_ ?_
      rotate_left
      · show Act.put _ (some 33) _ = _
        simp only [Act.put, List.setIfInBounds_toArray, List.set_cons_zero, List.set_cons_succ, i64_w, i32_w]
        rfl
      refine last_ (i := 16) (N := none) (bt 17 131071) rfl rfl (one_of HT_.out (by kernel_rfl)) (by decide) (fun K hK => ?_)
      refine skip_ (w1 := w2) (wanted_none rfl) rfl (mapUp_run (t := 181) rfl rfl rfl rfl (unhide HRUN)) ?_
      refine hK.out _ _ ?_
      clear hK K
      refine done_ (done_of HT_.out (by kernel_rfl)) ?_
      clear HT_ HW_; (try clear hHeld)
      go_wp2
      go_roundg (gk - 1)
      case measure => have := unhide HI; have := unhide HLT; omega
      case rel => exact ⟨i + 1, _, by first | exact congrArg (Value.int .i64) (unhide E1) | exact congrArg (Value.int .i64) (by omega), by have := unhide HI; have := unhide HLT; show _ = _; omega, S2, T2, G2, HG2, B2⟩
    · have d1 : ¬ (i : Int) < (m : Int) := by omega
      have him : i = m := by have := unhide HI; omega
      subst him
      clear hlt
      go_wp2
      go_ret
      exact ⟨tb, rfl, mb, unhide T2, D, unhide G2, unhide HG, unhide B2⟩
end Go.Proofs.YtgoephcembgmcaaDoor.Bl
