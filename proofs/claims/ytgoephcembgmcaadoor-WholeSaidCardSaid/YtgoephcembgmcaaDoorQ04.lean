import Derived.Test.YtgoephcembgmcaaDoorQ03
import Derived.Test.YtgoephcembgmcaaDoorWGuard
import Derived.Test.YtgoephcembgmcaaDoorWQPut
set_option linter.unusedSimpArgs false
set_option linter.unusedVariables false
namespace Go.Proofs.YtgoephcembgmcaaDoor.Sh
open Go.RowKit Go.Proofs.YtgoephcembgmcaaDoorW.PrintWords Go.Proofs.YtgoephcembgmcaaDoorW.PrintLast Wk FrM Fr Rg
open WkM (w64)
def T20_7 : Bool × List (List Nat × List Nat) := (true, [([], []), ([], []), ([], []), ([2], [2]), ([1, 3], [1, 3]), ([4], [4]), ([5], [5]), ([6], [6]), ([], []), ([], []), ([9], [9]), ([10], [10]), ([8, 11], [8, 11]), ([12], [12]), ([13], [13]), ([14], [14]), ([7, 15], [7, 15]), ([], []), ([], []), ([18], [18]), ([19], [19]), ([17, 20], [17, 20]), ([21], [21]), ([22], [22]), ([23], [23]), ([16, 24], [16, 24]), ([], []), ([], []), ([27], [27]), ([28], [28]), ([26, 29], [26, 29]), ([30], [30]), ([31], [31]), ([25, 32], [25, 32]), ([0, 0, 1, 2, 3, 4, 5, 6, 7, 8, 9, 10, 11, 12, 13, 14, 15, 16, 17, 18, 19, 20, 21, 22, 23, 24, 25, 26, 27, 28, 29, 30, 31, 32, 33], [0]), ([34, 33, 0, 1, 2, 3, 4, 5, 6, 7, 8, 9, 10, 11, 12, 13, 14, 15, 16, 17, 18, 19, 20, 21, 22, 23, 24, 25, 26, 27, 28, 29, 30, 31, 32, 33], [33, 34])])
def BT20_7 : List Nat := [0, 0, 0, 4, 14, 30, 62, 126, 0, 0, 512, 1536, 3840, 7936, 16128, 32512, 65534, 0, 0, 262144, 786432, 1966080, 4063232, 8257536, 16646144, 33554430, 0, 0, 134217728, 402653184, 1006632960, 2080374784, 4227858432, 8589934590, 17179869183, 34359738367]
theorem tabT20_7 : rtab .any (opsOf Tryd.f93 7) = T20_7 := by kernel_rfl
theorem bitsT20_7 : waitsOk T20_7.2 BT20_7 = true := by kernel_rfl
def T20_4 : Bool × List (List Nat × List Nat) := (true, [([], []), ([0], [0]), ([1], [1]), ([2], [2]), ([], []), ([4], [4]), ([5], [5]), ([6], [6]), ([3, 0, 1, 2, 3], [3]), ([7, 8, 0, 1, 2, 3, 4, 5, 6, 7, 8], [7])])
def BT20_4 : List Nat := [0, 1, 3, 7, 0, 16, 48, 112, 15, 511]
theorem tabT20_4 : rtab .any (opsOf Tryd.f93 4) = T20_4 := by kernel_rfl
theorem bitsT20_4 : waitsOk T20_4.2 BT20_4 = true := by kernel_rfl
def T20_5 : Bool × List (List Nat × List Nat) := (true, [([], []), ([], []), ([1], [1]), ([2], [2]), ([3], [3]), ([], []), ([5], [5]), ([], []), ([7, 6], [7]), ([6, 8], [6, 8]), ([], []), ([10], [10]), ([9, 11], [9, 11]), ([4, 12], [4, 12]), ([], []), ([14], [14]), ([15], [15]), ([16], [16]), ([13, 17], [13, 17]), ([], []), ([19, 8], [19]), ([], []), ([21, 20], [21]), ([20, 22], [20, 22]), ([], []), ([24], [24]), ([23, 25], [23, 25]), ([18, 26], [18, 26]), ([0, 0, 1, 2, 3, 4, 5, 6, 7, 8, 9, 10, 11, 12, 13, 14, 15, 16, 17, 18, 19, 20, 21, 22, 23, 24, 25, 26, 27], [0]), ([28, 27, 22, 0, 1, 2, 3, 4, 5, 6, 7, 8, 9, 10, 11, 12, 13, 14, 15, 16, 17, 18, 19, 20, 21, 22, 23, 24, 25, 26, 27], [27, 28])])
def BT20_5 : List Nat := [0, 0, 2, 6, 14, 0, 32, 0, 224, 480, 0, 1024, 4064, 8190, 0, 16384, 49152, 114688, 262142, 0, 524768, 0, 3670496, 7864800, 0, 16777216, 66585056, 134217726, 268435455, 536870911]
theorem tabT20_5 : rtab .any (opsOf Tryd.f93 5) = T20_5 := by kernel_rfl
theorem bitsT20_5 : waitsOk T20_5.2 BT20_5 = true := by kernel_rfl
def T20_13 : Bool × List (List Nat × List Nat) := (true, [([], []), ([0], [0]), ([], []), ([2], [2]), ([1, 0, 1], [1]), ([3, 4, 0, 1, 2, 3, 4], [3])])
def BT20_13 : List Nat := [0, 1, 0, 4, 3, 31]
theorem tabT20_13 : rtab .any (opsOf Tryd.f93 13) = T20_13 := by kernel_rfl
theorem bitsT20_13 : waitsOk T20_13.2 BT20_13 = true := by kernel_rfl
def T20_14 : Bool × List (List Nat × List Nat) := (true, [([], []), ([0], [0]), ([], []), ([2], [2]), ([], []), ([4, 3], [4]), ([3, 5], [3, 5]), ([], []), ([7, 5], [7]), ([6, 8], [6, 8]), ([1, 9], [1, 9]), ([], []), ([], []), ([12], [12]), ([11, 13], [11, 13]), ([], []), ([15], [15]), ([], []), ([17], [17]), ([16, 18], [16, 18]), ([14, 19], [14, 19]), ([10, 20], [10, 20]), ([], []), ([], []), ([22], [22]), ([24, 23], [23, 24]), ([25], [25]), ([21, 26], [21, 26]), ([], []), ([27, 28], [27, 28]), ([29, 8, 0, 1, 2, 3, 4, 5, 6, 7, 8, 9, 10, 11, 12, 13, 14, 15, 16, 17, 18, 19, 20, 21, 22, 23, 24, 25, 26, 27, 28, 29], [29])])
def BT20_14 : List Nat := [0, 1, 0, 4, 0, 28, 60, 0, 188, 508, 1023, 0, 0, 4096, 14336, 0, 32768, 0, 131072, 491520, 1046528, 2097151, 0, 0, 4194304, 29360128, 62914560, 134217727, 0, 536870911, 1073741823]
theorem tabT20_14 : rtab .any (opsOf Tryd.f93 14) = T20_14 := by kernel_rfl
theorem bitsT20_14 : waitsOk T20_14.2 BT20_14 = true := by kernel_rfl
def T20_15 : Bool × List (List Nat × List Nat) := (true, [([], []), ([0], [0]), ([], []), ([2, 1], [2]), ([1, 3], [1, 3]), ([], []), ([5, 3], [5]), ([4, 6], [4, 6]), ([], []), ([], []), ([9], [9]), ([8, 10], [8, 10]), ([], []), ([], []), ([13], [13]), ([12, 14], [12, 14]), ([11, 15], [11, 15]), ([], []), ([17], [17]), ([], []), ([19], [19]), ([18, 20], [18, 20]), ([16, 21], [16, 21]), ([7, 22], [7, 22]), ([23, 6, 0, 1, 2, 3, 4, 5, 6, 7, 8, 9, 10, 11, 12, 13, 14, 15, 16, 17, 18, 19, 20, 21, 22, 23], [23])])
def BT20_15 : List Nat := [0, 1, 0, 7, 15, 0, 47, 127, 0, 0, 512, 1792, 0, 0, 8192, 28672, 65280, 0, 131072, 0, 524288, 1966080, 4194048, 8388607, 16777215]
theorem tabT20_15 : rtab .any (opsOf Tryd.f93 15) = T20_15 := by kernel_rfl
theorem bitsT20_15 : waitsOk T20_15.2 BT20_15 = true := by kernel_rfl
def T20_16 : Bool × List (List Nat × List Nat) := (true, [([], []), ([], []), ([0, 1], [0, 1])])
def BT20_16 : List Nat := [0, 0, 3]
theorem tabT20_16 : rtab .any (opsOf Tryd.f93 16) = T20_16 := by kernel_rfl
theorem bitsT20_16 : waitsOk T20_16.2 BT20_16 = true := by kernel_rfl
def T20_22 : Bool × List (List Nat × List Nat) := (true, [([], []), ([], []), ([0], [0]), ([2, 1], [1, 2]), ([3], [3]), ([], []), ([5], [5]), ([6], [6]), ([4, 7], [4, 7]), ([0], [0]), ([9, 1, 0, 1, 2, 3, 4, 5, 6, 7, 8], [1, 9]), ([10, 8, 0, 1, 2, 3, 4, 5, 6, 7, 8], [8, 10])])
def BT20_22 : List Nat := [0, 0, 1, 7, 15, 0, 32, 96, 255, 1, 1023, 2047]
theorem tabT20_22 : rtab .any (opsOf Tryd.f93 22) = T20_22 := by kernel_rfl
theorem bitsT20_22 : waitsOk T20_22.2 BT20_22 = true := by kernel_rfl

set_option maxHeartbeats 2000000 in
set_option maxRecDepth 100000 in
theorem block_ok (ph pk n c base : Nat) (ad : Addr) (hs ks b : List Int) (w : World) (h1 : Ws w ph 189 hs) (hl : hs.length = 8) (hU : Us hs) (h2 : Kd.C (Kd.int .u8) w (some ad) n b) (hn : 64 ≤ n) (hN : n ≤ 1000000) (h3 : Ws w pk 190 ks) (hk : ks.length = 64) (hb : base ≤ ph) :
    Calls Tryd.prog 93 #[.pointer (some ⟨ph, 0, none⟩), .slice (some ad) n c, .pointer (some ⟨pk, 0, none⟩)] w fun e w' => e = .returned (.tuple #[]) ∧ Ws w' ph 189 (comp ks hs b) ∧ Below base w w' ∧ KeepBut w w' ph none := by
  have H1 := hide h1
  have H2 := hide h2
  have H3 := hide h3
  clear h1 h2 h3
  go_enter Tryd.func93, Tryd.ntmps93
  go_wp2
  go_loopg [18] 64 (fun kq v18 wr => ∃ i : Nat, v18 = .int .i64 (i : Int) ∧ Hid (i + kq = 64) ∧ Hid (Ws wr w.heap.size 190 (wrow b i)) ∧ Hid (Below w.heap.size w wr))
  case atStart => exact ⟨0, rfl, Nat.zero_add _, blk_new _ _, below_alloc (Below.refl _ _) _⟩
  case round =>
    obtain ⟨i, rfl, HI, HW, HB⟩ := hrel
    obtain ⟨ws, hwe⟩ : ∃ ws, ws = wrow b i := ⟨_, rfl⟩
    have hws := unhide HW
    rw [← hwe] at hws
    have hwl : ws.length = 64 := by rw [hwe]; exact wrow_len b i
    have hwu : Us ws := by rw [hwe]; exact wrow_u b i
    have HWE := hide hwe
    clear hwe
    have HWS : Hid (Ws wr.drew w.heap.size 190 ws) := hws
    clear hws
    have hi64 : i ≤ 64 := by have := unhide HI; omega
    by_cases hlt : i < 64
    · by_cases h16 : i < 16
      · obtain ⟨p0, hp0⟩ : ∃ p : Nat, p = 4 * i := ⟨_, rfl⟩
        obtain ⟨p1, hp1⟩ : ∃ p : Nat, p = 4 * i + 1 := ⟨_, rfl⟩
        obtain ⟨p2, hp2⟩ : ∃ p : Nat, p = 4 * i + 2 := ⟨_, rfl⟩
        obtain ⟨p3, hp3⟩ : ∃ p : Nat, p = 4 * i + 3 := ⟨_, rfl⟩
        have P0 : Hid ((p0 = 4 * i ∧ p1 = 4 * i + 1 ∧ p2 = 4 * i + 2 ∧ p3 = 4 * i + 3) ∧ p0 < n ∧ p1 < n ∧ p2 < n ∧ p3 < n) := ⟨⟨hp0, hp1, hp2, hp3⟩, by omega⟩
        have d16 : (i : Int) < 16 := by omega
        have d64 : (i : Int) < 64 := by omega
        have E0 : Hid (wrap64 (4 * (i : Int)) = (p0 : Int)) := by show _ = _; rw [w64 _ (by omega) (by omega)]; omega
        have E1 : Hid (wrap64 ((p0 : Int) + 1) = (p1 : Int)) := by show _ = _; rw [w64 _ (by omega) (by omega)]; omega
        have E2 : Hid (wrap64 ((p0 : Int) + 2) = (p2 : Int)) := by show _ = _; rw [w64 _ (by omega) (by omega)]; omega
        have E3 : Hid (wrap64 ((p0 : Int) + 3) = (p3 : Int)) := by show _ = _; rw [w64 _ (by omega) (by omega)]; omega
        have HLT := hide h16
        clear hp0 hp1 hp2 hp3 hi64 h16 hlt
        have HC : ∀ q : Nat, q < n → wr.cell? (ad.add q) = some (.int .u8 (rd b (q : Int))) := fun q hq => by
          obtain ⟨ad', ha, hc⟩ := Kd.at_int (unhide H2) (q : Int) (by omega) (by omega)
          cases ha
          rw [Int.toNat_natCast] at hc
          exact ((unhide HB).cell (World.block_lt_of_cell? w _ hc)).trans hc
        obtain ⟨x0, hx0⟩ : ∃ x, x = rd b (p0 : Int) := ⟨_, rfl⟩
        obtain ⟨x1, hx1⟩ : ∃ x, x = rd b (p1 : Int) := ⟨_, rfl⟩
        obtain ⟨x2, hx2⟩ : ∃ x, x = rd b (p2 : Int) := ⟨_, rfl⟩
        obtain ⟨x3, hx3⟩ : ∃ x, x = rd b (p3 : Int) := ⟨_, rfl⟩
        have C0 : Hid (wr.cell? (ad.add p0) = some (.int .u8 x0)) := by rw [hx0]; exact HC _ (by have := unhide P0; omega)
        have C1 : Hid (wr.cell? (ad.add p1) = some (.int .u8 x1)) := by rw [hx1]; exact HC _ (by have := unhide P0; omega)
        have C2 : Hid (wr.cell? (ad.add p2) = some (.int .u8 x2)) := by rw [hx2]; exact HC _ (by have := unhide P0; omega)
        have C3 : Hid (wr.cell? (ad.add p3) = some (.int .u8 x3)) := by rw [hx3]; exact HC _ (by have := unhide P0; omega)
        clear HC
        have HX := hide (And.intro hx0 (And.intro hx1 (And.intro hx2 hx3)))
        clear hx0 hx1 hx2 hx3
        go_wp2
        clear d16 d64
        have e0 := unhide E0
        have e1 := unhide E1
        have e2 := unhide E2
        have e3 := unhide E3
        obtain ⟨g0, g1, g2, g3⟩ := (unhide P0).2
        refine start_ (n := 36) (S := fun w' => w'.cell? (ad.add p0) = some (.int .u8 x0) ∧ w'.cell? (ad.add p1) = some (.int .u8 x1) ∧ w'.cell? (ad.add p2) = some (.int .u8 x2) ∧ w'.cell? (ad.add p3) = some (.int .u8 x3)) (ds := [35]) (bt 36 0) (by kernel_rfl) rfl (by kernel_rfl) ⟨unhide C0, unhide C1, unhide C2, unhide C3⟩ (fun hHeld => ?_)
        refine with_tabW tabT20_7 bitsT20_7 (fun HT_ HW_ => ?_)
        refine run_ [(0, 61), (1, 62), (2, 63), (3, 64), (4, 65)] ?_
        iterate 5 ((first | refine sp_ (v := ?_) (a' := ?_) HT_.out rfl rfl rfl (by kernel_rfl) (fun _ _ _ h => h) ?_ ?_ ?_ | refine sg_ (v := ?_) (a' := ?_) HT_.out rfl rfl (by kernel_rfl) (fun _ _ _ h => h) (by rfl) ?_ ?_ ?_); rotate_left; (· intro w'; go_simp; with_reducible rfl); rotate_left; (· simp only [Act.put, List.setIfInBounds_toArray, List.set_cons_zero, List.set_cons_succ, i64_w, i32_w]; rfl))
        refine rend_ ?_
        refine take_ (i := 5) (N := some 66) (v := ?_) (a' := ?_) (bt 36 63) rfl rfl (take_ofW HT_.out HW_.out (by kernel_rfl)) (fun _ _ _ h => h) (Or.inl ⟨by rfl, ?_⟩) hHeld ?_ ?_
        rotate_left
        · rintro w' ⟨_, _, _, _⟩
          skip
          go_simp
          with_reducible rfl
        rotate_left
        · simp only [Act.put, List.setIfInBounds_toArray, List.set_cons_zero, List.set_cons_succ, i64_w, i32_w]
          rfl
        refine run_ [(6, 67), (7, 68), (8, 69), (9, 70), (10, 71), (11, 72), (12, 73)] ?_
        iterate 7 ((first | refine sp_ (v := ?_) (a' := ?_) HT_.out rfl rfl rfl (by kernel_rfl) (fun _ _ _ h => h) ?_ ?_ ?_ | refine sg_ (v := ?_) (a' := ?_) HT_.out rfl rfl (by kernel_rfl) (fun _ _ _ h => h) (by rfl) ?_ ?_ ?_); rotate_left; (· intro w'; go_simp; with_reducible rfl); rotate_left; (· simp only [Act.put, List.setIfInBounds_toArray, List.set_cons_zero, List.set_cons_succ, i64_w, i32_w]; rfl))
        refine rend_ ?_
        refine take_ (i := 13) (N := some 74) (v := ?_) (a' := ?_) (bt 36 16383) rfl rfl (take_ofW HT_.out HW_.out (by kernel_rfl)) (fun _ _ _ h => h) (Or.inl ⟨by rfl, ?_⟩) hHeld ?_ ?_
        rotate_left
        · rintro w' ⟨_, _, _, _⟩
          skip
          go_simp
          with_reducible rfl
        rotate_left
        · simp only [Act.put, List.setIfInBounds_toArray, List.set_cons_zero, List.set_cons_succ, i64_w, i32_w]
          rfl
        refine run_ [(14, 75), (15, 76), (16, 77), (17, 78), (18, 79), (19, 80), (20, 81), (21, 82)] ?_
        iterate 8 ((first | refine sp_ (v := ?_) (a' := ?_) HT_.out rfl rfl rfl (by kernel_rfl) (fun _ _ _ h => h) ?_ ?_ ?_ | refine sg_ (v := ?_) (a' := ?_) HT_.out rfl rfl (by kernel_rfl) (fun _ _ _ h => h) (by rfl) ?_ ?_ ?_); rotate_left; (· intro w'; go_simp; with_reducible rfl); rotate_left; (· simp only [Act.put, List.setIfInBounds_toArray, List.set_cons_zero, List.set_cons_succ, i64_w, i32_w]; rfl))
        refine rend_ ?_
        refine take_ (i := 22) (N := some 83) (v := ?_) (a' := ?_) (bt 36 8388607) rfl rfl (take_ofW HT_.out HW_.out (by kernel_rfl)) (fun _ _ _ h => h) (Or.inl ⟨by rfl, ?_⟩) hHeld ?_ ?_
        rotate_left
        · rintro w' ⟨_, _, _, _⟩
          skip
          go_simp
          with_reducible rfl
        rotate_left
        · simp only [Act.put, List.setIfInBounds_toArray, List.set_cons_zero, List.set_cons_succ, i64_w, i32_w]
          rfl
        refine run_ [(23, 84), (24, 85), (25, 86), (26, 87), (27, 88), (28, 89), (29, 90), (30, 91)] ?_
        iterate 8 ((first | refine sp_ (v := ?_) (a' := ?_) HT_.out rfl rfl rfl (by kernel_rfl) (fun _ _ _ h => h) ?_ ?_ ?_ | refine sg_ (v := ?_) (a' := ?_) HT_.out rfl rfl (by kernel_rfl) (fun _ _ _ h => h) (by rfl) ?_ ?_ ?_); rotate_left; (· intro w'; go_simp; with_reducible rfl); rotate_left; (· simp only [Act.put, List.setIfInBounds_toArray, List.set_cons_zero, List.set_cons_succ, i64_w, i32_w]; rfl))
        refine rend_ ?_
        refine take_ (i := 31) (N := some 92) (v := ?_) (a' := ?_) (bt 36 4294967295) rfl rfl (take_ofW HT_.out HW_.out (by kernel_rfl)) (fun _ _ _ h => h) (Or.inl ⟨by rfl, ?_⟩) hHeld ?_ ?_
        rotate_left
        · rintro w' ⟨_, _, _, _⟩
          skip
          go_simp
          with_reducible rfl
        rotate_left
        · simp only [Act.put, List.setIfInBounds_toArray, List.set_cons_zero, List.set_cons_succ, i64_w, i32_w]
          rfl
        refine run_ [(32, 93), (33, 94)] ?_
        iterate 2 ((first | refine sp_ (v := ?_) (a' := ?_) HT_.out rfl rfl rfl (by kernel_rfl) (fun _ _ _ h => h) ?_ ?_ ?_ | refine sg_ (v := ?_) (a' := ?_) HT_.out rfl rfl (by kernel_rfl) (fun _ _ _ h => h) (by rfl) ?_ ?_ ?_); rotate_left; (· intro w'; go_simp; with_reducible rfl); rotate_left; (· simp only [Act.put, List.setIfInBounds_toArray, List.set_cons_zero, List.set_cons_succ, i64_w, i32_w]; rfl))
        refine rend_ ?_
        have d64 : (i : Int) < 64 := by have := unhide HLT; omega
        refine run_ [(34, 95)] ?_
        iterate 1 ((first | refine sp_ (v := ?_) (a' := ?_) HT_.out rfl rfl rfl (by kernel_rfl) (fun _ _ _ h => h) ?_ ?_ ?_ | refine sg_ (v := ?_) (a' := ?_) HT_.out rfl rfl (by kernel_rfl) (fun _ _ _ h => h) (by rfl) ?_ ?_ ?_); rotate_left; (· intro w'; go_simp; with_reducible rfl); rotate_left; (· simp only [Act.put, List.setIfInBounds_toArray, List.set_cons_zero, List.set_cons_succ, i64_w, i32_w]; rfl))
        refine rend_ ?_
        refine last_ (i := 35) (N := none) (bt 36 68719476735) rfl rfl (one_of HT_.out (by kernel_rfl)) (by decide) (fun K hK => ?_)
        have hws := unhide HWS
        have hcell := hws.cell i (by have := unhide HLT; omega)
        have hfroz := hws.frozen i
        clear hws
        refine skip_ (w1 := ?w7) (by rfl) rfl ?hrun ?_
        case hrun =>
          go_simp
          rfl
        refine hK.out _ _ ?_
        clear hK K
        refine done_ (done_of HT_.out (by kernel_rfl)) ?_
        clear HT_ HW_; (try clear hHeld)

        have W1 : Hid (Ws (wr.setCell ⟨w.heap.size, i, none⟩ (.int .u32 (wnew4 x0 x1 x2 x3))) w.heap.size 190 (wrow b (i + 1))) := by
          obtain ⟨⟨q0, q1, q2, q3⟩, _⟩ := unhide P0
          obtain ⟨f0, f1, f2, f3⟩ := unhide HX
          have h1 := (unhide HWS).put i (wnew4 x0 x1 x2 x3)
          rw [unhide HWE] at h1
          rw [f0, f1, f2, f3, q0, q1, q2, q3] at h1 ⊢
          show Ws _ _ _ _
          rw [wrow, wone, if_pos (unhide HLT)]
          exact h1
        have B1 : Hid (Below w.heap.size w (wr.setCell ⟨w.heap.size, i, none⟩ (.int .u32 (wnew4 x0 x1 x2 x3))).drew) := below_drew (below_set (unhide HB) (Nat.le_refl _))
        clear e0 e1 e2 e3 g0 g1 g2 g3 C0 C1 C2 C3 P0 E0 E1 E2 E3 HWS HB hcell hfroz
        show Exit.inBlock 2 _ _ _ ((wr.setCell ⟨w.heap.size, i, none⟩ (.int .u32 (wnew4 x0 x1 x2 x3))).drew)
        generalize wnew4 x0 x1 x2 x3 = X at W1 B1 ⊢
        go_wp2
        go_roundg (gk - 1)
        case measure => have := unhide HI; have := unhide HLT; omega
        case rel =>
          have := unhide HI
          have := unhide HLT
          exact ⟨i + 1, by go_num, by show i + 1 + (gk - 1) = 64; omega, unhide W1, unhide B1⟩
      · have HLT := hide (show 16 ≤ i ∧ i < 64 by omega)
        obtain ⟨p15, hp15⟩ : ∃ p : Nat, p = i - 15 := ⟨_, rfl⟩
        obtain ⟨p2, hp2⟩ : ∃ p : Nat, p = i - 2 := ⟨_, rfl⟩
        obtain ⟨p16, hp16⟩ : ∃ p : Nat, p = i - 16 := ⟨_, rfl⟩
        obtain ⟨p7, hp7⟩ : ∃ p : Nat, p = i - 7 := ⟨_, rfl⟩
        have P0 : Hid ((p15 = i - 15 ∧ p2 = i - 2 ∧ p16 = i - 16 ∧ p7 = i - 7) ∧ (p15 : Int) < 64 ∧ (p2 : Int) < 64 ∧ (p16 : Int) < 64 ∧ (p7 : Int) < 64) := ⟨⟨hp15, hp2, hp16, hp7⟩, by omega⟩
        have d16 : ¬ (i : Int) < 16 := by omega
        have d64 : (i : Int) < 64 := by omega
        have E15 : Hid (wrap64 ((i : Int) - 15) = (p15 : Int)) := by show _ = _; rw [w64 _ (by omega) (by omega)]; omega
        have E2 : Hid (wrap64 ((i : Int) - 2) = (p2 : Int)) := by show _ = _; rw [w64 _ (by omega) (by omega)]; omega
        have E16 : Hid (wrap64 ((i : Int) - 16) = (p16 : Int)) := by show _ = _; rw [w64 _ (by omega) (by omega)]; omega
        have E7 : Hid (wrap64 ((i : Int) - 7) = (p7 : Int)) := by show _ = _; rw [w64 _ (by omega) (by omega)]; omega
        clear hp15 hp2 hp16 hp7 hi64 h16 hlt
        obtain ⟨x, hx⟩ : ∃ x, x = rd ws (p15 : Int) := ⟨_, rfl⟩
        obtain ⟨y, hy⟩ : ∃ x, x = rd ws (p2 : Int) := ⟨_, rfl⟩
        obtain ⟨z, hz⟩ : ∃ x, x = rd ws (p16 : Int) := ⟨_, rfl⟩
        obtain ⟨v, hv⟩ : ∃ x, x = rd ws (p7 : Int) := ⟨_, rfl⟩
        have hws := unhide HWS
        have CX : Hid (wr.drew.cell? ⟨w.heap.size, p15, none⟩ = some (.int .u32 x)) := by rw [hx]; exact hws.cell p15 (by have := unhide P0; omega)
        have CY : Hid (wr.drew.cell? ⟨w.heap.size, p2, none⟩ = some (.int .u32 y)) := by rw [hy]; exact hws.cell p2 (by have := unhide P0; omega)
        have CZ : Hid (wr.drew.cell? ⟨w.heap.size, p16, none⟩ = some (.int .u32 z)) := by rw [hz]; exact hws.cell p16 (by have := unhide P0; omega)
        have CV : Hid (wr.drew.cell? ⟨w.heap.size, p7, none⟩ = some (.int .u32 v)) := by rw [hv]; exact hws.cell p7 (by have := unhide P0; omega)
        have UX : Hid (U32 x) := by rw [hx]; exact hwu.rd_ _
        have UY : Hid (U32 y) := by rw [hy]; exact hwu.rd_ _
        have HX := hide (And.intro hx (And.intro hy (And.intro hz hv)))
        clear hx hy hz hv hws
        go_wp2
        clear d16 d64
        have e15 := unhide E15
        have e2 := unhide E2
        obtain ⟨g15, g2, g16, g7⟩ := (unhide P0).2
        refine start_ (n := 10) (S := fun w' => w'.cell? ⟨w.heap.size, p15, none⟩ = some (.int .u32 x) ∧ w'.cell? ⟨w.heap.size, p2, none⟩ = some (.int .u32 y)) (ds := []) (bt 10 0) (by kernel_rfl) rfl (by kernel_rfl) ⟨unhide CX, unhide CY⟩ (fun hHeld => ?_)
        refine with_tabW tabT20_4 bitsT20_4 (fun HT_ HW_ => ?_)
        refine run_ [(0, 21), (1, 22), (2, 23)] ?_
        iterate 3 ((first | refine sp_ (v := ?_) (a' := ?_) HT_.out rfl rfl rfl (by kernel_rfl) (fun _ _ _ h => h) ?_ ?_ ?_ | refine sg_ (v := ?_) (a' := ?_) HT_.out rfl rfl (by kernel_rfl) (fun _ _ _ h => h) (by rfl) ?_ ?_ ?_); rotate_left; (· intro w'; go_simp; with_reducible rfl); rotate_left; (· simp only [Act.put, List.setIfInBounds_toArray, List.set_cons_zero, List.set_cons_succ, i64_w, i32_w]; rfl))
        refine rend_ ?_
        refine take_ (i := 3) (N := some 24) (v := ?_) (a' := ?_) (bt 10 15) rfl rfl (take_ofW HT_.out HW_.out (by kernel_rfl)) (fun _ _ _ h => h) (Or.inl ⟨by rfl, ?_⟩) hHeld ?_ ?_
        rotate_left
        · rintro w' ⟨_, _⟩
          skip
          go_simp
          with_reducible rfl
        rotate_left
        · simp only [Act.put, List.setIfInBounds_toArray, List.set_cons_zero, List.set_cons_succ, i64_w, i32_w]
          rfl
        refine run_ [(4, 25), (5, 26), (6, 27)] ?_
        iterate 3 ((first | refine sp_ (v := ?_) (a' := ?_) HT_.out rfl rfl rfl (by kernel_rfl) (fun _ _ _ h => h) ?_ ?_ ?_ | refine sg_ (v := ?_) (a' := ?_) HT_.out rfl rfl (by kernel_rfl) (fun _ _ _ h => h) (by rfl) ?_ ?_ ?_); rotate_left; (· intro w'; go_simp; with_reducible rfl); rotate_left; (· simp only [Act.put, List.setIfInBounds_toArray, List.set_cons_zero, List.set_cons_succ, i64_w, i32_w]; rfl))
        refine rend_ ?_
        refine take_ (i := 7) (N := some 28) (v := ?_) (a' := ?_) (bt 10 255) rfl rfl (take_ofW HT_.out HW_.out (by kernel_rfl)) (fun _ _ _ h => h) (Or.inl ⟨by rfl, ?_⟩) hHeld ?_ ?_
        rotate_left
        · rintro w' ⟨_, _⟩
          skip
          go_simp
          with_reducible rfl
        rotate_left
        · simp only [Act.put, List.setIfInBounds_toArray, List.set_cons_zero, List.set_cons_succ, i64_w, i32_w]
          rfl
        refine run_ [(8, 8), (9, 9)] ?_
        iterate 2 ((first | refine sp_ (v := ?_) (a' := ?_) HT_.out rfl rfl rfl (by kernel_rfl) (fun _ _ _ h => h) ?_ ?_ ?_ | refine sg_ (v := ?_) (a' := ?_) HT_.out rfl rfl (by kernel_rfl) (fun _ _ _ h => h) (by rfl) ?_ ?_ ?_); rotate_left; (· intro w'; go_simp; with_reducible rfl); rotate_left; (· simp only [Act.put, List.setIfInBounds_toArray, List.set_cons_zero, List.set_cons_succ, i64_w, i32_w]; rfl))
        refine rend_ ?_
        refine done_ (done_of HT_.out (by kernel_rfl)) ?_
        clear HT_ HW_ hHeld
        clear e15 e2
        have e16 := unhide E16
        have e7 := unhide E7
        go_wp2
        refine start_ (n := 30) (S := fun w' => w'.cell? ⟨w.heap.size, p16, none⟩ = some (.int .u32 z) ∧ w'.cell? ⟨w.heap.size, p7, none⟩ = some (.int .u32 v)) (ds := [29]) (bt 30 0) (by kernel_rfl) rfl (by kernel_rfl) ⟨unhide CZ, unhide CV⟩ (fun hHeld => ?_)
        refine with_tabW tabT20_5 bitsT20_5 (fun HT_ HW_ => ?_)
        refine run_ [(0, 29), (1, 30), (2, 31), (3, 32)] ?_
        iterate 4 ((first | refine sp_ (v := ?_) (a' := ?_) HT_.out rfl rfl rfl (by kernel_rfl) (fun _ _ _ h => h) ?_ ?_ ?_ | refine sg_ (v := ?_) (a' := ?_) HT_.out rfl rfl (by kernel_rfl) (fun _ _ _ h => h) (by rfl) ?_ ?_ ?_); rotate_left; (· intro w'; go_simp; with_reducible rfl); rotate_left; (· simp only [Act.put, List.setIfInBounds_toArray, List.set_cons_zero, List.set_cons_succ, i64_w, i32_w]; rfl))
        refine rend_ ?_
        refine take_ (i := 4) (N := some 33) (v := ?_) (a' := ?_) (bt 30 31) rfl rfl (take_ofW HT_.out HW_.out (by kernel_rfl)) (fun _ _ _ h => h) (Or.inl ⟨by rfl, ?_⟩) hHeld ?_ ?_
        rotate_left
        · rintro w' ⟨_, _⟩
          skip
          go_simp
          with_reducible rfl
        rotate_left
        · simp only [Act.put, List.setIfInBounds_toArray, List.set_cons_zero, List.set_cons_succ, i64_w, i32_w]
          rfl
        refine run_ [(5, 34), (7, 36), (10, 39), (11, 40), (14, 43), (15, 44), (16, 45)] ?_
        iterate 7 ((first | refine sp_ (v := ?_) (a' := ?_) HT_.out rfl rfl rfl (by kernel_rfl) (fun _ _ _ h => h) ?_ ?_ ?_ | refine sg_ (v := ?_) (a' := ?_) HT_.out rfl rfl (by kernel_rfl) (fun _ _ _ h => h) (by rfl) ?_ ?_ ?_); rotate_left; (· intro w'; go_simp; with_reducible rfl); rotate_left; (· simp only [Act.put, List.setIfInBounds_toArray, List.set_cons_zero, List.set_cons_succ, i64_w, i32_w]; rfl))
        refine rend_ ?_
        refine take_ (i := 17) (N := some 46) (v := ?_) (a' := ?_) (bt 30 249023) rfl rfl (take_ofW HT_.out HW_.out (by kernel_rfl)) (fun _ _ _ h => h) (Or.inl ⟨by rfl, ?_⟩) hHeld ?_ ?_
        rotate_left
        · rintro w' ⟨_, _⟩
          skip
          go_simp
          with_reducible rfl
        rotate_left
        · simp only [Act.put, List.setIfInBounds_toArray, List.set_cons_zero, List.set_cons_succ, i64_w, i32_w]
          rfl
        refine run_ [(19, 48), (21, 50), (24, 53), (25, 54)] ?_
        iterate 4 ((first | refine sp_ (v := ?_) (a' := ?_) HT_.out rfl rfl rfl (by kernel_rfl) (fun _ _ _ h => h) ?_ ?_ ?_ | refine sg_ (v := ?_) (a' := ?_) HT_.out rfl rfl (by kernel_rfl) (fun _ _ _ h => h) (by rfl) ?_ ?_ ?_); rotate_left; (· intro w'; go_simp; with_reducible rfl); rotate_left; (· simp only [Act.put, List.setIfInBounds_toArray, List.set_cons_zero, List.set_cons_succ, i64_w, i32_w]; rfl))
        refine rend_ ?_
        refine one_ (i := 6) (N := some 35) (bt 30 53202175) rfl rfl (one_of HT_.out (by kernel_rfl)) (by decide) (fun K hK => ?_)
        refine goes_ Tryd.func109 (by kernel_rfl) rfl #[.int .u32 x, .int .i64 25] (by rfl) rfl rfl (by (try simp only [List.map_toArray, List.map_cons, List.map_nil]); first | done | rfl) ?_
        refine (rot_any x 25 _ (by decide) (unhide UX)).mono ?_
        rintro e w1 ⟨rfl, rfl⟩
        refine ⟨_, rfl, ?_⟩
        clear hHeld
        refine hK.out _ _ ⟨unhide CZ, unhide CV⟩ (fun hHeld => ?_)
        clear hK K
        refine norm_ (a' := ?_) ?_ ?_
        rotate_left
        · show Act.put _ (some 35) _ = _
          simp only [Act.put, List.setIfInBounds_toArray, List.set_cons_zero, List.set_cons_succ, i64_w, i32_w]
          rfl
        refine one_ (i := 8) (N := some 37) (bt 30 53202431) rfl rfl (one_of HT_.out (by kernel_rfl)) (by decide) (fun K hK => ?_)
        refine goes_ Tryd.func109 (by kernel_rfl) rfl #[.int .u32 x, .int .i64 14] (by rfl) rfl rfl (by (try simp only [List.map_toArray, List.map_cons, List.map_nil]); first | done | rfl) ?_
        refine (rot_any x 14 _ (by decide) (unhide UX)).mono ?_
        rintro e w1 ⟨rfl, rfl⟩
        refine ⟨_, rfl, ?_⟩
        clear hHeld
        refine hK.out _ _ ⟨unhide CZ, unhide CV⟩ (fun hHeld => ?_)
        clear hK K
        refine norm_ (a' := ?_) ?_ ?_
        rotate_left
        · show Act.put _ (some 37) _ = _
          simp only [Act.put, List.setIfInBounds_toArray, List.set_cons_zero, List.set_cons_succ, i64_w, i32_w]
          rfl
        refine run_ [(9, 38), (12, 41), (13, 42), (18, 47)] ?_
        iterate 4 ((first | refine sp_ (v := ?_) (a' := ?_) HT_.out rfl rfl rfl (by kernel_rfl) (fun _ _ _ h => h) ?_ ?_ ?_ | refine sg_ (v := ?_) (a' := ?_) HT_.out rfl rfl (by kernel_rfl) (fun _ _ _ h => h) (by rfl) ?_ ?_ ?_); rotate_left; (· intro w'; go_simp; with_reducible rfl); rotate_left; (· simp only [Act.put, List.setIfInBounds_toArray, List.set_cons_zero, List.set_cons_succ, i64_w, i32_w]; rfl))
        refine rend_ ?_
        refine one_ (i := 20) (N := some 49) (bt 30 54525951) rfl rfl (one_of HT_.out (by kernel_rfl)) (by decide) (fun K hK => ?_)
        refine goes_ Tryd.func109 (by kernel_rfl) rfl #[.int .u32 y, .int .i64 15] (by rfl) rfl rfl (by (try simp only [List.map_toArray, List.map_cons, List.map_nil]); first | done | rfl) ?_
        refine (rot_any y 15 _ (by decide) (unhide UY)).mono ?_
        rintro e w1 ⟨rfl, rfl⟩
        refine ⟨_, rfl, ?_⟩
        clear hHeld
        refine hK.out _ _ ⟨unhide CZ, unhide CV⟩ (fun hHeld => ?_)
        clear hK K
        refine norm_ (a' := ?_) ?_ ?_
        rotate_left
        · show Act.put _ (some 49) _ = _
          simp only [Act.put, List.setIfInBounds_toArray, List.set_cons_zero, List.set_cons_succ, i64_w, i32_w]
          rfl
        refine one_ (i := 22) (N := some 51) (bt 30 58720255) rfl rfl (one_of HT_.out (by kernel_rfl)) (by decide) (fun K hK => ?_)
        refine goes_ Tryd.func109 (by kernel_rfl) rfl #[.int .u32 y, .int .i64 13] (by rfl) rfl rfl (by (try simp only [List.map_toArray, List.map_cons, List.map_nil]); first | done | rfl) ?_
        refine (rot_any y 13 _ (by decide) (unhide UY)).mono ?_
        rintro e w1 ⟨rfl, rfl⟩
        refine ⟨_, rfl, ?_⟩
        clear hHeld
        refine hK.out _ _ ⟨unhide CZ, unhide CV⟩ (fun hHeld => ?_)
        clear hK K
        refine norm_ (a' := ?_) ?_ ?_
        rotate_left
        · show Act.put _ (some 51) _ = _
          simp only [Act.put, List.setIfInBounds_toArray, List.set_cons_zero, List.set_cons_succ, i64_w, i32_w]
          rfl
        refine run_ [(23, 52), (26, 55), (27, 56)] ?_
        iterate 3 ((first | refine sp_ (v := ?_) (a' := ?_) HT_.out rfl rfl rfl (by kernel_rfl) (fun _ _ _ h => h) ?_ ?_ ?_ | refine sg_ (v := ?_) (a' := ?_) HT_.out rfl rfl (by kernel_rfl) (fun _ _ _ h => h) (by rfl) ?_ ?_ ?_); rotate_left; (· intro w'; go_simp; with_reducible rfl); rotate_left; (· simp only [Act.put, List.setIfInBounds_toArray, List.set_cons_zero, List.set_cons_succ, i64_w, i32_w]; rfl))
        refine rend_ ?_
        have d64 : (i : Int) < 64 := by have := unhide HLT; omega
        refine run_ [(28, 57)] ?_
        iterate 1 ((first | refine sp_ (v := ?_) (a' := ?_) HT_.out rfl rfl rfl (by kernel_rfl) (fun _ _ _ h => h) ?_ ?_ ?_ | refine sg_ (v := ?_) (a' := ?_) HT_.out rfl rfl (by kernel_rfl) (fun _ _ _ h => h) (by rfl) ?_ ?_ ?_); rotate_left; (· intro w'; go_simp; with_reducible rfl); rotate_left; (· simp only [Act.put, List.setIfInBounds_toArray, List.set_cons_zero, List.set_cons_succ, i64_w, i32_w]; rfl))
        refine rend_ ?_
        refine last_ (i := 29) (N := none) (bt 30 1073741823) rfl rfl (one_of HT_.out (by kernel_rfl)) (by decide) (fun K hK => ?_)
        have hws := unhide HWS
        have hcell := hws.cell i (by have := unhide HLT; omega)
        have hfroz := hws.frozen i
        clear hws
        refine skip_ (w1 := ?w5) (by rfl) rfl ?hrun ?_
        case hrun =>
          go_simp
          rfl
        refine hK.out _ _ ?_
        clear hK K
        refine done_ (done_of HT_.out (by kernel_rfl)) ?_
        clear HT_ HW_; (try clear hHeld)
        have W1 : Hid (Ws (wr.setCell ⟨w.heap.size, i, none⟩ (.int .u32 (wexp z x v y))) w.heap.size 190 (wrow b (i + 1))) := by
          obtain ⟨⟨q0, q1, q2, q3⟩, _⟩ := unhide P0
          obtain ⟨f0, f1, f2, f3⟩ := unhide HX
          have h1 := (unhide HWS).put i (wexp z x v y)
          rw [unhide HWE] at f0 f1 f2 f3 h1
          rw [f0, f1, f2, f3, q0, q1, q2, q3] at h1 ⊢
          show Ws _ _ _ _
          rw [wrow, wone, if_neg (by have := (unhide HLT).1; omega)]
          exact h1
        have B1 : Hid (Below w.heap.size w (wr.setCell ⟨w.heap.size, i, none⟩ (.int .u32 (wexp z x v y))).drew.drew) := below_drew (below_drew (below_set (unhide HB) (Nat.le_refl _)))
        clear e16 e7 g15 g2 g16 g7 CX CY CZ CV P0 E15 E2 E16 E7 HWS HB hcell hfroz d64
        show Exit.inBlock 2 _ _ _ ((wr.setCell ⟨w.heap.size, i, none⟩ (.int .u32 (wexp z x v y))).drew.drew)
        generalize wexp z x v y = X at W1 B1 ⊢
        go_wp2
        go_roundg (gk - 1)
        case measure => have := unhide HI; have := unhide HLT; omega
        case rel =>
          have := unhide HI
          obtain ⟨hlo, hhi⟩ := unhide HLT
          exact ⟨i + 1, by first | rw [Int.natCast_add, Int.natCast_one, w64 _ (by omega) (by omega)] | rw [Int.natCast_add, Int.natCast_one], by show i + 1 + (gk - 1) = 64; omega, unhide W1, unhide B1⟩
    · have hi : i = 64 := by omega
      subst hi
      have HH : Hid (Ws wr ph 189 hs) := (unhide H1).below (unhide HB)
      have SZ : (Tryd.prog.info? 189).map (·.size) = some (wds hs).size := by rw [wds_size, hl]; kernel_rfl
      have HSZ := hide SZ
      have ST : (storeCells ⟨wr.heap.size, 0, none⟩ (wds hs).toList).run Tryd.prog (wr.alloc (.cells #[.int .u32 0, .int .u32 0, .int .u32 0, .int .u32 0, .int .u32 0, .int .u32 0, .int .u32 0, .int .u32 0] 189)) = .ok () (wr.alloc (.cells (wds hs) 189)) :=
        run_storeCells_new wr 189 _ (wds hs) SZ (by rw [wds_size, hl]; rfl) (wds_one hs)
      have S8 : (wds hs).size = 8 := by rw [wds_size, hl]
      clear SZ
      have SZ5 : Hid ((Tryd.prog.info? 190).map (·.size) = some (wds ws).size) := by show _ = _; rw [wds_size, hwl]; kernel_rfl
      have HA : Hid (Ws (wr.alloc (.cells (wds hs) 189)) w.heap.size 190 ws) := (show Ws wr w.heap.size 190 ws from unhide HWS).alloc _
      go_wp2_with (first | refine wpList_load_row rfl 189 _ rfl ph rfl 189 _ (0, 0) _ (unhide HH) Tryd.underlying189 rfl (unhide HSZ) ?_ | refine wpList_load_row rfl 190 _ rfl w.heap.size rfl 190 _ (0, 0) _ (unhide HA) Tryd.underlying190 rfl (unhide SZ5) ?_)
      have V0 : Hid (Ws (wr.alloc (.cells (wds hs) 189)) wr.heap.size 189 hs) := blk_new _ _
      have B0 : Hid (Below w.heap.size w (wr.alloc (.cells (wds hs) 189))) := below_alloc (unhide HB) _
      have N0 : Hid (w.heap.size < wr.heap.size) := (show Ws wr w.heap.size 190 ws from unhide HWS).lt
      obtain ⟨gv, hgv⟩ : ∃ g, g = wr.heap.size := ⟨_, rfl⟩
      rw [← hgv] at V0 N0 ⊢
      generalize wr.alloc (.cells (wds hs) 189) = W2 at V0 B0 ⊢
      have HWE2 := hide (unhide HWE)
      clear HWS HW HI ST HH HSZ HA SZ5 HB HWE hgv S8 hlt hi64
      go_loopg [101] 64 (fun kq v101 wr => ∃ i : Nat, v101 = .int .i64 (i : Int) ∧ Hid (i + kq = 64) ∧ Hid (Ws wr gv 189 (vrow ks ws hs i)) ∧ Hid (Below w.heap.size w wr))
      case atStart => exact ⟨0, rfl, Nat.zero_add _, unhide V0, unhide B0⟩
      case round =>
        clear V0 B0
        obtain ⟨i, rfl, HI, HV, HB⟩ := hrel
        by_cases hlt : i < 64
        · obtain ⟨vs, hvs⟩ : ∃ vs, vs = vrow ks ws hs i := ⟨_, rfl⟩
          have h8 : vs.length = 8 := by rw [hvs]; exact vrow_len ks ws hs i hl
          have hvu : Us vs := by rw [hvs]; exact vrow_u ks ws hs i hU
          have HVS := hide hvs
          rw [← hvs] at HV
          clear hvs
          obtain ⟨a0, a1, a2, a3, a4, a5, a6, a7, rfl⟩ : ∃ a0 a1 a2 a3 a4 a5 a6 a7, vs = [a0, a1, a2, a3, a4, a5, a6, a7] := list8 h8
          obtain ⟨kk, hkk⟩ : ∃ x, x = rd ks (i : Int) := ⟨_, rfl⟩
          obtain ⟨xx, hxx⟩ : ∃ x, x = rd ws (i : Int) := ⟨_, rfl⟩
          have hidx : ∀ W : World, (Instr.index 190 (.agg (wds ws)) (.int .i64 (i : Int))).run Tryd.prog W = .ok (.int .u32 xx) W := by rw [hxx]; exact idx64 ws i hwl hlt
          have KC : Hid (wr.drew.cell? ⟨pk, i, none⟩ = some (.int .u32 kk)) := by rw [hkk]; exact ((unhide H3).below (unhide HB)).cell i (by omega)
          have CC : Hid ((wr.cell? ⟨gv, 0, none⟩ = some (.int .u32 a0) ∧ wr.cell? ⟨gv, 1, none⟩ = some (.int .u32 a1) ∧ wr.cell? ⟨gv, 2, none⟩ = some (.int .u32 a2) ∧ wr.cell? ⟨gv, 3, none⟩ = some (.int .u32 a3) ∧ wr.cell? ⟨gv, 4, none⟩ = some (.int .u32 a4) ∧ wr.cell? ⟨gv, 5, none⟩ = some (.int .u32 a5) ∧ wr.cell? ⟨gv, 6, none⟩ = some (.int .u32 a6) ∧ wr.cell? ⟨gv, 7, none⟩ = some (.int .u32 a7))) :=
            ⟨(unhide HV).cell 0 (by simp), (unhide HV).cell 1 (by simp), (unhide HV).cell 2 (by simp), (unhide HV).cell 3 (by simp), (unhide HV).cell 4 (by simp), (unhide HV).cell 5 (by simp), (unhide HV).cell 6 (by simp), (unhide HV).cell 7 (by simp)⟩
          have U0 : Hid (U32 a0) := hvu a0 (by simp)
          have U4 : Hid (U32 a4) := hvu a4 (by simp)
          have d64 : (i : Int) < 64 := by omega
          have HLT := hide hlt
          have HKX := hide (And.intro hkk hxx)
          clear hlt hkk hxx h8 hvu
          go_wp2
          clear hidx
          refine start_ (n := 6) (S := fun w' => (w'.cell? ⟨gv, 0, none⟩ = some (.int .u32 a0) ∧ w'.cell? ⟨gv, 1, none⟩ = some (.int .u32 a1) ∧ w'.cell? ⟨gv, 2, none⟩ = some (.int .u32 a2) ∧ w'.cell? ⟨gv, 3, none⟩ = some (.int .u32 a3) ∧ w'.cell? ⟨gv, 4, none⟩ = some (.int .u32 a4) ∧ w'.cell? ⟨gv, 5, none⟩ = some (.int .u32 a5) ∧ w'.cell? ⟨gv, 6, none⟩ = some (.int .u32 a6) ∧ w'.cell? ⟨gv, 7, none⟩ = some (.int .u32 a7))) (ds := []) (bt 6 0) (by kernel_rfl) rfl (by kernel_rfl) (unhide CC) (fun hHeld => ?_)
          refine with_tabW tabT20_13 bitsT20_13 (fun HT_ HW_ => ?_)
          refine run_ [(0, 105)] ?_
          iterate 1 ((first | refine sp_ (v := ?_) (a' := ?_) HT_.out rfl rfl rfl (by kernel_rfl) (fun _ _ _ h => h) ?_ ?_ ?_ | refine sg_ (v := ?_) (a' := ?_) HT_.out rfl rfl (by kernel_rfl) (fun _ _ _ h => h) (by rfl) ?_ ?_ ?_); rotate_left; (· intro w'; go_simp; with_reducible rfl); rotate_left; (· simp only [Act.put, List.setIfInBounds_toArray, List.set_cons_zero, List.set_cons_succ, i64_w, i32_w]; rfl))
          refine rend_ ?_
          refine take_ (i := 1) (N := some 106) (v := ?_) (a' := ?_) (bt 6 3) rfl rfl (take_ofW HT_.out HW_.out (by kernel_rfl)) (fun _ _ _ h => h) (Or.inl ⟨by rfl, ?_⟩) hHeld ?_ ?_
          rotate_left
          · rintro w' ⟨_, _, _, _, _, _, _, _⟩
            skip
            go_simp
            with_reducible rfl
          rotate_left
          · simp only [Act.put, List.setIfInBounds_toArray, List.set_cons_zero, List.set_cons_succ, i64_w, i32_w]
            rfl
          refine run_ [(2, 107)] ?_
          iterate 1 ((first | refine sp_ (v := ?_) (a' := ?_) HT_.out rfl rfl rfl (by kernel_rfl) (fun _ _ _ h => h) ?_ ?_ ?_ | refine sg_ (v := ?_) (a' := ?_) HT_.out rfl rfl (by kernel_rfl) (fun _ _ _ h => h) (by rfl) ?_ ?_ ?_); rotate_left; (· intro w'; go_simp; with_reducible rfl); rotate_left; (· simp only [Act.put, List.setIfInBounds_toArray, List.set_cons_zero, List.set_cons_succ, i64_w, i32_w]; rfl))
          refine rend_ ?_
          refine take_ (i := 3) (N := some 108) (v := ?_) (a' := ?_) (bt 6 15) rfl rfl (take_ofW HT_.out HW_.out (by kernel_rfl)) (fun _ _ _ h => h) (Or.inl ⟨by rfl, ?_⟩) hHeld ?_ ?_
          rotate_left
          · rintro w' ⟨_, _, _, _, _, _, _, _⟩
            skip
            go_simp
            with_reducible rfl
          rotate_left
          · simp only [Act.put, List.setIfInBounds_toArray, List.set_cons_zero, List.set_cons_succ, i64_w, i32_w]
            rfl
          refine run_ [(4, 13), (5, 14)] ?_
          iterate 2 ((first | refine sp_ (v := ?_) (a' := ?_) HT_.out rfl rfl rfl (by kernel_rfl) (fun _ _ _ h => h) ?_ ?_ ?_ | refine sg_ (v := ?_) (a' := ?_) HT_.out rfl rfl (by kernel_rfl) (fun _ _ _ h => h) (by rfl) ?_ ?_ ?_); rotate_left; (· intro w'; go_simp; with_reducible rfl); rotate_left; (· simp only [Act.put, List.setIfInBounds_toArray, List.set_cons_zero, List.set_cons_succ, i64_w, i32_w]; rfl))
          refine rend_ ?_
          refine done_ (done_of HT_.out (by kernel_rfl)) ?_
          clear HT_ HW_ hHeld
          go_wp2
          refine start_ (n := 31) (S := fun w' => (w'.cell? ⟨gv, 0, none⟩ = some (.int .u32 a0) ∧ w'.cell? ⟨gv, 1, none⟩ = some (.int .u32 a1) ∧ w'.cell? ⟨gv, 2, none⟩ = some (.int .u32 a2) ∧ w'.cell? ⟨gv, 3, none⟩ = some (.int .u32 a3) ∧ w'.cell? ⟨gv, 4, none⟩ = some (.int .u32 a4) ∧ w'.cell? ⟨gv, 5, none⟩ = some (.int .u32 a5) ∧ w'.cell? ⟨gv, 6, none⟩ = some (.int .u32 a6) ∧ w'.cell? ⟨gv, 7, none⟩ = some (.int .u32 a7)) ∧ w'.cell? ⟨pk, i, none⟩ = some (.int .u32 kk)) (ds := []) (bt 31 0) (by kernel_rfl) rfl (by kernel_rfl) ⟨unhide CC, unhide KC⟩ (fun hHeld => ?_)
          refine with_tabW tabT20_14 bitsT20_14 (fun HT_ HW_ => ?_)
          refine run_ [(0, 109)] ?_
          iterate 1 ((first | refine sp_ (v := ?_) (a' := ?_) HT_.out rfl rfl rfl (by kernel_rfl) (fun _ _ _ h => h) ?_ ?_ ?_ | refine sg_ (v := ?_) (a' := ?_) HT_.out rfl rfl (by kernel_rfl) (fun _ _ _ h => h) (by rfl) ?_ ?_ ?_); rotate_left; (· intro w'; go_simp; with_reducible rfl); rotate_left; (· simp only [Act.put, List.setIfInBounds_toArray, List.set_cons_zero, List.set_cons_succ, i64_w, i32_w]; rfl))
          refine rend_ ?_
          refine take_ (i := 1) (N := some 110) (v := ?_) (a' := ?_) (bt 31 3) rfl rfl (take_ofW HT_.out HW_.out (by kernel_rfl)) (fun _ _ _ h => h) (Or.inl ⟨by rfl, ?_⟩) hHeld ?_ ?_
          rotate_left
          · rintro w' ⟨⟨_, _, _, _, _, _, _, _⟩, _⟩
            skip
            go_simp
            with_reducible rfl
          rotate_left
          · simp only [Act.put, List.setIfInBounds_toArray, List.set_cons_zero, List.set_cons_succ, i64_w, i32_w]
            rfl
          refine run_ [(2, 111), (4, 113), (7, 116), (11, 120), (12, 121)] ?_
          iterate 5 ((first | refine sp_ (v := ?_) (a' := ?_) HT_.out rfl rfl rfl (by kernel_rfl) (fun _ _ _ h => h) ?_ ?_ ?_ | refine sg_ (v := ?_) (a' := ?_) HT_.out rfl rfl (by kernel_rfl) (fun _ _ _ h => h) (by rfl) ?_ ?_ ?_); rotate_left; (· intro w'; go_simp; with_reducible rfl); rotate_left; (· simp only [Act.put, List.setIfInBounds_toArray, List.set_cons_zero, List.set_cons_succ, i64_w, i32_w]; rfl))
          refine rend_ ?_
          refine take_ (i := 13) (N := some 122) (v := ?_) (a' := ?_) (bt 31 14487) rfl rfl (take_ofW HT_.out HW_.out (by kernel_rfl)) (fun _ _ _ h => h) (Or.inl ⟨by rfl, ?_⟩) hHeld ?_ ?_
          rotate_left
          · rintro w' ⟨⟨_, _, _, _, _, _, _, _⟩, _⟩
            skip
            go_simp
            with_reducible rfl
          rotate_left
          · simp only [Act.put, List.setIfInBounds_toArray, List.set_cons_zero, List.set_cons_succ, i64_w, i32_w]
            rfl
          refine run_ [(14, 123), (15, 124), (16, 125), (17, 126)] ?_
          iterate 4 ((first | refine sp_ (v := ?_) (a' := ?_) HT_.out rfl rfl rfl (by kernel_rfl) (fun _ _ _ h => h) ?_ ?_ ?_ | refine sg_ (v := ?_) (a' := ?_) HT_.out rfl rfl (by kernel_rfl) (fun _ _ _ h => h) (by rfl) ?_ ?_ ?_); rotate_left; (· intro w'; go_simp; with_reducible rfl); rotate_left; (· simp only [Act.put, List.setIfInBounds_toArray, List.set_cons_zero, List.set_cons_succ, i64_w, i32_w]; rfl))
          refine rend_ ?_
          refine take_ (i := 18) (N := some 127) (v := ?_) (a' := ?_) (bt 31 522391) rfl rfl (take_ofW HT_.out HW_.out (by kernel_rfl)) (fun _ _ _ h => h) (Or.inl ⟨by rfl, ?_⟩) hHeld ?_ ?_
          rotate_left
          · rintro w' ⟨⟨_, _, _, _, _, _, _, _⟩, _⟩
            skip
            go_simp
            with_reducible rfl
          rotate_left
          · simp only [Act.put, List.setIfInBounds_toArray, List.set_cons_zero, List.set_cons_succ, i64_w, i32_w]
            rfl
          refine run_ [(19, 128), (20, 129), (22, 131), (23, 132), (24, 133), (25, 134)] ?_
          iterate 6 ((first | refine sp_ (v := ?_) (a' := ?_) HT_.out rfl rfl rfl (by kernel_rfl) (fun _ _ _ h => h) ?_ ?_ ?_ | refine sg_ (v := ?_) (a' := ?_) HT_.out rfl rfl (by kernel_rfl) (fun _ _ _ h => h) (by rfl) ?_ ?_ ?_); rotate_left; (· intro w'; go_simp; with_reducible rfl); rotate_left; (· simp only [Act.put, List.setIfInBounds_toArray, List.set_cons_zero, List.set_cons_succ, i64_w, i32_w]; rfl))
          refine rend_ ?_
          refine take_ (i := 26) (N := some 135) (v := ?_) (a' := ?_) (bt 31 132118679) rfl rfl (take_ofW HT_.out HW_.out (by kernel_rfl)) (fun _ _ _ h => h) (Or.inl ⟨by rfl, ?_⟩) hHeld ?_ ?_
          rotate_left
          · rintro w' ⟨⟨_, _, _, _, _, _, _, _⟩, _⟩
            skip
            go_simp
            with_reducible rfl
          rotate_left
          · simp only [Act.put, List.setIfInBounds_toArray, List.set_cons_zero, List.set_cons_succ, i64_w, i32_w]
            rfl
          refine run_ [(28, 137)] ?_
          iterate 1 ((first | refine sp_ (v := ?_) (a' := ?_) HT_.out rfl rfl rfl (by kernel_rfl) (fun _ _ _ h => h) ?_ ?_ ?_ | refine sg_ (v := ?_) (a' := ?_) HT_.out rfl rfl (by kernel_rfl) (fun _ _ _ h => h) (by rfl) ?_ ?_ ?_); rotate_left; (· intro w'; go_simp; with_reducible rfl); rotate_left; (· simp only [Act.put, List.setIfInBounds_toArray, List.set_cons_zero, List.set_cons_succ, i64_w, i32_w]; rfl))
          refine rend_ ?_
          refine one_ (i := 3) (N := some 112) (bt 31 400554143) rfl rfl (one_of HT_.out (by kernel_rfl)) (by decide) (fun K hK => ?_)
          refine goes_ Tryd.func109 (by kernel_rfl) rfl #[.int .u32 a4, .int .i64 26] (by rfl) rfl rfl (by (try simp only [List.map_toArray, List.map_cons, List.map_nil]); first | done | rfl) ?_
          refine (rot_any a4 26 _ (by decide) (unhide U4)).mono ?_
          rintro e w1 ⟨rfl, rfl⟩
          refine ⟨_, rfl, ?_⟩
          clear hHeld
          refine hK.out _ _ ⟨unhide CC, unhide KC⟩ (fun hHeld => ?_)
          clear hK K
          refine norm_ (a' := ?_) ?_ ?_
          rotate_left
          · show Act.put _ (some 112) _ = _
            simp only [Act.put, List.setIfInBounds_toArray, List.set_cons_zero, List.set_cons_succ, i64_w, i32_w]
            rfl
          refine one_ (i := 5) (N := some 114) (bt 31 400554175) rfl rfl (one_of HT_.out (by kernel_rfl)) (by decide) (fun K hK => ?_)
          refine goes_ Tryd.func109 (by kernel_rfl) rfl #[.int .u32 a4, .int .i64 21] (by rfl) rfl rfl (by (try simp only [List.map_toArray, List.map_cons, List.map_nil]); first | done | rfl) ?_
          refine (rot_any a4 21 _ (by decide) (unhide U4)).mono ?_
          rintro e w1 ⟨rfl, rfl⟩
          refine ⟨_, rfl, ?_⟩
          clear hHeld
          refine hK.out _ _ ⟨unhide CC, unhide KC⟩ (fun hHeld => ?_)
          clear hK K
          refine norm_ (a' := ?_) ?_ ?_
          rotate_left
          · show Act.put _ (some 114) _ = _
            simp only [Act.put, List.setIfInBounds_toArray, List.set_cons_zero, List.set_cons_succ, i64_w, i32_w]
            rfl
          refine run_ [(6, 115)] ?_
          iterate 1 ((first | refine sp_ (v := ?_) (a' := ?_) HT_.out rfl rfl rfl (by kernel_rfl) (fun _ _ _ h => h) ?_ ?_ ?_ | refine sg_ (v := ?_) (a' := ?_) HT_.out rfl rfl (by kernel_rfl) (fun _ _ _ h => h) (by rfl) ?_ ?_ ?_); rotate_left; (· intro w'; go_simp; with_reducible rfl); rotate_left; (· simp only [Act.put, List.setIfInBounds_toArray, List.set_cons_zero, List.set_cons_succ, i64_w, i32_w]; rfl))
          refine rend_ ?_
          refine one_ (i := 8) (N := some 117) (bt 31 400554495) rfl rfl (one_of HT_.out (by kernel_rfl)) (by decide) (fun K hK => ?_)
          refine goes_ Tryd.func109 (by kernel_rfl) rfl #[.int .u32 a4, .int .i64 7] (by rfl) rfl rfl (by (try simp only [List.map_toArray, List.map_cons, List.map_nil]); first | done | rfl) ?_
          refine (rot_any a4 7 _ (by decide) (unhide U4)).mono ?_
          rintro e w1 ⟨rfl, rfl⟩
          refine ⟨_, rfl, ?_⟩
          clear hHeld
          refine hK.out _ _ ⟨unhide CC, unhide KC⟩ (fun hHeld => ?_)
          clear hK K
          refine norm_ (a' := ?_) ?_ ?_
          rotate_left
          · show Act.put _ (some 117) _ = _
            simp only [Act.put, List.setIfInBounds_toArray, List.set_cons_zero, List.set_cons_succ, i64_w, i32_w]
            rfl
          refine run_ [(9, 118), (10, 119), (21, 130), (27, 136), (29, 138), (30, 15)] ?_
          iterate 6 ((first | refine sp_ (v := ?_) (a' := ?_) HT_.out rfl rfl rfl (by kernel_rfl) (fun _ _ _ h => h) ?_ ?_ ?_ | refine sg_ (v := ?_) (a' := ?_) HT_.out rfl rfl (by kernel_rfl) (fun _ _ _ h => h) (by rfl) ?_ ?_ ?_); rotate_left; (· intro w'; go_simp; with_reducible rfl); rotate_left; (· simp only [Act.put, List.setIfInBounds_toArray, List.set_cons_zero, List.set_cons_succ, i64_w, i32_w]; rfl))
          refine rend_ ?_
          refine done_ (done_of HT_.out (by kernel_rfl)) ?_
          clear HT_ HW_ hHeld
          go_wp2
          obtain ⟨t, ht⟩ : ∃ t, vt kk xx a4 a5 a6 a7 = t := ⟨_, rfl⟩
          have ht2 := ht
          unfold vt at ht2
          rw [ht2]
          have HT := hide ht
          clear ht ht2
          refine start_ (n := 25) (S := fun w' => (w'.cell? ⟨gv, 0, none⟩ = some (.int .u32 a0) ∧ w'.cell? ⟨gv, 1, none⟩ = some (.int .u32 a1) ∧ w'.cell? ⟨gv, 2, none⟩ = some (.int .u32 a2) ∧ w'.cell? ⟨gv, 3, none⟩ = some (.int .u32 a3) ∧ w'.cell? ⟨gv, 4, none⟩ = some (.int .u32 a4) ∧ w'.cell? ⟨gv, 5, none⟩ = some (.int .u32 a5) ∧ w'.cell? ⟨gv, 6, none⟩ = some (.int .u32 a6) ∧ w'.cell? ⟨gv, 7, none⟩ = some (.int .u32 a7))) (ds := []) (bt 25 0) (by kernel_rfl) rfl (by kernel_rfl) (unhide CC) (fun hHeld => ?_)
          refine with_tabW tabT20_15 bitsT20_15 (fun HT_ HW_ => ?_)
          refine run_ [(0, 139), (2, 141), (5, 144), (8, 147), (9, 148)] ?_
          iterate 5 ((first | refine sp_ (v := ?_) (a' := ?_) HT_.out rfl rfl rfl (by kernel_rfl) (fun _ _ _ h => h) ?_ ?_ ?_ | refine sg_ (v := ?_) (a' := ?_) HT_.out rfl rfl (by kernel_rfl) (fun _ _ _ h => h) (by rfl) ?_ ?_ ?_); rotate_left; (· intro w'; go_simp; with_reducible rfl); rotate_left; (· simp only [Act.put, List.setIfInBounds_toArray, List.set_cons_zero, List.set_cons_succ, i64_w, i32_w]; rfl))
          refine rend_ ?_
          refine take_ (i := 10) (N := some 149) (v := ?_) (a' := ?_) (bt 25 1829) rfl rfl (take_ofW HT_.out HW_.out (by kernel_rfl)) (fun _ _ _ h => h) (Or.inl ⟨by rfl, ?_⟩) hHeld ?_ ?_
          rotate_left
          · rintro w' ⟨_, _, _, _, _, _, _, _⟩
            skip
            go_simp
            with_reducible rfl
          rotate_left
          · simp only [Act.put, List.setIfInBounds_toArray, List.set_cons_zero, List.set_cons_succ, i64_w, i32_w]
            rfl
          refine run_ [(11, 150), (12, 151), (13, 152)] ?_
          iterate 3 ((first | refine sp_ (v := ?_) (a' := ?_) HT_.out rfl rfl rfl (by kernel_rfl) (fun _ _ _ h => h) ?_ ?_ ?_ | refine sg_ (v := ?_) (a' := ?_) HT_.out rfl rfl (by kernel_rfl) (fun _ _ _ h => h) (by rfl) ?_ ?_ ?_); rotate_left; (· intro w'; go_simp; with_reducible rfl); rotate_left; (· simp only [Act.put, List.setIfInBounds_toArray, List.set_cons_zero, List.set_cons_succ, i64_w, i32_w]; rfl))
          refine rend_ ?_
          refine take_ (i := 14) (N := some 153) (v := ?_) (a' := ?_) (bt 25 32549) rfl rfl (take_ofW HT_.out HW_.out (by kernel_rfl)) (fun _ _ _ h => h) (Or.inl ⟨by rfl, ?_⟩) hHeld ?_ ?_
          rotate_left
          · rintro w' ⟨_, _, _, _, _, _, _, _⟩
            skip
            go_simp
            with_reducible rfl
          rotate_left
          · simp only [Act.put, List.setIfInBounds_toArray, List.set_cons_zero, List.set_cons_succ, i64_w, i32_w]
            rfl
          refine run_ [(15, 154), (16, 155), (17, 156)] ?_
          iterate 3 ((first | refine sp_ (v := ?_) (a' := ?_) HT_.out rfl rfl rfl (by kernel_rfl) (fun _ _ _ h => h) ?_ ?_ ?_ | refine sg_ (v := ?_) (a' := ?_) HT_.out rfl rfl (by kernel_rfl) (fun _ _ _ h => h) (by rfl) ?_ ?_ ?_); rotate_left; (· intro w'; go_simp; with_reducible rfl); rotate_left; (· simp only [Act.put, List.setIfInBounds_toArray, List.set_cons_zero, List.set_cons_succ, i64_w, i32_w]; rfl))
          refine rend_ ?_
          refine take_ (i := 18) (N := some 157) (v := ?_) (a' := ?_) (bt 25 524069) rfl rfl (take_ofW HT_.out HW_.out (by kernel_rfl)) (fun _ _ _ h => h) (Or.inl ⟨by rfl, ?_⟩) hHeld ?_ ?_
          rotate_left
          · rintro w' ⟨_, _, _, _, _, _, _, _⟩
            skip
            go_simp
            with_reducible rfl
          rotate_left
          · simp only [Act.put, List.setIfInBounds_toArray, List.set_cons_zero, List.set_cons_succ, i64_w, i32_w]
            rfl
          refine run_ [(19, 158)] ?_
          iterate 1 ((first | refine sp_ (v := ?_) (a' := ?_) HT_.out rfl rfl rfl (by kernel_rfl) (fun _ _ _ h => h) ?_ ?_ ?_ | refine sg_ (v := ?_) (a' := ?_) HT_.out rfl rfl (by kernel_rfl) (fun _ _ _ h => h) (by rfl) ?_ ?_ ?_); rotate_left; (· intro w'; go_simp; with_reducible rfl); rotate_left; (· simp only [Act.put, List.setIfInBounds_toArray, List.set_cons_zero, List.set_cons_succ, i64_w, i32_w]; rfl))
          refine rend_ ?_
          refine take_ (i := 20) (N := some 159) (v := ?_) (a' := ?_) (bt 25 2096933) rfl rfl (take_ofW HT_.out HW_.out (by kernel_rfl)) (fun _ _ _ h => h) (Or.inl ⟨by rfl, ?_⟩) hHeld ?_ ?_
          rotate_left
          · rintro w' ⟨_, _, _, _, _, _, _, _⟩
            skip
            go_simp
            with_reducible rfl
          rotate_left
          · simp only [Act.put, List.setIfInBounds_toArray, List.set_cons_zero, List.set_cons_succ, i64_w, i32_w]
            rfl
          refine run_ [(21, 160), (22, 161)] ?_
          iterate 2 ((first | refine sp_ (v := ?_) (a' := ?_) HT_.out rfl rfl rfl (by kernel_rfl) (fun _ _ _ h => h) ?_ ?_ ?_ | refine sg_ (v := ?_) (a' := ?_) HT_.out rfl rfl (by kernel_rfl) (fun _ _ _ h => h) (by rfl) ?_ ?_ ?_); rotate_left; (· intro w'; go_simp; with_reducible rfl); rotate_left; (· simp only [Act.put, List.setIfInBounds_toArray, List.set_cons_zero, List.set_cons_succ, i64_w, i32_w]; rfl))
          refine rend_ ?_
          refine one_ (i := 1) (N := some 140) (bt 25 8388391) rfl rfl (one_of HT_.out (by kernel_rfl)) (by decide) (fun K hK => ?_)
          refine goes_ Tryd.func109 (by kernel_rfl) rfl #[.int .u32 a0, .int .i64 30] (by rfl) rfl rfl (by (try simp only [List.map_toArray, List.map_cons, List.map_nil]); first | done | rfl) ?_
          refine (rot_any a0 30 _ (by decide) (unhide U0)).mono ?_
          rintro e w1 ⟨rfl, rfl⟩
          refine ⟨_, rfl, ?_⟩
          clear hHeld
          refine hK.out _ _ (unhide CC) (fun hHeld => ?_)
          clear hK K
          refine norm_ (a' := ?_) ?_ ?_
          rotate_left
          · show Act.put _ (some 140) _ = _
            simp only [Act.put, List.setIfInBounds_toArray, List.set_cons_zero, List.set_cons_succ, i64_w, i32_w]
            rfl
          refine one_ (i := 3) (N := some 142) (bt 25 8388399) rfl rfl (one_of HT_.out (by kernel_rfl)) (by decide) (fun K hK => ?_)
          refine goes_ Tryd.func109 (by kernel_rfl) rfl #[.int .u32 a0, .int .i64 19] (by rfl) rfl rfl (by (try simp only [List.map_toArray, List.map_cons, List.map_nil]); first | done | rfl) ?_
          refine (rot_any a0 19 _ (by decide) (unhide U0)).mono ?_
          rintro e w1 ⟨rfl, rfl⟩
          refine ⟨_, rfl, ?_⟩
          clear hHeld
          refine hK.out _ _ (unhide CC) (fun hHeld => ?_)
          clear hK K
          refine norm_ (a' := ?_) ?_ ?_
          rotate_left
          · show Act.put _ (some 142) _ = _
            simp only [Act.put, List.setIfInBounds_toArray, List.set_cons_zero, List.set_cons_succ, i64_w, i32_w]
            rfl
          refine run_ [(4, 143)] ?_
          iterate 1 ((first | refine sp_ (v := ?_) (a' := ?_) HT_.out rfl rfl rfl (by kernel_rfl) (fun _ _ _ h => h) ?_ ?_ ?_ | refine sg_ (v := ?_) (a' := ?_) HT_.out rfl rfl (by kernel_rfl) (fun _ _ _ h => h) (by rfl) ?_ ?_ ?_); rotate_left; (· intro w'; go_simp; with_reducible rfl); rotate_left; (· simp only [Act.put, List.setIfInBounds_toArray, List.set_cons_zero, List.set_cons_succ, i64_w, i32_w]; rfl))
          refine rend_ ?_
          refine one_ (i := 6) (N := some 145) (bt 25 8388479) rfl rfl (one_of HT_.out (by kernel_rfl)) (by decide) (fun K hK => ?_)
          refine goes_ Tryd.func109 (by kernel_rfl) rfl #[.int .u32 a0, .int .i64 10] (by rfl) rfl rfl (by (try simp only [List.map_toArray, List.map_cons, List.map_nil]); first | done | rfl) ?_
          refine (rot_any a0 10 _ (by decide) (unhide U0)).mono ?_
          rintro e w1 ⟨rfl, rfl⟩
          refine ⟨_, rfl, ?_⟩
          clear hHeld
          refine hK.out _ _ (unhide CC) (fun hHeld => ?_)
          clear hK K
          refine norm_ (a' := ?_) ?_ ?_
          rotate_left
          · show Act.put _ (some 145) _ = _
            simp only [Act.put, List.setIfInBounds_toArray, List.set_cons_zero, List.set_cons_succ, i64_w, i32_w]
            rfl
          refine run_ [(7, 146), (23, 162), (24, 16)] ?_
          iterate 3 ((first | refine sp_ (v := ?_) (a' := ?_) HT_.out rfl rfl rfl (by kernel_rfl) (fun _ _ _ h => h) ?_ ?_ ?_ | refine sg_ (v := ?_) (a' := ?_) HT_.out rfl rfl (by kernel_rfl) (fun _ _ _ h => h) (by rfl) ?_ ?_ ?_); rotate_left; (· intro w'; go_simp; with_reducible rfl); rotate_left; (· simp only [Act.put, List.setIfInBounds_toArray, List.set_cons_zero, List.set_cons_succ, i64_w, i32_w]; rfl))
          refine rend_ ?_
          refine done_ (done_of HT_.out (by kernel_rfl)) ?_
          clear HT_ HW_ hHeld
          go_wp2
          obtain ⟨u, hu⟩ : ∃ t, vu a0 a1 a2 = t := ⟨_, rfl⟩
          have hu2 := hu
          unfold vu at hu2
          rw [hu2]
          have HU := hide hu
          clear hu hu2
          refine start_ (n := 3) (S := fun w' => Ws w' gv 189 [a0, a1, a2, a3, a4, a5, a6, a7] ∨ Ws w' gv 189 [a0, a0, a1, a2, a3, a4, a5, a6]) (ds := []) (bt 3 0) (by kernel_rfl) rfl (by kernel_rfl) (.inl (unhide HV)) (fun hHeld => ?_)
          refine with_tabW tabT20_16 bitsT20_16 (fun HT_ HW_ => ?_)
          refine run_ [(0, 163), (1, 164)] ?_
          iterate 2 ((first | refine sp_ (v := ?_) (a' := ?_) HT_.out rfl rfl rfl (by kernel_rfl) (fun _ _ _ h => h) ?_ ?_ ?_ | refine sg_ (v := ?_) (a' := ?_) HT_.out rfl rfl (by kernel_rfl) (fun _ _ _ h => h) (by rfl) ?_ ?_ ?_); rotate_left; (· intro w'; go_simp; with_reducible rfl); rotate_left; (· simp only [Act.put, List.setIfInBounds_toArray, List.set_cons_zero, List.set_cons_succ, i64_w, i32_w]; rfl))
          refine rend_ ?_
          refine one_ (i := 2) (N := some 165) (bt 3 7) rfl rfl (one_of HT_.out (by kernel_rfl)) (by decide) (fun K hK => ?_)
          have hcp := copy8 wr.drew.drew.drew.drew gv a0 a1 a2 a3 a4 a5 a6 a7 (unhide HV)
          have W9 : Hid (Ws (wr.drew.drew.drew.drew.setRow gv (wds [a0, a0, a1, a2, a3, a4, a5, a6])) gv 189 [a0, a0, a1, a2, a3, a4, a5, a6]) := (show Ws wr.drew.drew.drew.drew gv 189 [a0, a1, a2, a3, a4, a5, a6, a7] from unhide HV).row
          have B9 : Hid (Below w.heap.size w (wr.drew.drew.drew.drew.setRow gv (wds [a0, a0, a1, a2, a3, a4, a5, a6]))) := below_setRow (below_drew (below_drew (below_drew (below_drew (unhide HB))))) (Nat.le_of_lt (unhide N0)) _
          generalize wr.drew.drew.drew.drew.setRow gv (wds [a0, a0, a1, a2, a3, a4, a5, a6]) = w9 at hcp W9 B9
          refine value_ (v := .int .i64 7) (w1 := w9) (by rfl) rfl ?hrun ?_
          case hrun =>
            go_simp
          clear hcp
          clear hHeld
          refine hK.out _ _ (.inr (unhide W9)) (fun hHeld => ?_)
          clear hK K
          refine norm_ (a' := ?_) ?_ ?_
          rotate_left
          · show Act.put _ (some 165) _ = _
            simp only [Act.put, List.setIfInBounds_toArray, List.set_cons_zero, List.set_cons_succ, i64_w, i32_w]
            rfl
          refine done_ (done_of HT_.out (by kernel_rfl)) ?_
          clear HT_ HW_ hHeld
          have c0 := (unhide W9).cell 0 (by simp)
          have c4 := (unhide W9).cell 4 (by simp)
          have f0 := (unhide W9).frozen 0
          have f4 := (unhide W9).frozen 4
          go_wp2
          have W10 : Hid (Ws ((w9.setCell ⟨gv, 0, none⟩ (.int .u32 ((t + u) % 4294967296))).setCell ⟨gv, 4, none⟩ (.int .u32 ((rd [a0, a0, a1, a2, a3, a4, a5, a6] 4 + t) % 4294967296))) gv 189 (vrow ks ws hs (i + 1))) := by
            have h1 := ((unhide W9).put 0 ((t + u) % 4294967296)).put 4 ((rd [a0, a0, a1, a2, a3, a4, a5, a6] 4 + t) % 4294967296)
            show Ws _ _ _ _
            rw [vrow, ← unhide HVS, ← (unhide HKX).1, ← (unhide HKX).2, vstep, unhide HT, unhide HU, IntKind.wrap_u32, IntKind.wrap_u32]
            exact h1
          have B10 : Hid (Below w.heap.size w ((w9.setCell ⟨gv, 0, none⟩ (.int .u32 ((t + u) % 4294967296))).setCell ⟨gv, 4, none⟩ (.int .u32 ((rd [a0, a0, a1, a2, a3, a4, a5, a6] 4 + t) % 4294967296)))) := below_set (below_set (unhide B9) (Nat.le_of_lt (unhide N0))) (Nat.le_of_lt (unhide N0))
          clear c0 c4 f0 f4 W9 B9 d64 HV HB KC CC
          generalize (w9.setCell ⟨gv, 0, none⟩ (.int .u32 ((t + u) % 4294967296))).setCell ⟨gv, 4, none⟩ (.int .u32 ((rd [a0, a0, a1, a2, a3, a4, a5, a6] 4 + t) % 4294967296)) = w11 at W10 B10 ⊢
          go_roundg (gk - 1)
          case measure => have := unhide HI; have := unhide HLT; omega
          case rel =>
            have := unhide HI
            have := unhide HLT
            exact ⟨i + 1, by first | rw [Int.natCast_add, Int.natCast_one, w64 _ (by omega) (by omega)] | rw [Int.natCast_add, Int.natCast_one], by show i + 1 + (gk - 1) = 64; omega, unhide W10, unhide B10⟩
        · have hi : i = 64 := by have := unhide HI; omega
          subst hi
          have HH : Hid (Ws wr ph 189 hs) := (unhide H1).below (unhide HB)
          have P1 : Hid (ph < w.heap.size) := (unhide H1).lt
          obtain ⟨vs, hvs⟩ : ∃ vs, vs = vrow ks ws hs 64 := ⟨_, rfl⟩
          have h8 : vs.length = 8 := by rw [hvs]; exact vrow_len ks ws hs 64 hl
          rw [← hvs] at HV
          have HVS := hide hvs
          have BB : Hid (Below base w wr) := (unhide HB).mono (Nat.le_trans hb (Nat.le_of_lt (unhide P1)))
          have KB : Hid (KeepBut w wr ph none) := KeepBut.of_below (unhide HB) ph none
          clear hvs HI HB hlt
          go_wp2
          go_loopg [176] 8 (fun kq v176 wr => ∃ i : Nat, v176 = .int .i64 (i : Int) ∧ Hid (i + kq = 8) ∧ Hid (Ws wr ph 189 (hrow hs vs i)) ∧ Hid (Ws wr gv 189 vs) ∧ Hid (Below base w wr) ∧ Hid (KeepBut w wr ph none))
          case atStart => exact ⟨0, rfl, Nat.zero_add _, unhide HH, unhide HV, unhide BB, unhide KB⟩
          case round =>
            clear HH HV BB KB
            obtain ⟨i, rfl, HI, HH, HV, BB, KB⟩ := hrel
            obtain ⟨xs, hxs⟩ : ∃ l, l = hrow hs vs i := ⟨_, rfl⟩
            have x8 : xs.length = 8 := by rw [hxs, hrow_len]; exact hl
            rw [← hxs] at HH
            have HXS := hide hxs
            clear hxs
            by_cases hlt : i < 8
            · obtain ⟨x, hx⟩ : ∃ x, x = rd xs (i : Int) := ⟨_, rfl⟩
              obtain ⟨v, hv⟩ : ∃ x, x = rd vs (i : Int) := ⟨_, rfl⟩
              have CX : Hid (wr.drew.cell? ⟨ph, i, none⟩ = some (.int .u32 x)) := by rw [hx]; exact (unhide HH).cell i (by omega)
              have CV : Hid (wr.drew.cell? ⟨gv, i, none⟩ = some (.int .u32 v)) := by rw [hv]; exact (unhide HV).cell i (by omega)
              have FX : Hid (wr.drew.frozen? ⟨ph, i, none⟩ = false) := (unhide HH).frozen i
              have d8 : (i : Int) < 8 := by omega
              have HLT := hide hlt
              have HX := hide (And.intro hx hv)
              clear hlt hx hv x8
              go_wp2
              refine start_ (n := 12) (S := fun w' => w'.cell? ⟨ph, i, none⟩ = some (.int .u32 x) ∧ w'.cell? ⟨gv, i, none⟩ = some (.int .u32 v)) (ds := [11]) (bt 12 0) (by kernel_rfl) rfl (by kernel_rfl) ⟨unhide CX, unhide CV⟩ (fun hHeld => ?_)
              refine with_tabW tabT20_22 bitsT20_22 (fun HT_ HW_ => ?_)
              refine run_ [(0, 179), (1, 180), (2, 181), (3, 182)] ?_
              iterate 4 ((first | refine sp_ (v := ?_) (a' := ?_) HT_.out rfl rfl rfl (by kernel_rfl) (fun _ _ _ h => h) ?_ ?_ ?_ | refine sg_ (v := ?_) (a' := ?_) HT_.out rfl rfl (by kernel_rfl) (fun _ _ _ h => h) (by rfl) ?_ ?_ ?_); rotate_left; (· intro w'; go_simp; with_reducible rfl); rotate_left; (· simp only [Act.put, List.setIfInBounds_toArray, List.set_cons_zero, List.set_cons_succ, i64_w, i32_w]; rfl))
              refine rend_ ?_
              refine take_ (i := 4) (N := some 183) (v := ?_) (a' := ?_) (bt 12 31) rfl rfl (take_ofW HT_.out HW_.out (by kernel_rfl)) (fun _ _ _ h => h) (Or.inl ⟨by rfl, ?_⟩) hHeld ?_ ?_
              rotate_left
              · rintro w' ⟨_, _⟩
                skip
                go_simp
                with_reducible rfl
              rotate_left
              · simp only [Act.put, List.setIfInBounds_toArray, List.set_cons_zero, List.set_cons_succ, i64_w, i32_w]
                rfl
              refine run_ [(5, 184), (6, 185)] ?_
              iterate 2 ((first | refine sp_ (v := ?_) (a' := ?_) HT_.out rfl rfl rfl (by kernel_rfl) (fun _ _ _ h => h) ?_ ?_ ?_ | refine sg_ (v := ?_) (a' := ?_) HT_.out rfl rfl (by kernel_rfl) (fun _ _ _ h => h) (by rfl) ?_ ?_ ?_); rotate_left; (· intro w'; go_simp; with_reducible rfl); rotate_left; (· simp only [Act.put, List.setIfInBounds_toArray, List.set_cons_zero, List.set_cons_succ, i64_w, i32_w]; rfl))
              refine rend_ ?_
              refine take_ (i := 7) (N := some 186) (v := ?_) (a' := ?_) (bt 12 255) rfl rfl (take_ofW HT_.out HW_.out (by kernel_rfl)) (fun _ _ _ h => h) (Or.inl ⟨by rfl, ?_⟩) hHeld ?_ ?_
              rotate_left
              · rintro w' ⟨_, _⟩
                skip
                go_simp
                with_reducible rfl
              rotate_left
              · simp only [Act.put, List.setIfInBounds_toArray, List.set_cons_zero, List.set_cons_succ, i64_w, i32_w]
                rfl
              refine run_ [(8, 187), (9, 188), (10, 189)] ?_
              iterate 3 ((first | refine sp_ (v := ?_) (a' := ?_) HT_.out rfl rfl rfl (by kernel_rfl) (fun _ _ _ h => h) ?_ ?_ ?_ | refine sg_ (v := ?_) (a' := ?_) HT_.out rfl rfl (by kernel_rfl) (fun _ _ _ h => h) (by rfl) ?_ ?_ ?_); rotate_left; (· intro w'; go_simp; with_reducible rfl); rotate_left; (· simp only [Act.put, List.setIfInBounds_toArray, List.set_cons_zero, List.set_cons_succ, i64_w, i32_w]; rfl))
              refine rend_ ?_
              refine last_ (i := 11) (N := none) (bt 12 4095) rfl rfl (one_of HT_.out (by kernel_rfl)) (by decide) (fun K hK => ?_)
              have hcell := unhide CX
              have hfroz := unhide FX
              refine skip_ (w1 := ?w22) (by rfl) rfl ?hrun ?_
              case hrun =>
                go_simp
                rfl
              refine hK.out _ _ ?_
              clear hK K
              refine done_ (done_of HT_.out (by kernel_rfl)) ?_
              clear HT_ HW_; (try clear hHeld)
              have W12 : Hid (Ws (wr.setCell ⟨ph, i, none⟩ (.int .u32 (IntKind.u32.wrap (x + v)))) ph 189 (hrow hs vs (i + 1))) := by
                have h1 := (unhide HH).put i (IntKind.u32.wrap (x + v))
                show Ws _ _ _ _
                rw [hrow, ← unhide HXS, ← (unhide HX).1, ← (unhide HX).2]
                exact h1
              have V12 : Hid (Ws (wr.setCell ⟨ph, i, none⟩ (.int .u32 (IntKind.u32.wrap (x + v)))) gv 189 vs) := (unhide HV).far (by have := unhide P1; have := unhide N0; simp; omega) _
              have B12 : Hid (Below base w (wr.setCell ⟨ph, i, none⟩ (.int .u32 (IntKind.u32.wrap (x + v)))).drew) := below_drew ((unhide BB).setCell hb _)
              have K12 : Hid (KeepBut w (wr.setCell ⟨ph, i, none⟩ (.int .u32 (IntKind.u32.wrap (x + v)))).drew ph none) := (unhide KB).set_ i _
              clear hcell hfroz CX CV FX HH HV BB KB d8
              generalize IntKind.u32.wrap (x + v) = y at W12 V12 B12 K12 ⊢
              go_wp2
              go_roundg (gk - 1)
              case measure => have := unhide HI; have := unhide HLT; omega
              case rel =>
                have := unhide HI
                have := unhide HLT
                exact ⟨i + 1, by first | rw [Int.natCast_add, Int.natCast_one, w64 _ (by omega) (by omega)] | rw [Int.natCast_add, Int.natCast_one], by show i + 1 + (gk - 1) = 8; omega, unhide W12, unhide V12, unhide B12, unhide K12⟩
            · have hi : i = 8 := by have := unhide HI; omega
              subst hi
              go_wp2
              go_end0
              refine ⟨rfl, ?_, unhide BB, unhide KB⟩
              have h1 := unhide HH
              rw [unhide HXS, unhide HVS, unhide HWE2] at h1
              exact h1
end Go.Proofs.YtgoephcembgmcaaDoor.Sh
namespace Go.Proofs.YtgoephcembgmcaaDoor.Sh
open Go.RowKit Go.Proofs.YtgoephcembgmcaaDoorW.PrintWords Go.Proofs.YtgoephcembgmcaaDoorW.PrintLast Wk FrM Fr Rg
open WkM (w64 Bytes)

/-! Arrays of bytes in a block of their own. -/
def bys (xs : List Int) : Array Value := (xs.map (Value.int .u8)).toArray
theorem bys_size (xs : List Int) : (bys xs).size = xs.length := by simp [bys]
theorem bys_get (xs : List Int) (i : Nat) (h : i < xs.length) : (bys xs)[i]? = some (.int .u8 (rd xs (i : Int))) := by
  unfold bys rd
  rw [List.getElem?_toArray, List.getElem?_map, List.getElem?_eq_getElem h, Int.toNat_natCast, List.getD_eq_getElem?_getD, List.getElem?_eq_getElem h]
  rfl
theorem bys_set (xs : List Int) (i : Nat) (x : Int) : (bys xs).setIfInBounds i (.int .u8 x) = bys (xs.set i x) := by
  unfold bys
  rw [List.setIfInBounds_toArray, List.map_set]
theorem bys_one (xs : List Int) : (bys xs).all (·.oneCell') = true := by
  unfold bys
  rw [Array.all_eq_true_iff_forall_mem]
  intro v hv
  simp only [List.mem_toArray, List.mem_map] at hv
  obtain ⟨x, _, rfl⟩ := hv
  rfl
/-- Block g holds the bytes xs, as an array of type t. -/
def Bs (w : World) (g t : Nat) (xs : List Int) : Prop := w.heap[g]? = some (.cells (bys xs) t (0, 0))
section
variable {w w1 : World} {g t : Nat} {xs : List Int}
theorem Bs.cell (h : Bs w g t xs) (i : Nat) (hi : i < xs.length) : w.cell? ⟨g, i, none⟩ = some (.int .u8 (rd xs (i : Int))) := (blk_cell h i).trans (bys_get xs i hi)
theorem Bs.frozen (h : Bs w g t xs) (i : Nat) : w.frozen? ⟨g, i, none⟩ = false := blk_frozen h i
theorem Bs.put (h : Bs w g t xs) (i : Nat) (x : Int) : Bs (w.setCell ⟨g, i, none⟩ (.int .u8 x)) g t (xs.set i x) := blk_put h i _ (bys_set xs i x)
theorem Bs.far (h : Bs w g t xs) {p : Addr} (hp : g ≠ p.block) (u : Value) : Bs (w.setCell p u) g t xs := blk_far h hp u
theorem Bs.below (h : Bs w g t xs) (hb : Below w.heap.size w w1) : Bs w1 g t xs := blk_below h hb
theorem Bs.alloc (h : Bs w g t xs) (o : Obj) : Bs (w.alloc o) g t xs := blk_alloc h o
theorem Bs.lt (h : Bs w g t xs) : g < w.heap.size := blk_lt h
theorem Bs.row {ys : List Int} (h : Bs w g t xs) : Bs (w.setRow g (bys ys)) g t ys := setRow_heap w g _ _ t _ h
end

/-! The sum of bytes (plain law). -/
def H0 : List Int := [1779033703, 3144134277, 1013904242, 2773480762, 1359893119, 2600822924, 528734635, 1541459225]
theorem H0_u : Us H0 := by
  intro x hx
  simp only [H0, List.mem_cons, List.not_mem_nil, or_false] at hx
  unfold U32
  omega
/-- m blocks taken in. -/
def blocks (h : List Int) : Nat → List Int → List Int
  | 0, _ => h
  | m + 1, l => blocks (comp KK h l) m (l.drop 64)
theorem blocks_next (h : List Int) : ∀ (m : Nat) (l : List Int), blocks h (m + 1) l = comp KK (blocks h m l) (l.drop (64 * m))
  | 0, l => by simp [blocks]
  | m + 1, l => by
    rw [blocks, blocks_next (comp KK h l) m (l.drop 64), blocks, List.drop_drop]
    congr 2
    omega
theorem blocks_len (h : List Int) : ∀ (m : Nat) (l : List Int), (blocks h m l).length = h.length
  | 0, _ => rfl
  | m + 1, l => by rw [blocks, blocks_len _ m]; exact comp_len _ _ _
theorem blocks_u (h : List Int) (hu : Us h) : ∀ (m : Nat) (l : List Int), Us (blocks h m l)
  | 0, _ => hu
  | m + 1, l => by rw [blocks_next]; exact comp_u _ _ _ (blocks_u h hu m l)
def tailOf (l : List Int) : List Int := l.drop (64 * (l.length / 64))
def noughts (l : List Int) : Nat := (119 - l.length % 64) % 64
def lenb (n j : Nat) : Int := ((n * 8 / 2 ^ (56 - 8 * j) % 256 : Nat) : Int)
def lens (n : Nat) : Nat → List Int
  | 0 => []
  | j + 1 => lens n j ++ [lenb n j]
theorem lens_len (n : Nat) : ∀ j, (lens n j).length = j
  | 0 => rfl
  | j + 1 => by rw [lens, List.length_append, lens_len n j]; rfl
def padded (l : List Int) : List Int := tailOf l ++ [128] ++ List.replicate (noughts l) 0 ++ lens l.length 8
theorem tailOf_len (l : List Int) : (tailOf l).length = l.length % 64 := by
  unfold tailOf
  rw [List.length_drop]
  omega
theorem padded_len (l : List Int) : ∃ m, (padded l).length = 64 * m ∧ m ≤ 2 := by
  have h : (padded l).length = l.length % 64 + 1 + noughts l + 8 := by
    unfold padded
    simp only [List.length_append, tailOf_len, lens_len, List.length_replicate, List.length_singleton]
  unfold noughts at h
  exact ⟨(padded l).length / 64, by omega, by omega⟩
def hash (l : List Int) : List Int := blocks (blocks H0 (l.length / 64) l) ((padded l).length / 64) (padded l)
theorem hash_len (l : List Int) : (hash l).length = 8 := by
  unfold hash
  rw [blocks_len, blocks_len]
  rfl
theorem hash_u (l : List Int) : Us (hash l) := blocks_u _ (blocks_u _ H0_u _ _) _ _
/-- Byte i of a sum. -/
def outb (h : List Int) (i : Nat) : Int := rd h ((i / 4 : Nat) : Int) / 2 ^ (24 - 8 * (i % 4)) % 256
def outs (h : List Int) : Nat → List Int
  | 0 => List.replicate 32 0
  | i + 1 => (outs h i).set i (outb h i)
theorem outs_len (h : List Int) : ∀ i, (outs h i).length = 32
  | 0 => List.length_replicate ..
  | i + 1 => by rw [outs, List.length_set]; exact outs_len h i
/-- The sum of bytes. -/
def S (l : List Int) : List Int := outs (hash l) 32
theorem S_len (l : List Int) : (S l).length = 32 := outs_len _ _
theorem outs_bytes (h : List Int) : ∀ i, Bytes (outs h i)
  | 0 => fun x hx => by
    rw [List.eq_of_mem_replicate hx]
    exact ⟨by decide, by decide⟩
  | i + 1 => fun x hx => by
    rcases List.mem_or_eq_of_mem_set hx with hx | hx
    · exact outs_bytes h i x hx
    · rw [hx, outb]
      exact ⟨Int.emod_nonneg _ (by decide), Int.le_of_lt_add_one (Int.emod_lt_of_pos _ (by decide))⟩
theorem S_bytes (l : List Int) : Bytes (S l) := outs_bytes _ _

/-! Rows of bytes that may begin inside their block. -/
abbrev Que (w : World) (base : Nat) (ok : Nat → Prop) (v : Value) (xs : List Int) : Prop := (Kd.int .u8).Q 5 w base ok v xs
theorem que_drop (A : Option Addr) (c m : Nat) (l : List Int) (hm : m ≤ l.length) :
    ∃ A1, (∀ W : World, (Instr.slice 22 (.slice A l.length c) (some (.int .i64 (m : Int))) none none).run Tryd.prog W = .ok (.slice A1 (l.drop m).length (c - m)) W) ∧
      (∀ (w : World) (base : Nat) (ok : Nat → Prop), Que w base ok (.slice A l.length c) l → Que w base ok (.slice A1 (l.drop m).length (c - m)) (l.drop m)) := by
  obtain ⟨i0, hi, _, hsz, _⟩ := info_parts info5
  have h1 := cut_from (P := Tryd.prog) 22 5 .i64 Tryd.underlying22 hi 1 hsz A l.length c (m : Int) (by omega) (by omega)
  rw [Int.toNat_natCast] at h1
  have hl : (l.drop m).length = l.length - m := List.length_drop
  refine ⟨if c = m then A else A.map (·.add (m * 1)), fun W => by rw [hl]; exact h1 W, fun w base ok h => ?_⟩
  have h2 := Kd.Q_drop h hm
  rw [hl]
  exact h2
theorem que_reads {w : World} {base n c : Nat} {ok : Nat → Prop} {A : Option Addr} {xs : List Int} (h : Que w base ok (.slice A n c) xs) : n = xs.length ∧ n ≤ c ∧ Kd.C (Kd.int .u8) w A xs.length xs := Kd.Q_reads' h
theorem que_some {w : World} {base n c : Nat} {ok : Nat → Prop} {A : Option Addr} {xs : List Int} (h : Que w base ok (.slice A n c) xs) (hp : 0 < xs.length) : ∃ ad, A = some ad := by
  obtain ⟨g, o, cap, e, _⟩ := Kd.Q_form h hp
  injection e with e _ _
  exact ⟨_, e⟩
end Go.Proofs.YtgoephcembgmcaaDoor.Sh
