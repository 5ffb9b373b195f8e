import Derived.Test.YtgoephcembgmcaaDoorQ05
import Derived.Deep.MidRow
set_option linter.unusedSimpArgs false
set_option linter.unusedVariables false
namespace Go.Proofs.YtgoephcembgmcaaDoor.Tk
open Go.RowKit Go.Proofs.YtgoephcembgmcaaDoorW.PrintWords Go.Proofs.YtgoephcembgmcaaDoorW.PrintLast Wk FrM Fr Bl Rg
open WkM (w64 Bytes)
/-- A token in block g. -/
def Tkb (w : World) (g : Nat) (f k : Int) (v : Value) : Prop := w.heap[g]? = some (.cells #[.int .i64 f, .int .i64 k, v] 144 (0, 0))
theorem Tkb.cells {w : World} {g : Nat} {f k : Int} {v : Value} (h : Tkb w g f k v) :
    (w.cell? ⟨g, 0, none⟩ = some (.int .i64 f) ∧ w.cell? ⟨g, 1, none⟩ = some (.int .i64 k) ∧ w.cell? ⟨g, 2, none⟩ = some v) ∧ (w.frozen? ⟨g, 0, none⟩ = false ∧ w.frozen? ⟨g, 1, none⟩ = false ∧ w.frozen? ⟨g, 2, none⟩ = false) ∧ g < w.heap.size := box3 h
theorem info144 : (Tryd.prog.info? 144).map (fun i => (i.zero, i.size, i.bytes)) = some (some (.agg #[.int .i64 0, .int .i64 0, .slice none 0 0]), 3, 40) := by kernel_rfl
/-- The last token, lent: its cells, its blocks, the list without it. -/
theorem last_lent {w : World} {base g n c : Nat} {ok : Nat → Prop} {ts : List (Int × Int × List Int)} {l1 : Nat} {t : Int × Int × List Int} (h : Kd.S frK 144 w base ok (.slice (some ⟨g, 0, none⟩) n c) ts) (hn : n = l1 + 1) (ht : ts[l1]? = some t) :
    ∃ (oki : Nat → Prop) (v : Value), (Kd.int .u8).R 5 w base oki v t.2.2 ∧ (w.cell? ⟨g, l1 * 3, none⟩ = some (.int .i64 t.1) ∧ w.cell? ⟨g, l1 * 3 + 1, none⟩ = some (.int .i64 t.2.1) ∧ w.cell? ⟨g, l1 * 3 + 2, none⟩ = some v) ∧ (∀ j, w.frozen? ⟨g, l1 * 3 + j, none⟩ = false) ∧ (∀ k, oki k → ok k ∧ k ≠ g) ∧
      Kd.H frK 144 w base ok (.slice (some ⟨g, 0, none⟩) n c) ts (l1 : Int) oki [.int .i64 t.1, .int .i64 t.2.1, v] := by
  obtain ⟨oki, cs, hcl, hM, hcc, hfr, hoki, hH⟩ := Kd.S_elem h (0, 0, []) (l1 : Int) (by omega) (by omega)
  rw [Int.toNat_natCast, List.getD_eq_getElem?_getD, ht] at hM
  simp only [Int.toNat_natCast] at hcc hfr
  obtain ⟨c0, c1, rfl, h0, c2, c3, rfl, h2, v, rfl, hR⟩ := hM
  have e0 : c0 = [.int .i64 t.1] := h0
  have e2 : c2 = [.int .i64 t.2.1] := h2
  subst e0 e2
  have hsz : frK.sz = 3 := rfl
  rw [hsz] at hcc hfr
  exact ⟨oki, v, hR, ⟨hcc 0 _ rfl, hcc 1 _ rfl, hcc 2 _ rfl⟩, hfr, hoki, hH⟩
theorem own5_144 : ∀ q, q ∈ 5 :: (Kd.int .u8).E → q ≠ 144 := by
  intro q hq
  simp [Kd.int, Kd.scalar] at hq
  omega
theorem clone_one (ad : Addr) (c : Nat) (x : Int) (w : World) (hr : Kd.C (Kd.int .u8) w (some ad) 1 [x]) :
    Calls Tryd.prog 91 #[.slice (some ad) 1 c] w fun e w' => ∃ A1 c1, e = .returned (.slice A1 1 c1) ∧ Own w' w.heap.size (.slice A1 1 c1) [x] ∧ Below w.heap.size w w' := clone_some ad c [x] w hr (by simp)
theorem size_set (w : World) (p : Addr) (u : Value) : (w.setCell p u).heap.size = w.heap.size := by simp
/-- All tokens are such. -/
def AllOk (ts : List (Int × Int × List Int)) : Prop := ∀ t ∈ ts, TkOk t
theorem pw_cell_grown {w w1 : World} {row : Option Nat} {g o : Nat} {u : Value} (hg : w.grownBy w1 row) (hlt : g < w.heap.size) (hne : some g ≠ row) (h : w.cell? ⟨g, o, none⟩ = some u) : w1.cell? ⟨g, o, none⟩ = some u := by
  have hb := hg.block g hlt hne
  unfold World.cell? at h ⊢
  simp only [hb]
  exact h
theorem frozen_grown {w w1 : World} {row : Option Nat} {g : Nat} (hg : w.grownBy w1 row) (hlt : g < w.heap.size) (hne : some g ≠ row) (o : Nat) : w1.frozen? ⟨g, o, none⟩ = w.frozen? ⟨g, o, none⟩ := by
  have hb := hg.block g hlt hne
  unfold World.frozen?
  simp only [hb]
theorem set1 (w : World) (g o : Nat) (u : Value) : w.setCells g o [u] = w.setCell ⟨g, o, none⟩ u := rfl
def T66_4 : Bool × List (List Nat × List Nat) := (true, [([], []), ([0], [0]), ([1], [1]), ([2], [2]), ([3], [3]), ([4, 3], [3, 4]), ([5, 3], [3, 5]), ([6, 3], [3, 6]), ([7, 3], [3, 7]), ([3, 8], [3, 8]), ([9, 3], [9]), ([10], [10]), ([11, 10], [10, 11]), ([12, 10], [10, 12]), ([13, 10], [10, 13]), ([10], [10]), ([15, 10], [10, 15]), ([16, 10], [10, 16]), ([17, 10], [10, 17]), ([14, 18, 10], [10, 14, 18]), ([10], [10]), ([20, 10], [10, 20]), ([19, 21, 10], [10, 19, 21]), ([10, 22], [10, 22]), ([23, 10], [23])])
def BT66_4 : List Nat := [0, 1, 3, 7, 15, 31, 63, 127, 255, 511, 1023, 2047, 4095, 8191, 16383, 2047, 34815, 100351, 231423, 524287, 2047, 1050623, 4194303, 8388607, 16777215]
theorem tabT66_4 : rtab .any (opsOf Tryd.f66 4) = T66_4 := by kernel_rfl
theorem bitsT66_4 : waitsOk T66_4.2 BT66_4 = true := by kernel_rfl
def T66_5 : Bool × List (List Nat × List Nat) := (true, [([], []), ([0], [0]), ([1], [1]), ([2], [2]), ([], []), ([4], [4]), ([3, 5], [3, 5]), ([0, 0, 1, 2, 3, 4, 5, 6], [0]), ([7, 0, 1, 2, 3, 4, 5, 6], [7]), ([8, 6, 0, 1, 2, 3, 4, 5, 6], [6, 8])])
def BT66_5 : List Nat := [0, 1, 3, 7, 0, 16, 63, 127, 255, 511]
theorem tabT66_5 : rtab .any (opsOf Tryd.f66 5) = T66_5 := by kernel_rfl
theorem bitsT66_5 : waitsOk T66_5.2 BT66_5 = true := by kernel_rfl
def T66_8 : Bool × List (List Nat × List Nat) := (true, [([], []), ([], []), ([1], [1]), ([2], [2]), ([3], [3]), ([], []), ([5], [5]), ([4, 6], [4, 6]), ([0, 0, 1, 2, 3, 4, 5, 6, 7], [0]), ([8, 0, 1, 2, 3, 4, 5, 6, 7], [8]), ([9, 7, 7, 0, 1, 2, 3, 4, 5, 6, 7], [7, 9])])
def BT66_8 : List Nat := [0, 0, 2, 6, 14, 0, 32, 126, 255, 511, 1023]
theorem tabT66_8 : rtab .any (opsOf Tryd.f66 8) = T66_8 := by kernel_rfl
theorem bitsT66_8 : waitsOk T66_8.2 BT66_8 = true := by kernel_rfl

set_option maxHeartbeats 4000000 in
set_option maxRecDepth 100000 in
theorem add_block (base : Nat) (i : Nat) (v : Value) (ts : List (Int × Int × List Int)) (w : World) (hS : Kd.S frK 144 w base (fun _ => True) v ts) (hok : AllOk ts) (hi : i ≤ 1000) (hbase : base ≤ w.heap.size) (htw : tws ts ≤ 600) :
    Calls Tryd.prog 66 #[v, .agg #[.int .i64 (i : Int), .int .i64 1, .slice none 0 0]] w fun e w' => ∃ (A1 : Option Addr) (c1 : Nat) (us : List (Int × Int × List Int)), e = .returned (.slice A1 us.length c1) ∧ Kd.S frK 144 w' base (fun _ => True) (.slice A1 us.length c1) us ∧ AllOk us ∧ tws us ≤ tws ts + 1 ∧ Below base w w' := by
  obtain ⟨A0, c0, rfl⟩ := Kd.R_slice (Kd.S_R hS)
  obtain ⟨n, hn⟩ : ∃ n, n = ts.length := ⟨_, rfl⟩
  obtain ⟨g0, hg0⟩ : ∃ g0, g0 = w.heap.size := ⟨_, rfl⟩
  have hlt := len_tws hok
  have bx : Tkb (w.alloc (.cells #[.int .i64 (i : Int), .int .i64 1, .slice none 0 0] 144)) g0 (i : Int) 1 (.slice none 0 0) := by rw [hg0]; exact blk_new _ _
  have sx : Kd.S frK 144 (w.alloc (.cells #[.int .i64 (i : Int), .int .i64 1, .slice none 0 0] 144)) base (fun k => k ≠ g0) (.slice A0 ts.length c0) ts := by
    rw [hg0]
    exact Kd.S_alloc (Kd.S_mono (Kd.S_bound hS) (fun k hk => Nat.ne_of_lt hk.2.2.1)) _
  have bb : Below base w (w.alloc (.cells #[.int .i64 (i : Int), .int .i64 1, .slice none 0 0] 144)) := (below_alloc (Below.refl w.heap.size w) _).mono hbase
  have HI := hide hi
  clear hi
  have HBS : Hid (base ≤ g0) := by show _ ≤ _; omega
  rw [← hn] at sx ⊢
  have BX := hide bx
  have SX := hide sx
  have BB := hide bb
  clear bx sx bb
  have HOK := hide hok
  have HTW := hide htw
  have HLT := hide hlt
  have HG0 := hide hg0
  clear hS hok htw hlt hbase hg0
  have hn600 : n ≤ 600 := by have := unhide HTW; have := unhide HLT; omega
  have HN := hide hn
  clear hn
  by_cases h0 : n = 0
  · subst h0
    go_enter Tryd.func66, Tryd.ntmps66
    go_wp2_with fail
    try rw [← unhide HG0]
    generalize w.alloc (.cells #[.int .i64 (i : Int), .int .i64 1, .slice none 0 0] 144) = w1 at BX SX BB ⊢
    refine (clone_nil _).mono ?_
    intro e w' hh
    rw [hh.1, hh.2]
    clear hh
    have bx3 : Tkb (w1.setCell ⟨g0, 2, none⟩ (.slice none 0 0)) g0 (i : Int) 1 (.slice none 0 0) := blk_put (unhide BX) 2 _ rfl
    have sx3 := Kd.S_far (p := ⟨g0, 2, none⟩) (unhide SX) (fun _ hk => hk) (.slice none 0 0)
    have bb3 := (unhide BB).setCell (p := ⟨g0, 2, none⟩) (unhide HBS) (.slice none 0 0)
    have L3 : Hid (g0 < (w1.setCell ⟨g0, 2, none⟩ (.slice none 0 0)).heap.size) := blk_lt bx3
    obtain ⟨⟨_, _, _⟩, ⟨_, _, _⟩, _⟩ := (unhide BX).cells
    obtain ⟨⟨_, _, _⟩, _, _⟩ := bx3.cells
    have SX3 := hide sx3
    have BB3 := hide bb3
    clear sx3 bb3 bx3
    go_wp2_with (at_builtin; refine unhide ?_)
    refine hide ?_
    refine Kd.S_append frK (w0 := w) (W := (w1.setCell ⟨g0, 2, none⟩ (.slice none 0 0))) base rfl (.tmp 76) (.tmp 78) 34 144 (.agg #[.int .i64 0, .int .i64 0, .slice none 0 0]) 40 rfl Tryd.underlying34 info144 rfl (by decide) (by decide) (.slice A0 0 c0) ts ((i : Int), 1, []) [.int .i64 (i : Int), .int .i64 1, .slice none 0 0] (fun k => k ≠ g0) (fun _ => False) rfl (by rw [size_set]; rfl) (frK_M (Kd.R_nil _ _ _ _ _)) (fun k h => h.elim) (fun k hk => by have := unhide L3; omega) (Kd.S_mono (unhide SX3) (fun k hk => ⟨hk, fun h => h⟩)) (unhide BB3) (Nat.le_trans (unhide HBS) (Nat.le_of_lt (unhide L3))) (by have := unhide HTW; have := unhide HLT; omega) ?_
    intro v5 w5 hS5 hB5 hg5 hat5
    obtain ⟨us, hus⟩ : ∃ us, us = ts ++ [((i : Int), 1, [])] := ⟨_, rfl⟩
    rw [← hus] at hS5
    obtain ⟨A5, c5, rfl⟩ := Kd.R_slice (Kd.S_R hS5)
    have HS5 := hide (Kd.S_mono hS5 (fun _ _ => trivial))
    have HB5 := hide hB5
    have HUS := hide hus
    clear hS5 hB5 hg5 hat5 hus
    go_wp2
    refine bodyPost_ret (v := .slice A5 us.length c5) (by simp [results, Tryd.results66, go_sem]) rfl ⟨A5, c5, us, rfl, unhide HS5, (by rw [unhide HUS]; exact tkok_snoc (unhide HOK) (.inl ⟨by omega, by have := unhide HI; show (i : Int) ≤ 1000; omega, by show (0 : Int) < 1; decide, rfl⟩)), (by rw [unhide HUS, tws_append]; simp [tws, tw]), unhide HB5⟩

  · obtain ⟨l1, hl1⟩ : ∃ l1, n = l1 + 1 := ⟨n - 1, by omega⟩
    have h1l : l1 < ts.length := by have := unhide HN; omega
    obtain ⟨t, ht⟩ : ∃ t, ts[l1]? = some t := ⟨_, List.getElem?_eq_getElem h1l⟩
    obtain ⟨g, rfl⟩ : ∃ g, A0 = some ⟨g, 0, none⟩ := by
      have hR := Kd.S_R (unhide SX)
      obtain ⟨ad, rfl⟩ : ∃ ad, A0 = some ad := by
        obtain ⟨ad, hA, _⟩ := (Kd.R_reads' hR).2.2.2.2 (by have := unhide HN; omega)
        exact ⟨ad, hA⟩
      obtain ⟨g, rfl⟩ := Kd.R_head hR
      exact ⟨g, rfl⟩
    have htk := (unhide HOK) t (List.mem_of_getElem? ht)
    obtain ⟨f1, k1, ys1⟩ := t
    have HTK := hide htk
    have HT := hide ht
    have HL1 := hide hl1
    have e1 : wrap64 ((n : Int) - 1) = (l1 : Int) := by rw [w64 _ (by omega) (by omega)]; omega
    have d1 : ¬ (l1 : Int) < 0 := by omega
    have d2 : (l1 : Int) < (n : Int) := by omega
    have HN6 := hide hn600
    clear h0 hl1 h1l ht htk hn600
    go_enter Tryd.func66, Tryd.ntmps66
    go_wp2
    try rw [← unhide HG0]
    generalize w.alloc (.cells #[.int .i64 (i : Int), .int .i64 1, .slice none 0 0] 144) = w1 at BX SX BB ⊢
    have BXD : Hid (Tkb w1.drew g0 (i : Int) 1 (.slice none 0 0)) := unhide BX
    have SD := hide (Kd.S_drew (unhide SX))
    have BD := hide (below_drew (unhide BB))
    clear BX SX BB
    obtain ⟨oki, v1, -, ⟨f0, f1_, -⟩, -, -, -⟩ := last_lent (unhide SD) (unhide HL1) (unhide HT)
    have F0 : Hid (w1.drew.cell? ⟨g, l1 * 3, none⟩ = some (.int .i64 f1)) := f0
    have F1 : Hid (w1.drew.cell? ⟨g, l1 * 3 + 1, none⟩ = some (.int .i64 k1)) := f1_
    clear f0 f1_
    by_cases hk : 0 < k1
    · obtain ⟨q, hq⟩ : ∃ q, q = wrap64 (f1 + k1) := ⟨_, rfl⟩
      have hq' := hq.symm
      by_cases hj : q = (i : Int)
      · have hj1 : (q == (i : Int)) = true := by simp [hj]
        have hq3 : wrap64 (f1 + k1) = (i : Int) := hq'.trans hj
        have HQ := hide hq3
        clear hq hq' hj hj1
        refine start_ (n := 25) (S := fun w' => Tkb w' g0 (i : Int) 1 (.slice none 0 0) ∧ w'.cell? ⟨g, l1 * 3, none⟩ = some (.int .i64 f1) ∧ w'.cell? ⟨g, l1 * 3 + 1, none⟩ = some (.int .i64 k1)) (ds := []) (bt 25 0) (by kernel_rfl) rfl (by kernel_rfl) ⟨unhide BXD, unhide F0, unhide F1⟩ (fun hHeld => ?_)
        refine with_tabW tabT66_4 bitsT66_4 (fun HT_ HW_ => ?_)
        refine run_ [(0, 16)] ?_
        iterate 1 ((first | refine sp_ (v := ?_) (a' := ?_) HT_.out rfl rfl rfl (by kernel_rfl) (fun _ _ _ h => h) ?_ ?_ ?_ | refine sg_ (v := ?_) (a' := ?_) HT_.out rfl rfl (by kernel_rfl) (fun _ _ _ h => h) (by rfl) ?_ ?_ ?_); rotate_left; (· intro w'; go_simp; with_reducible rfl); rotate_left; (· simp only [Act.put, List.setIfInBounds_toArray, List.set_cons_zero, List.set_cons_succ, i64_w, i32_w]; rfl))
        refine rend_ ?_
        refine take_ (i := 1) (N := some 17) (v := ?_) (a' := ?_) (bt 25 3) rfl rfl (take_ofW HT_.out HW_.out (by kernel_rfl)) (fun _ _ _ h => h) (Or.inl ⟨by rfl, ?_⟩) hHeld ?_ ?_
        rotate_left
        · rintro w' ⟨h1_, h2_, h3_⟩
          obtain ⟨⟨_, _, _⟩, _, _⟩ := h1_.cells
          go_simp
          with_reducible rfl
        rotate_left
        · simp only [Act.put, List.setIfInBounds_toArray, List.set_cons_zero, List.set_cons_succ, i64_w, i32_w]
          rfl
        refine run_ [(2, 18), (3, 19), (4, 20), (5, 21), (6, 22)] ?_
        iterate 5 ((first | refine sp_ (v := ?_) (a' := ?_) HT_.out rfl rfl rfl (by kernel_rfl) (fun _ _ _ h => h) ?_ ?_ ?_ | refine sg_ (v := ?_) (a' := ?_) HT_.out rfl rfl (by kernel_rfl) (fun _ _ _ h => h) (by rfl) ?_ ?_ ?_); rotate_left; (· intro w'; go_simp; with_reducible rfl); rotate_left; (· simp only [Act.put, List.setIfInBounds_toArray, List.set_cons_zero, List.set_cons_succ, i64_w, i32_w]; rfl))
        refine rend_ ?_
        refine take_ (i := 7) (N := some 23) (v := ?_) (a' := ?_) (bt 25 255) rfl rfl (take_ofW HT_.out HW_.out (by kernel_rfl)) (fun _ _ _ h => h) (Or.inl ⟨by rfl, ?_⟩) hHeld ?_ ?_
        rotate_left
        · rintro w' ⟨h1_, h2_, h3_⟩
          obtain ⟨⟨_, _, _⟩, _, _⟩ := h1_.cells
          go_simp
          with_reducible rfl
        rotate_left
        · simp only [Act.put, List.setIfInBounds_toArray, List.set_cons_zero, List.set_cons_succ, i64_w, i32_w]
          rfl
        refine run_ [(8, 24), (9, 25), (10, 26), (11, 27), (12, 28), (13, 29)] ?_
        iterate 6 ((first | refine sp_ (v := ?_) (a' := ?_) HT_.out rfl rfl rfl (by kernel_rfl) (fun _ _ _ h => h) ?_ ?_ ?_ | refine sg_ (v := ?_) (a' := ?_) HT_.out rfl rfl (by kernel_rfl) (fun _ _ _ h => h) (by rfl) ?_ ?_ ?_); rotate_left; (· intro w'; go_simp; with_reducible rfl); rotate_left; (· simp only [Act.put, List.setIfInBounds_toArray, List.set_cons_zero, List.set_cons_succ, i64_w, i32_w]; rfl))
        refine rend_ ?_
        refine take_ (i := 14) (N := some 30) (v := ?_) (a' := ?_) (bt 25 32767) rfl rfl (take_ofW HT_.out HW_.out (by kernel_rfl)) (fun _ _ _ h => h) (Or.inl ⟨by rfl, ?_⟩) hHeld ?_ ?_
        rotate_left
        · rintro w' ⟨h1_, h2_, h3_⟩
          obtain ⟨⟨_, _, _⟩, _, _⟩ := h1_.cells
          go_simp
          with_reducible rfl
        rotate_left
        · simp only [Act.put, List.setIfInBounds_toArray, List.set_cons_zero, List.set_cons_succ, i64_w, i32_w]
          rfl
        refine run_ [(15, 31), (16, 32), (17, 33)] ?_
        iterate 3 ((first | refine sp_ (v := ?_) (a' := ?_) HT_.out rfl rfl rfl (by kernel_rfl) (fun _ _ _ h => h) ?_ ?_ ?_ | refine sg_ (v := ?_) (a' := ?_) HT_.out rfl rfl (by kernel_rfl) (fun _ _ _ h => h) (by rfl) ?_ ?_ ?_); rotate_left; (· intro w'; go_simp; with_reducible rfl); rotate_left; (· simp only [Act.put, List.setIfInBounds_toArray, List.set_cons_zero, List.set_cons_succ, i64_w, i32_w]; rfl))
        refine rend_ ?_
        refine take_ (i := 18) (N := some 34) (v := ?_) (a' := ?_) (bt 25 524287) rfl rfl (take_ofW HT_.out HW_.out (by kernel_rfl)) (fun _ _ _ h => h) (Or.inl ⟨by rfl, ?_⟩) hHeld ?_ ?_
        rotate_left
        · rintro w' ⟨h1_, h2_, h3_⟩
          obtain ⟨⟨_, _, _⟩, _, _⟩ := h1_.cells
          go_simp
          with_reducible rfl
        rotate_left
        · simp only [Act.put, List.setIfInBounds_toArray, List.set_cons_zero, List.set_cons_succ, i64_w, i32_w]
          rfl
        refine run_ [(19, 35), (20, 36)] ?_
        iterate 2 ((first | refine sp_ (v := ?_) (a' := ?_) HT_.out rfl rfl rfl (by kernel_rfl) (fun _ _ _ h => h) ?_ ?_ ?_ | refine sg_ (v := ?_) (a' := ?_) HT_.out rfl rfl (by kernel_rfl) (fun _ _ _ h => h) (by rfl) ?_ ?_ ?_); rotate_left; (· intro w'; go_simp; with_reducible rfl); rotate_left; (· simp only [Act.put, List.setIfInBounds_toArray, List.set_cons_zero, List.set_cons_succ, i64_w, i32_w]; rfl))
        refine rend_ ?_
        refine take_ (i := 21) (N := some 37) (v := ?_) (a' := ?_) (bt 25 4194303) rfl rfl (take_ofW HT_.out HW_.out (by kernel_rfl)) (fun _ _ _ h => h) (Or.inl ⟨by rfl, ?_⟩) hHeld ?_ ?_
        rotate_left
        · rintro w' ⟨h1_, h2_, h3_⟩
          obtain ⟨⟨_, _, _⟩, _, _⟩ := h1_.cells
          go_simp
          with_reducible rfl
        rotate_left
        · simp only [Act.put, List.setIfInBounds_toArray, List.set_cons_zero, List.set_cons_succ, i64_w, i32_w]
          rfl
        refine run_ [(22, 38), (23, 39), (24, 15)] ?_
        iterate 3 ((first | refine sp_ (v := ?_) (a' := ?_) HT_.out rfl rfl rfl (by kernel_rfl) (fun _ _ _ h => h) ?_ ?_ ?_ | refine sg_ (v := ?_) (a' := ?_) HT_.out rfl rfl (by kernel_rfl) (fun _ _ _ h => h) (by rfl) ?_ ?_ ?_); rotate_left; (· intro w'; go_simp; with_reducible rfl); rotate_left; (· simp only [Act.put, List.setIfInBounds_toArray, List.set_cons_zero, List.set_cons_succ, i64_w, i32_w]; rfl))
        refine rend_ ?_
        refine done_ (done_of HT_.out (by kernel_rfl)) ?_
        clear HT_ HW_ hHeld
        generalize w1.drew = w2 at BXD SD BD F0 F1 ⊢
        obtain ⟨⟨_, _, _⟩, ⟨_, _, _⟩, _⟩ := (unhide BXD).cells
        have g1_ := unhide F1
        go_wp2
        have BX5 : Hid (Tkb w2.drew g0 (i : Int) 1 (.slice none 0 0)) := unhide BXD
        have BD5 := hide (below_drew (unhide BD))
        obtain ⟨oki, v1, hR1, ⟨f0, f1_, f2_⟩, hfr, hoki, hH⟩ := last_lent (Kd.S_drew (unhide SD)) (unhide HL1) (unhide HT)
        have GB : Hid (base ≤ g) := Kd.S_base (unhide SD) g rfl
        have G1 : Hid (w2.drew.cell? ⟨g, l1 * 3 + 1, none⟩ = some (.int .i64 k1)) := f1_
        have G2 : Hid (w2.drew.cell? ⟨g, l1 * 3 + 2, none⟩ = some v1) := f2_
        have H5 := hide hH
        have R5 := hide hR1
        have FR := hide hfr
        have OKI := hide hoki
        clear f0 f1_ f2_ hH hR1 hfr hoki BXD SD BD F0 F1 g1_
        refine start_ (n := 10) (S := fun w' => Tkb w' g0 (i : Int) 1 (.slice none 0 0) ∧ w'.cell? ⟨g, l1 * 3 + 1, none⟩ = some (.int .i64 k1)) (ds := [9]) (bt 10 0) (by kernel_rfl) rfl (by kernel_rfl) ⟨unhide BX5, unhide G1⟩ (fun hHeld => ?_)
        refine with_tabW tabT66_5 bitsT66_5 (fun HT_ HW_ => ?_)
        refine run_ [(0, 40), (1, 41), (2, 42)] ?_
        iterate 3 ((first | refine sp_ (v := ?_) (a' := ?_) HT_.out rfl rfl rfl (by kernel_rfl) (fun _ _ _ h => h) ?_ ?_ ?_ | refine sg_ (v := ?_) (a' := ?_) HT_.out rfl rfl (by kernel_rfl) (fun _ _ _ h => h) (by rfl) ?_ ?_ ?_); rotate_left; (· intro w'; go_simp; with_reducible rfl); rotate_left; (· simp only [Act.put, List.setIfInBounds_toArray, List.set_cons_zero, List.set_cons_succ, i64_w, i32_w]; rfl))
        refine rend_ ?_
        refine take_ (i := 3) (N := some 43) (v := ?_) (a' := ?_) (bt 10 15) rfl rfl (take_ofW HT_.out HW_.out (by kernel_rfl)) (fun _ _ _ h => h) (Or.inl ⟨by rfl, ?_⟩) hHeld ?_ ?_
        rotate_left
        · rintro w' ⟨h1_, h2_⟩
          obtain ⟨⟨_, _, _⟩, _, _⟩ := h1_.cells
          go_simp
          with_reducible rfl
        rotate_left
        · simp only [Act.put, List.setIfInBounds_toArray, List.set_cons_zero, List.set_cons_succ, i64_w, i32_w]
          rfl
        refine run_ [(4, 44)] ?_
        iterate 1 ((first | refine sp_ (v := ?_) (a' := ?_) HT_.out rfl rfl rfl (by kernel_rfl) (fun _ _ _ h => h) ?_ ?_ ?_ | refine sg_ (v := ?_) (a' := ?_) HT_.out rfl rfl (by kernel_rfl) (fun _ _ _ h => h) (by rfl) ?_ ?_ ?_); rotate_left; (· intro w'; go_simp; with_reducible rfl); rotate_left; (· simp only [Act.put, List.setIfInBounds_toArray, List.set_cons_zero, List.set_cons_succ, i64_w, i32_w]; rfl))
        refine rend_ ?_
        refine take_ (i := 5) (N := some 45) (v := ?_) (a' := ?_) (bt 10 63) rfl rfl (take_ofW HT_.out HW_.out (by kernel_rfl)) (fun _ _ _ h => h) (Or.inl ⟨by rfl, ?_⟩) hHeld ?_ ?_
        rotate_left
        · rintro w' ⟨h1_, h2_⟩
          obtain ⟨⟨_, _, _⟩, _, _⟩ := h1_.cells
          go_simp
          with_reducible rfl
        rotate_left
        · simp only [Act.put, List.setIfInBounds_toArray, List.set_cons_zero, List.set_cons_succ, i64_w, i32_w]
          rfl
        refine run_ [(6, 46), (7, 47), (8, 48)] ?_
        iterate 3 ((first | refine sp_ (v := ?_) (a' := ?_) HT_.out rfl rfl rfl (by kernel_rfl) (fun _ _ _ h => h) ?_ ?_ ?_ | refine sg_ (v := ?_) (a' := ?_) HT_.out rfl rfl (by kernel_rfl) (fun _ _ _ h => h) (by rfl) ?_ ?_ ?_); rotate_left; (· intro w'; go_simp; with_reducible rfl); rotate_left; (· simp only [Act.put, List.setIfInBounds_toArray, List.set_cons_zero, List.set_cons_succ, i64_w, i32_w]; rfl))
        refine rend_ ?_
        refine last_ (i := 9) (N := none) (bt 10 1023) rfl rfl (one_of HT_.out (by kernel_rfl)) (by decide) (fun K hK => ?_)
        have g1_ := unhide G1
        have g2_ := (unhide FR) 1
        refine skip_ (w1 := ?w9) (wanted_none rfl) rfl ?hrun ?_
        case hrun =>
          go_simp
          rfl
        refine hK.out _ _ ?_
        clear hK K
        refine done_ (done_of HT_.out (by kernel_rfl)) ?_
        clear HT_ HW_; (try clear hHeld)
        obtain ⟨u, hu⟩ : ∃ u, u = wrap64 (k1 + 1) := ⟨_, rfl⟩
        rw [← hu]
        have hkb := tw_le (List.mem_of_getElem? (unhide HT))
        have htk := unhide HTK
        have hku : u = k1 + 1 := by rw [hu, w64 _ (by omega) (by have := unhide HTW; simp only [tw] at hkb; omega)]
        obtain ⟨h2, h3⟩ := Kd.H_seg (unhide H5) (by omega) (by have := unhide HL1; omega) (seg := [.int .i64 u]) (j := 1) (by show 1 + 1 ≤ 3; decide) (by intro q hq; rw [List.mem_singleton] at hq; subst hq; rfl)
        have h2' : Kd.H frK 144 (w2.drew.setCell ⟨g, l1 * 3 + 1, none⟩ (.int .i64 u)) base (fun k => k ≠ g0) (.slice (some ⟨g, 0, none⟩) n c0) ts (l1 : Int) oki [.int .i64 f1, .int .i64 u, v1] := h2
        have h3' : w2.drew.grownBy (w2.drew.setCell ⟨g, l1 * 3 + 1, none⟩ (.int .i64 u)) (some g) := h3
        have hM := frK_M (k := f1) (s := u) (Kd.R_grown (unhide R5) h3' (fun k hk he => ((unhide OKI) k hk).2 (by injection he)))
        have hS6 := Kd.S_mono (Kd.H_back h2' hM (fun _ hk => hk)) (ok' := fun _ => True) (fun _ _ => trivial)
        have hB6 := (unhide BD5).setCell (p := ⟨g, l1 * 3 + 1, none⟩) (unhide GB) (.int .i64 u)
        obtain ⟨us, hus⟩ : ∃ us, us = ts.set l1 (f1, u, ys1) := ⟨_, rfl⟩
        rw [show (l1 : Int).toNat = l1 from rfl, ← hus] at hS6
        have hul : us.length = n := by rw [hus, List.length_set]; exact (unhide HN).symm
        have hok6 : AllOk us := by rw [hus]; exact tkok_set (unhide HOK) (by rcases htk with h | h; exact .inl ⟨h.1, h.2.1, by show 0 < u; omega, h.2.2.2⟩; exact absurd h.2.1 (by show k1 ≠ 0; omega)) l1
        have htw6 : tws us ≤ tws ts + 1 := by rw [hus]; exact tws_set ts (f1, k1, ys1) (f1, u, ys1) (by show u.toNat + ys1.length ≤ k1.toNat + ys1.length + 1; omega) l1 (unhide HT)
        rw [show w2.drew.setCell ⟨g, l1 * 3 + 1, none⟩ (.int .i64 u) = (w2.setCell ⟨g, l1 * 3 + 1, none⟩ (.int .i64 u)).drew from rfl] at hS6 hB6
        generalize (w2.setCell ⟨g, l1 * 3 + 1, none⟩ (.int .i64 u)).drew = w6 at hS6 hB6 ⊢
        rw [← hul] at hS6
        have HS6 := hide hS6
        have HB6 := hide hB6
        have HO6 := hide hok6
        have HW6 := hide htw6
        have HUL := hide hul.symm
        clear hS6 hB6 hok6 htw6 h2 h3 h2' h3' hM hkb htk hku hu hul hus
        go_wp2
        refine bodyPost_ret (v := .slice (some ⟨g, 0, none⟩) n c0) (by simp [results, Tryd.results66, go_sem]) rfl ⟨some ⟨g, 0, none⟩, c0, us, by rw [unhide HUL], unhide HS6, unhide HO6, unhide HW6, unhide HB6⟩
      · have hj1 : (q == (i : Int)) = false := by simpa using hj
        have hj2 : decide (q = (i : Int)) = false := decide_eq_false hj
        clear hq
        refine start_ (n := 25) (S := fun w' => Tkb w' g0 (i : Int) 1 (.slice none 0 0) ∧ w'.cell? ⟨g, l1 * 3, none⟩ = some (.int .i64 f1) ∧ w'.cell? ⟨g, l1 * 3 + 1, none⟩ = some (.int .i64 k1)) (ds := []) (bt 25 0) (by kernel_rfl) rfl (by kernel_rfl) ⟨unhide BXD, unhide F0, unhide F1⟩ (fun hHeld => ?_)
        refine with_tabW tabT66_4 bitsT66_4 (fun HT_ HW_ => ?_)
        refine run_ [(0, 16)] ?_
        iterate 1 ((first | refine sp_ (v := ?_) (a' := ?_) HT_.out rfl rfl rfl (by kernel_rfl) (fun _ _ _ h => h) ?_ ?_ ?_ | refine sg_ (v := ?_) (a' := ?_) HT_.out rfl rfl (by kernel_rfl) (fun _ _ _ h => h) (by rfl) ?_ ?_ ?_); rotate_left; (· intro w'; go_simp; with_reducible rfl); rotate_left; (· simp only [Act.put, List.setIfInBounds_toArray, List.set_cons_zero, List.set_cons_succ, i64_w, i32_w]; rfl))
        refine rend_ ?_
        refine take_ (i := 1) (N := some 17) (v := ?_) (a' := ?_) (bt 25 3) rfl rfl (take_ofW HT_.out HW_.out (by kernel_rfl)) (fun _ _ _ h => h) (Or.inl ⟨by rfl, ?_⟩) hHeld ?_ ?_
        rotate_left
        · rintro w' ⟨h1_, h2_, h3_⟩
          obtain ⟨⟨_, _, _⟩, _, _⟩ := h1_.cells
          go_simp
          with_reducible rfl
        rotate_left
        · simp only [Act.put, List.setIfInBounds_toArray, List.set_cons_zero, List.set_cons_succ, i64_w, i32_w]
          rfl
        refine run_ [(2, 18), (3, 19), (4, 20), (5, 21), (6, 22)] ?_
        iterate 5 ((first | refine sp_ (v := ?_) (a' := ?_) HT_.out rfl rfl rfl (by kernel_rfl) (fun _ _ _ h => h) ?_ ?_ ?_ | refine sg_ (v := ?_) (a' := ?_) HT_.out rfl rfl (by kernel_rfl) (fun _ _ _ h => h) (by rfl) ?_ ?_ ?_); rotate_left; (· intro w'; go_simp; with_reducible rfl); rotate_left; (· simp only [Act.put, List.setIfInBounds_toArray, List.set_cons_zero, List.set_cons_succ, i64_w, i32_w]; rfl))
        refine rend_ ?_
        refine take_ (i := 7) (N := some 23) (v := ?_) (a' := ?_) (bt 25 255) rfl rfl (take_ofW HT_.out HW_.out (by kernel_rfl)) (fun _ _ _ h => h) (Or.inl ⟨by rfl, ?_⟩) hHeld ?_ ?_
        rotate_left
        · rintro w' ⟨h1_, h2_, h3_⟩
          obtain ⟨⟨_, _, _⟩, _, _⟩ := h1_.cells
          go_simp
          with_reducible rfl
        rotate_left
        · simp only [Act.put, List.setIfInBounds_toArray, List.set_cons_zero, List.set_cons_succ, i64_w, i32_w]
          rfl
        refine run_ [(8, 24), (9, 25), (10, 26), (11, 27), (12, 28), (13, 29)] ?_
        iterate 6 ((first | refine sp_ (v := ?_) (a' := ?_) HT_.out rfl rfl rfl (by kernel_rfl) (fun _ _ _ h => h) ?_ ?_ ?_ | refine sg_ (v := ?_) (a' := ?_) HT_.out rfl rfl (by kernel_rfl) (fun _ _ _ h => h) (by rfl) ?_ ?_ ?_); rotate_left; (· intro w'; go_simp; with_reducible rfl); rotate_left; (· simp only [Act.put, List.setIfInBounds_toArray, List.set_cons_zero, List.set_cons_succ, i64_w, i32_w]; rfl))
        refine rend_ ?_
        refine take_ (i := 14) (N := some 30) (v := ?_) (a' := ?_) (bt 25 32767) rfl rfl (take_ofW HT_.out HW_.out (by kernel_rfl)) (fun _ _ _ h => h) (Or.inl ⟨by rfl, ?_⟩) hHeld ?_ ?_
        rotate_left
        · rintro w' ⟨h1_, h2_, h3_⟩
          obtain ⟨⟨_, _, _⟩, _, _⟩ := h1_.cells
          go_simp
          with_reducible rfl
        rotate_left
        · simp only [Act.put, List.setIfInBounds_toArray, List.set_cons_zero, List.set_cons_succ, i64_w, i32_w]
          rfl
        refine run_ [(15, 31), (16, 32), (17, 33)] ?_
        iterate 3 ((first | refine sp_ (v := ?_) (a' := ?_) HT_.out rfl rfl rfl (by kernel_rfl) (fun _ _ _ h => h) ?_ ?_ ?_ | refine sg_ (v := ?_) (a' := ?_) HT_.out rfl rfl (by kernel_rfl) (fun _ _ _ h => h) (by rfl) ?_ ?_ ?_); rotate_left; (· intro w'; go_simp; with_reducible rfl); rotate_left; (· simp only [Act.put, List.setIfInBounds_toArray, List.set_cons_zero, List.set_cons_succ, i64_w, i32_w]; rfl))
        refine rend_ ?_
        refine take_ (i := 18) (N := some 34) (v := ?_) (a' := ?_) (bt 25 524287) rfl rfl (take_ofW HT_.out HW_.out (by kernel_rfl)) (fun _ _ _ h => h) (Or.inl ⟨by rfl, ?_⟩) hHeld ?_ ?_
        rotate_left
        · rintro w' ⟨h1_, h2_, h3_⟩
          obtain ⟨⟨_, _, _⟩, _, _⟩ := h1_.cells
          go_simp
          with_reducible rfl
        rotate_left
        · simp only [Act.put, List.setIfInBounds_toArray, List.set_cons_zero, List.set_cons_succ, i64_w, i32_w]
          rfl
        refine run_ [(19, 35), (20, 36)] ?_
        iterate 2 ((first | refine sp_ (v := ?_) (a' := ?_) HT_.out rfl rfl rfl (by kernel_rfl) (fun _ _ _ h => h) ?_ ?_ ?_ | refine sg_ (v := ?_) (a' := ?_) HT_.out rfl rfl (by kernel_rfl) (fun _ _ _ h => h) (by rfl) ?_ ?_ ?_); rotate_left; (· intro w'; go_simp; with_reducible rfl); rotate_left; (· simp only [Act.put, List.setIfInBounds_toArray, List.set_cons_zero, List.set_cons_succ, i64_w, i32_w]; rfl))
        refine rend_ ?_
        refine take_ (i := 21) (N := some 37) (v := ?_) (a' := ?_) (bt 25 4194303) rfl rfl (take_ofW HT_.out HW_.out (by kernel_rfl)) (fun _ _ _ h => h) (Or.inl ⟨by rfl, ?_⟩) hHeld ?_ ?_
        rotate_left
        · rintro w' ⟨h1_, h2_, h3_⟩
          obtain ⟨⟨_, _, _⟩, _, _⟩ := h1_.cells
          go_simp
          with_reducible rfl
        rotate_left
        · simp only [Act.put, List.setIfInBounds_toArray, List.set_cons_zero, List.set_cons_succ, i64_w, i32_w]
          rfl
        refine run_ [(22, 38), (23, 39), (24, 15)] ?_
        iterate 3 ((first | refine sp_ (v := ?_) (a' := ?_) HT_.out rfl rfl rfl (by kernel_rfl) (fun _ _ _ h => h) ?_ ?_ ?_ | refine sg_ (v := ?_) (a' := ?_) HT_.out rfl rfl (by kernel_rfl) (fun _ _ _ h => h) (by rfl) ?_ ?_ ?_); rotate_left; (· intro w'; go_simp; with_reducible rfl); rotate_left; (· simp only [Act.put, List.setIfInBounds_toArray, List.set_cons_zero, List.set_cons_succ, i64_w, i32_w]; rfl))
        refine rend_ ?_
        refine done_ (done_of HT_.out (by kernel_rfl)) ?_
        clear HT_ HW_ hHeld
        generalize w1.drew = w2 at BXD SD BD F0 F1 ⊢
        obtain ⟨⟨_, _, _⟩, ⟨_, _, _⟩, _⟩ := (unhide BXD).cells
        have g1_ := unhide F1
        clear hq' hj hj1 hj2 hk
        go_wp2_with fail
        refine (clone_nil _).mono ?_
        intro e w' hh
        rw [hh.1, hh.2]
        clear hh
        have bx3 : Tkb (w2.setCell ⟨g0, 2, none⟩ (.slice none 0 0)) g0 (i : Int) 1 (.slice none 0 0) := blk_put (unhide BXD) 2 _ rfl
        have sx3 := Kd.S_far (p := ⟨g0, 2, none⟩) (unhide SD) (fun _ hk => hk) (.slice none 0 0)
        have bb3 := (unhide BD).setCell (p := ⟨g0, 2, none⟩) (unhide HBS) (.slice none 0 0)
        have L3 : Hid (g0 < (w2.setCell ⟨g0, 2, none⟩ (.slice none 0 0)).heap.size) := blk_lt bx3
        obtain ⟨⟨_, _, _⟩, ⟨_, _, _⟩, _⟩ := (unhide BXD).cells
        obtain ⟨⟨_, _, _⟩, _, _⟩ := bx3.cells
        have SX3 := hide sx3
        have BB3 := hide bb3
        clear sx3 bb3 bx3
        go_wp2_with (at_builtin; refine unhide ?_)
        refine hide ?_
        refine Kd.S_append frK (w0 := w) (W := (w2.setCell ⟨g0, 2, none⟩ (.slice none 0 0))) base rfl (.tmp 76) (.tmp 78) 34 144 (.agg #[.int .i64 0, .int .i64 0, .slice none 0 0]) 40 rfl Tryd.underlying34 info144 rfl (by decide) (by decide) (.slice (some ⟨g, 0, none⟩) n c0) ts ((i : Int), 1, []) [.int .i64 (i : Int), .int .i64 1, .slice none 0 0] (fun k => k ≠ g0) (fun _ => False) rfl (by rw [size_set]; rfl) (frK_M (Kd.R_nil _ _ _ _ _)) (fun k h => h.elim) (fun k hk => by have := unhide L3; omega) (Kd.S_mono (unhide SX3) (fun k hk => ⟨hk, fun h => h⟩)) (unhide BB3) (Nat.le_trans (unhide HBS) (Nat.le_of_lt (unhide L3))) (by have := unhide HTW; have := unhide HLT; omega) ?_
        intro v5 w5 hS5 hB5 hg5 hat5
        obtain ⟨us, hus⟩ : ∃ us, us = ts ++ [((i : Int), 1, [])] := ⟨_, rfl⟩
        rw [← hus] at hS5
        obtain ⟨A5, c5, rfl⟩ := Kd.R_slice (Kd.S_R hS5)
        have HS5 := hide (Kd.S_mono hS5 (fun _ _ => trivial))
        have HB5 := hide hB5
        have HUS := hide hus
        clear hS5 hB5 hg5 hat5 hus
        go_wp2
        refine bodyPost_ret (v := .slice A5 us.length c5) (by simp [results, Tryd.results66, go_sem]) rfl ⟨A5, c5, us, rfl, unhide HS5, (by rw [unhide HUS]; exact tkok_snoc (unhide HOK) (.inl ⟨by omega, by have := unhide HI; show (i : Int) ≤ 1000; omega, by show (0 : Int) < 1; decide, rfl⟩)), (by rw [unhide HUS, tws_append]; simp [tws, tw]), unhide HB5⟩
    · have hk2 : decide (0 < k1) = false := decide_eq_false hk
      refine start_ (n := 25) (S := fun w' => Tkb w' g0 (i : Int) 1 (.slice none 0 0) ∧ w'.cell? ⟨g, l1 * 3, none⟩ = some (.int .i64 f1) ∧ w'.cell? ⟨g, l1 * 3 + 1, none⟩ = some (.int .i64 k1)) (ds := []) (bt 25 0) (by kernel_rfl) rfl (by kernel_rfl) ⟨unhide BXD, unhide F0, unhide F1⟩ (fun hHeld => ?_)
      refine with_tabW tabT66_4 bitsT66_4 (fun HT_ HW_ => ?_)
      refine run_ [(0, 16)] ?_
      iterate 1 ((first | refine sp_ (v := ?_) (a' := ?_) HT_.out rfl rfl rfl (by kernel_rfl) (fun _ _ _ h => h) ?_ ?_ ?_ | refine sg_ (v := ?_) (a' := ?_) HT_.out rfl rfl (by kernel_rfl) (fun _ _ _ h => h) (by rfl) ?_ ?_ ?_); rotate_left; (· intro w'; go_simp; with_reducible rfl); rotate_left; (· simp only [Act.put, List.setIfInBounds_toArray, List.set_cons_zero, List.set_cons_succ, i64_w, i32_w]; rfl))
      refine rend_ ?_
      refine take_ (i := 1) (N := some 17) (v := ?_) (a' := ?_) (bt 25 3) rfl rfl (take_ofW HT_.out HW_.out (by kernel_rfl)) (fun _ _ _ h => h) (Or.inl ⟨by rfl, ?_⟩) hHeld ?_ ?_
      rotate_left
      · rintro w' ⟨h1_, h2_, h3_⟩
        obtain ⟨⟨_, _, _⟩, _, _⟩ := h1_.cells
        go_simp
        with_reducible rfl
      rotate_left
      · simp only [Act.put, List.setIfInBounds_toArray, List.set_cons_zero, List.set_cons_succ, i64_w, i32_w]
        rfl
      refine run_ [(2, 18), (3, 19), (4, 20), (5, 21), (6, 22)] ?_
      iterate 5 ((first | refine sp_ (v := ?_) (a' := ?_) HT_.out rfl rfl rfl (by kernel_rfl) (fun _ _ _ h => h) ?_ ?_ ?_ | refine sg_ (v := ?_) (a' := ?_) HT_.out rfl rfl (by kernel_rfl) (fun _ _ _ h => h) (by rfl) ?_ ?_ ?_); rotate_left; (· intro w'; go_simp; with_reducible rfl); rotate_left; (· simp only [Act.put, List.setIfInBounds_toArray, List.set_cons_zero, List.set_cons_succ, i64_w, i32_w]; rfl))
      refine rend_ ?_
      refine take_ (i := 7) (N := some 23) (v := ?_) (a' := ?_) (bt 25 255) rfl rfl (take_ofW HT_.out HW_.out (by kernel_rfl)) (fun _ _ _ h => h) (Or.inl ⟨by rfl, ?_⟩) hHeld ?_ ?_
      rotate_left
      · rintro w' ⟨h1_, h2_, h3_⟩
        obtain ⟨⟨_, _, _⟩, _, _⟩ := h1_.cells
        go_simp
        with_reducible rfl
      rotate_left
      · simp only [Act.put, List.setIfInBounds_toArray, List.set_cons_zero, List.set_cons_succ, i64_w, i32_w]
        rfl
      refine run_ [(8, 24), (9, 25), (10, 26)] ?_
      iterate 3 ((first | refine sp_ (v := ?_) (a' := ?_) HT_.out rfl rfl rfl (by kernel_rfl) (fun _ _ _ h => h) ?_ ?_ ?_ | refine sg_ (v := ?_) (a' := ?_) HT_.out rfl rfl (by kernel_rfl) (fun _ _ _ h => h) (by rfl) ?_ ?_ ?_); rotate_left; (· intro w'; go_simp; with_reducible rfl); rotate_left; (· simp only [Act.put, List.setIfInBounds_toArray, List.set_cons_zero, List.set_cons_succ, i64_w, i32_w]; rfl))
      refine rend_ ?_
      refine pure_ (i := 11) (N := some 27) (v := undef) (a' := ?_) (bt 25 4095) rfl rfl (any_of HT_.out (by kernel_rfl)) (fun _ _ _ h => h) (Or.inr ⟨by rfl, rfl⟩) ?_ ?_
      rotate_left
      · simp only [Act.put, List.setIfInBounds_toArray, List.set_cons_zero, List.set_cons_succ, i64_w, i32_w]
        rfl
      refine pure_ (i := 12) (N := some 28) (v := undef) (a' := ?_) (bt 25 8191) rfl rfl (any_of HT_.out (by kernel_rfl)) (fun _ _ _ h => h) (Or.inr ⟨by rfl, rfl⟩) ?_ ?_
      rotate_left
      · simp only [Act.put, List.setIfInBounds_toArray, List.set_cons_zero, List.set_cons_succ, i64_w, i32_w]
        rfl
      refine pure_ (i := 13) (N := some 29) (v := undef) (a' := ?_) (bt 25 16383) rfl rfl (any_of HT_.out (by kernel_rfl)) (fun _ _ _ h => h) (Or.inr ⟨by rfl, rfl⟩) ?_ ?_
      rotate_left
      · simp only [Act.put, List.setIfInBounds_toArray, List.set_cons_zero, List.set_cons_succ, i64_w, i32_w]
        rfl
      refine pure_ (i := 14) (N := some 30) (v := undef) (a' := ?_) (bt 25 32767) rfl rfl (any_of HT_.out (by kernel_rfl)) (fun _ _ _ h => h) (Or.inr ⟨by rfl, rfl⟩) ?_ ?_
      rotate_left
      · simp only [Act.put, List.setIfInBounds_toArray, List.set_cons_zero, List.set_cons_succ, i64_w, i32_w]
        rfl
      refine pure_ (i := 15) (N := some 31) (v := undef) (a' := ?_) (bt 25 65535) rfl rfl (any_of HT_.out (by kernel_rfl)) (fun _ _ _ h => h) (Or.inr ⟨by rfl, rfl⟩) ?_ ?_
      rotate_left
      · simp only [Act.put, List.setIfInBounds_toArray, List.set_cons_zero, List.set_cons_succ, i64_w, i32_w]
        rfl
      refine pure_ (i := 16) (N := some 32) (v := undef) (a' := ?_) (bt 25 131071) rfl rfl (any_of HT_.out (by kernel_rfl)) (fun _ _ _ h => h) (Or.inr ⟨by rfl, rfl⟩) ?_ ?_
      rotate_left
      · simp only [Act.put, List.setIfInBounds_toArray, List.set_cons_zero, List.set_cons_succ, i64_w, i32_w]
        rfl
      refine pure_ (i := 17) (N := some 33) (v := undef) (a' := ?_) (bt 25 262143) rfl rfl (any_of HT_.out (by kernel_rfl)) (fun _ _ _ h => h) (Or.inr ⟨by rfl, rfl⟩) ?_ ?_
      rotate_left
      · simp only [Act.put, List.setIfInBounds_toArray, List.set_cons_zero, List.set_cons_succ, i64_w, i32_w]
        rfl
      refine pure_ (i := 18) (N := some 34) (v := undef) (a' := ?_) (bt 25 524287) rfl rfl (any_of HT_.out (by kernel_rfl)) (fun _ _ _ h => h) (Or.inr ⟨by rfl, rfl⟩) ?_ ?_
      rotate_left
      · simp only [Act.put, List.setIfInBounds_toArray, List.set_cons_zero, List.set_cons_succ, i64_w, i32_w]
        rfl
      refine pure_ (i := 19) (N := some 35) (v := undef) (a' := ?_) (bt 25 1048575) rfl rfl (any_of HT_.out (by kernel_rfl)) (fun _ _ _ h => h) (Or.inr ⟨by rfl, rfl⟩) ?_ ?_
      rotate_left
      · simp only [Act.put, List.setIfInBounds_toArray, List.set_cons_zero, List.set_cons_succ, i64_w, i32_w]
        rfl
      refine pure_ (i := 20) (N := some 36) (v := undef) (a' := ?_) (bt 25 2097151) rfl rfl (any_of HT_.out (by kernel_rfl)) (fun _ _ _ h => h) (Or.inr ⟨by rfl, rfl⟩) ?_ ?_
      rotate_left
      · simp only [Act.put, List.setIfInBounds_toArray, List.set_cons_zero, List.set_cons_succ, i64_w, i32_w]
        rfl
      refine pure_ (i := 21) (N := some 37) (v := undef) (a' := ?_) (bt 25 4194303) rfl rfl (any_of HT_.out (by kernel_rfl)) (fun _ _ _ h => h) (Or.inr ⟨by rfl, rfl⟩) ?_ ?_
      rotate_left
      · simp only [Act.put, List.setIfInBounds_toArray, List.set_cons_zero, List.set_cons_succ, i64_w, i32_w]
        rfl
      refine pure_ (i := 22) (N := some 38) (v := undef) (a' := ?_) (bt 25 8388607) rfl rfl (any_of HT_.out (by kernel_rfl)) (fun _ _ _ h => h) (Or.inr ⟨by rfl, rfl⟩) ?_ ?_
      rotate_left
      · simp only [Act.put, List.setIfInBounds_toArray, List.set_cons_zero, List.set_cons_succ, i64_w, i32_w]
        rfl
      refine run_ [(23, 39), (24, 15)] ?_
      iterate 2 ((first | refine sp_ (v := ?_) (a' := ?_) HT_.out rfl rfl rfl (by kernel_rfl) (fun _ _ _ h => h) ?_ ?_ ?_ | refine sg_ (v := ?_) (a' := ?_) HT_.out rfl rfl (by kernel_rfl) (fun _ _ _ h => h) (by rfl) ?_ ?_ ?_); rotate_left; (· intro w'; go_simp; with_reducible rfl); rotate_left; (· simp only [Act.put, List.setIfInBounds_toArray, List.set_cons_zero, List.set_cons_succ, i64_w, i32_w]; rfl))
      refine rend_ ?_
      refine done_ (done_of HT_.out (by kernel_rfl)) ?_
      clear HT_ HW_ hHeld
      generalize w1.drew = w2 at BXD SD BD F0 F1 ⊢
      obtain ⟨⟨_, _, _⟩, ⟨_, _, _⟩, _⟩ := (unhide BXD).cells
      have g1_ := unhide F1
      go_wp2_with fail
      refine (clone_nil _).mono ?_
      intro e w' hh
      rw [hh.1, hh.2]
      clear hh
      have bx3 : Tkb (w2.setCell ⟨g0, 2, none⟩ (.slice none 0 0)) g0 (i : Int) 1 (.slice none 0 0) := blk_put (unhide BXD) 2 _ rfl
      have sx3 := Kd.S_far (p := ⟨g0, 2, none⟩) (unhide SD) (fun _ hk => hk) (.slice none 0 0)
      have bb3 := (unhide BD).setCell (p := ⟨g0, 2, none⟩) (unhide HBS) (.slice none 0 0)
      have L3 : Hid (g0 < (w2.setCell ⟨g0, 2, none⟩ (.slice none 0 0)).heap.size) := blk_lt bx3
      obtain ⟨⟨_, _, _⟩, ⟨_, _, _⟩, _⟩ := (unhide BXD).cells
      obtain ⟨⟨_, _, _⟩, _, _⟩ := bx3.cells
      have SX3 := hide sx3
      have BB3 := hide bb3
      clear sx3 bb3 bx3
      go_wp2_with (at_builtin; refine unhide ?_)
      refine hide ?_
      refine Kd.S_append frK (w0 := w) (W := (w2.setCell ⟨g0, 2, none⟩ (.slice none 0 0))) base rfl (.tmp 76) (.tmp 78) 34 144 (.agg #[.int .i64 0, .int .i64 0, .slice none 0 0]) 40 rfl Tryd.underlying34 info144 rfl (by decide) (by decide) (.slice (some ⟨g, 0, none⟩) n c0) ts ((i : Int), 1, []) [.int .i64 (i : Int), .int .i64 1, .slice none 0 0] (fun k => k ≠ g0) (fun _ => False) rfl (by rw [size_set]; rfl) (frK_M (Kd.R_nil _ _ _ _ _)) (fun k h => h.elim) (fun k hk => by have := unhide L3; omega) (Kd.S_mono (unhide SX3) (fun k hk => ⟨hk, fun h => h⟩)) (unhide BB3) (Nat.le_trans (unhide HBS) (Nat.le_of_lt (unhide L3))) (by have := unhide HTW; have := unhide HLT; omega) ?_
      intro v5 w5 hS5 hB5 hg5 hat5
      obtain ⟨us, hus⟩ : ∃ us, us = ts ++ [((i : Int), 1, [])] := ⟨_, rfl⟩
      rw [← hus] at hS5
      obtain ⟨A5, c5, rfl⟩ := Kd.R_slice (Kd.S_R hS5)
      have HS5 := hide (Kd.S_mono hS5 (fun _ _ => trivial))
      have HB5 := hide hB5
      have HUS := hide hus
      clear hS5 hB5 hg5 hat5 hus
      go_wp2
      refine bodyPost_ret (v := .slice A5 us.length c5) (by simp [results, Tryd.results66, go_sem]) rfl ⟨A5, c5, us, rfl, unhide HS5, (by rw [unhide HUS]; exact tkok_snoc (unhide HOK) (.inl ⟨by omega, by have := unhide HI; show (i : Int) ≤ 1000; omega, by show (0 : Int) < 1; decide, rfl⟩)), (by rw [unhide HUS, tws_append]; simp [tws, tw]), unhide HB5⟩
end Go.Proofs.YtgoephcembgmcaaDoor.Tk
namespace Go.Proofs.YtgoephcembgmcaaDoor.Tk
open Go.RowKit Go.Proofs.YtgoephcembgmcaaDoorW.PrintWords Go.Proofs.YtgoephcembgmcaaDoorW.PrintLast Wk FrM Fr Bl Rg
open WkM (w64 Bytes)

set_option maxHeartbeats 4000000 in
set_option maxRecDepth 100000 in
theorem add_byte (base : Nat) (x : Int) (ad : Addr) (c : Nat) (v : Value) (ts : List (Int × Int × List Int)) (w : World) (hS : Kd.S frK 144 w base (fun _ => True) v ts) (hok : AllOk ts) (hr : ∀ w1, Below base w w1 → Kd.C (Kd.int .u8) w1 (some ad) 1 [x]) (hbase : base ≤ w.heap.size) (htw : tws ts ≤ 600) :
    Calls Tryd.prog 66 #[v, .agg #[.int .i64 0, .int .i64 0, .slice (some ad) 1 c]] w fun e w' => ∃ (A1 : Option Addr) (c1 : Nat) (us : List (Int × Int × List Int)), e = .returned (.slice A1 us.length c1) ∧ Kd.S frK 144 w' base (fun _ => True) (.slice A1 us.length c1) us ∧ AllOk us ∧ tws us ≤ tws ts + 1 ∧ Below base w w' := by
  obtain ⟨A0, c0, rfl⟩ := Kd.R_slice (Kd.S_R hS)
  obtain ⟨n, hn⟩ : ∃ n, n = ts.length := ⟨_, rfl⟩
  obtain ⟨g0, hg0⟩ : ∃ g0, g0 = w.heap.size := ⟨_, rfl⟩
  have hlt := len_tws hok
  have bx : Tkb (w.alloc (.cells #[.int .i64 0, .int .i64 0, .slice (some ad) 1 c] 144)) g0 0 0 (.slice (some ad) 1 c) := by rw [hg0]; exact blk_new _ _
  have sx : Kd.S frK 144 (w.alloc (.cells #[.int .i64 0, .int .i64 0, .slice (some ad) 1 c] 144)) base (fun k => k ≠ g0) (.slice A0 ts.length c0) ts := by
    rw [hg0]
    exact Kd.S_alloc (Kd.S_mono (Kd.S_bound hS) (fun k hk => Nat.ne_of_lt hk.2.2.1)) _
  have bb : Below base w (w.alloc (.cells #[.int .i64 0, .int .i64 0, .slice (some ad) 1 c] 144)) := (below_alloc (Below.refl w.heap.size w) _).mono hbase
  have HRR := hide hr
  clear hr
  have HBS : Hid (base ≤ g0) := by show _ ≤ _; omega
  rw [← hn] at sx ⊢
  have BX := hide bx
  have SX := hide sx
  have BB := hide bb
  clear bx sx bb
  have HOK := hide hok
  have HTW := hide htw
  have HLT := hide hlt
  have HG0 := hide hg0
  clear hS hok htw hlt hbase hg0
  have hn600 : n ≤ 600 := by have := unhide HTW; have := unhide HLT; omega
  have HN := hide hn
  clear hn
  by_cases h0 : n = 0
  · subst h0
    go_enter Tryd.func66, Tryd.ntmps66
    go_wp2_with fail
    try rw [← unhide HG0]
    generalize w.alloc (.cells #[.int .i64 0, .int .i64 0, .slice (some ad) 1 c] 144) = w1 at BX SX BB ⊢
    have HW := hide (Nat.le_trans (unhide HBS) (Nat.le_of_lt (blk_lt (unhide BX))))
    refine (clone_one ad c x w1 ((unhide HRR) _ (unhide BB))).mono ?_
    rintro e w4 ⟨A4, c4, rfl, hO4, hb4⟩
    have bx4 : Tkb w4 g0 0 0 (.slice (some ad) 1 c) := blk_below (unhide BX) hb4
    have sx4 := Kd.S_old (unhide SX) hb4
    have bb4 := (unhide BB).trans (hb4.mono (unhide HW))
    have bx3 : Tkb (w4.setCell ⟨g0, 2, none⟩ (.slice A4 1 c4)) g0 0 0 (.slice A4 1 c4) := blk_put bx4 2 _ rfl
    have sx3 := Kd.S_far (p := ⟨g0, 2, none⟩) sx4 (fun _ hk => hk.1) (.slice A4 1 c4)
    have bb3 := bb4.setCell (p := ⟨g0, 2, none⟩) (unhide HBS) (.slice A4 1 c4)
    have o3 := Kd.R_set hO4 bx4 own5_144 2 (.slice A4 1 c4)
    have O3 : Hid ((Kd.int .u8).R 5 (w4.setCell ⟨g0, 2, none⟩ (.slice A4 1 c4)) base (fun k => w1.heap.size ≤ k) (.slice A4 1 c4) [x]) := Kd.R_lower (Kd.R_mono (Kd.R_bound o3) (fun k hk => hk.2.1)) (unhide HW)
    have VL : Hid (∀ k, (Value.slice A0 0 c0).ownBlock = some k → k < w1.heap.size) := Kd.S_lt (unhide SX)
    have L3 : Hid (g0 < w1.heap.size) := blk_lt (unhide BX)
    have L4 : Hid (w1.heap.size ≤ (w4.setCell ⟨g0, 2, none⟩ (.slice A4 1 c4)).heap.size) := by have := hb4.size; show _ ≤ _; simpa using this
    obtain ⟨⟨_, _, _⟩, ⟨_, _, _⟩, _⟩ := bx4.cells
    obtain ⟨⟨_, _, _⟩, _, _⟩ := bx3.cells
    have SX3 := hide sx3
    have BB3 := hide bb3
    clear sx3 bb3 bx3 o3 sx4 bb4 bx4 hO4 hb4
    go_wp2_with (at_builtin; refine unhide ?_)
    refine hide ?_
    refine Kd.S_append frK (w0 := w) (W := (w4.setCell ⟨g0, 2, none⟩ (.slice A4 1 c4))) base rfl (.tmp 76) (.tmp 78) 34 144 (.agg #[.int .i64 0, .int .i64 0, .slice none 0 0]) 40 rfl Tryd.underlying34 info144 rfl (by decide) (by decide) (.slice A0 0 c0) ts (0, 0, [x]) [.int .i64 0, .int .i64 0, .slice A4 1 c4] (fun k => k ≠ g0) (fun k => w1.heap.size ≤ k) rfl (by rw [size_set]; rfl) (frK_M (unhide O3)) (fun k h => ⟨by have := unhide L3; omega, fun he => by have := (unhide VL) k he.symm; omega⟩) (fun k hk => by have := unhide L3; have := unhide L4; omega) (Kd.S_mono (unhide SX3) (fun k hk => ⟨hk.1, by omega⟩)) (unhide BB3) (Nat.le_trans (unhide HW) (unhide L4)) (by have := unhide HTW; have := unhide HLT; omega) ?_
    intro v5 w5 hS5 hB5 hg5 hat5
    obtain ⟨us, hus⟩ : ∃ us, us = ts ++ [((0 : Int), (0 : Int), [x])] := ⟨_, rfl⟩
    rw [← hus] at hS5
    obtain ⟨A5, c5, rfl⟩ := Kd.R_slice (Kd.S_R hS5)
    have HS5 := hide (Kd.S_mono hS5 (fun _ _ => trivial))
    have HB5 := hide hB5
    have HUS := hide hus
    clear hS5 hB5 hg5 hat5 hus
    go_wp2
    refine bodyPost_ret (v := .slice A5 us.length c5) (by simp [results, Tryd.results66, go_sem]) rfl ⟨A5, c5, us, rfl, unhide HS5, (by rw [unhide HUS]; exact tkok_snoc (unhide HOK) (.inr ⟨rfl, rfl, by simp⟩)), (by rw [unhide HUS, tws_append]; simp [tws, tw]), unhide HB5⟩

  · obtain ⟨l1, hl1⟩ : ∃ l1, n = l1 + 1 := ⟨n - 1, by omega⟩
    have h1l : l1 < ts.length := by have := unhide HN; omega
    obtain ⟨t, ht⟩ : ∃ t, ts[l1]? = some t := ⟨_, List.getElem?_eq_getElem h1l⟩
    obtain ⟨g, rfl⟩ : ∃ g, A0 = some ⟨g, 0, none⟩ := by
      have hR := Kd.S_R (unhide SX)
      obtain ⟨ad, rfl⟩ : ∃ ad, A0 = some ad := by
        obtain ⟨ad, hA, _⟩ := (Kd.R_reads' hR).2.2.2.2 (by have := unhide HN; omega)
        exact ⟨ad, hA⟩
      obtain ⟨g, rfl⟩ := Kd.R_head hR
      exact ⟨g, rfl⟩
    have htk := (unhide HOK) t (List.mem_of_getElem? ht)
    obtain ⟨f1, k1, ys1⟩ := t
    have HTK := hide htk
    have HT := hide ht
    have HL1 := hide hl1
    have e1 : wrap64 ((n : Int) - 1) = (l1 : Int) := by rw [w64 _ (by omega) (by omega)]; omega
    have d1 : ¬ (l1 : Int) < 0 := by omega
    have d2 : (l1 : Int) < (n : Int) := by omega
    have HN6 := hide hn600
    clear h0 hl1 h1l ht htk hn600
    go_enter Tryd.func66, Tryd.ntmps66
    go_wp2
    try rw [← unhide HG0]
    generalize w.alloc (.cells #[.int .i64 0, .int .i64 0, .slice (some ad) 1 c] 144) = w1 at BX SX BB ⊢
    have BXD : Hid (Tkb w1.drew g0 0 0 (.slice (some ad) 1 c)) := unhide BX
    have SD := hide (Kd.S_drew (unhide SX))
    have BD := hide (below_drew (unhide BB))
    clear BX SX BB
    obtain ⟨oki, v1, -, ⟨f0, f1_, -⟩, -, -, -⟩ := last_lent (unhide SD) (unhide HL1) (unhide HT)
    have F0 : Hid (w1.drew.cell? ⟨g, l1 * 3, none⟩ = some (.int .i64 f1)) := f0
    have F1 : Hid (w1.drew.cell? ⟨g, l1 * 3 + 1, none⟩ = some (.int .i64 k1)) := f1_
    clear f0 f1_
    refine start_ (n := 25) (S := fun w' => Tkb w' g0 0 0 (.slice (some ad) 1 c) ∧ w'.cell? ⟨g, l1 * 3, none⟩ = some (.int .i64 f1) ∧ w'.cell? ⟨g, l1 * 3 + 1, none⟩ = some (.int .i64 k1)) (ds := []) (bt 25 0) (by kernel_rfl) rfl (by kernel_rfl) ⟨unhide BXD, unhide F0, unhide F1⟩ (fun hHeld => ?_)
    refine with_tabW tabT66_4 bitsT66_4 (fun HT_ HW_ => ?_)
    refine run_ [(0, 16)] ?_
    iterate 1 ((first | refine sp_ (v := ?_) (a' := ?_) HT_.out rfl rfl rfl (by kernel_rfl) (fun _ _ _ h => h) ?_ ?_ ?_ | refine sg_ (v := ?_) (a' := ?_) HT_.out rfl rfl (by kernel_rfl) (fun _ _ _ h => h) (by rfl) ?_ ?_ ?_); rotate_left; (· intro w'; go_simp; with_reducible rfl); rotate_left; (· simp only [Act.put, List.setIfInBounds_toArray, List.set_cons_zero, List.set_cons_succ, i64_w, i32_w]; rfl))
    refine rend_ ?_
    refine take_ (i := 1) (N := some 17) (v := ?_) (a' := ?_) (bt 25 3) rfl rfl (take_ofW HT_.out HW_.out (by kernel_rfl)) (fun _ _ _ h => h) (Or.inl ⟨by rfl, ?_⟩) hHeld ?_ ?_
    rotate_left
    · rintro w' ⟨h1_, h2_, h3_⟩
      obtain ⟨⟨_, _, _⟩, _, _⟩ := h1_.cells
      go_simp
      with_reducible rfl
    rotate_left
    · simp only [Act.put, List.setIfInBounds_toArray, List.set_cons_zero, List.set_cons_succ, i64_w, i32_w]
      rfl
    refine run_ [(2, 18), (3, 19)] ?_
    iterate 2 ((first | refine sp_ (v := ?_) (a' := ?_) HT_.out rfl rfl rfl (by kernel_rfl) (fun _ _ _ h => h) ?_ ?_ ?_ | refine sg_ (v := ?_) (a' := ?_) HT_.out rfl rfl (by kernel_rfl) (fun _ _ _ h => h) (by rfl) ?_ ?_ ?_); rotate_left; (· intro w'; go_simp; with_reducible rfl); rotate_left; (· simp only [Act.put, List.setIfInBounds_toArray, List.set_cons_zero, List.set_cons_succ, i64_w, i32_w]; rfl))
    refine rend_ ?_
    refine pure_ (i := 4) (N := some 20) (v := undef) (a' := ?_) (bt 25 31) rfl rfl (any_of HT_.out (by kernel_rfl)) (fun _ _ _ h => h) (Or.inr ⟨by rfl, rfl⟩) ?_ ?_
    rotate_left
    · simp only [Act.put, List.setIfInBounds_toArray, List.set_cons_zero, List.set_cons_succ, i64_w, i32_w]
      rfl
    refine pure_ (i := 5) (N := some 21) (v := undef) (a' := ?_) (bt 25 63) rfl rfl (any_of HT_.out (by kernel_rfl)) (fun _ _ _ h => h) (Or.inr ⟨by rfl, rfl⟩) ?_ ?_
    rotate_left
    · simp only [Act.put, List.setIfInBounds_toArray, List.set_cons_zero, List.set_cons_succ, i64_w, i32_w]
      rfl
    refine pure_ (i := 6) (N := some 22) (v := undef) (a' := ?_) (bt 25 127) rfl rfl (any_of HT_.out (by kernel_rfl)) (fun _ _ _ h => h) (Or.inr ⟨by rfl, rfl⟩) ?_ ?_
    rotate_left
    · simp only [Act.put, List.setIfInBounds_toArray, List.set_cons_zero, List.set_cons_succ, i64_w, i32_w]
      rfl
    refine pure_ (i := 7) (N := some 23) (v := undef) (a' := ?_) (bt 25 255) rfl rfl (any_of HT_.out (by kernel_rfl)) (fun _ _ _ h => h) (Or.inr ⟨by rfl, rfl⟩) ?_ ?_
    rotate_left
    · simp only [Act.put, List.setIfInBounds_toArray, List.set_cons_zero, List.set_cons_succ, i64_w, i32_w]
      rfl
    refine pure_ (i := 8) (N := some 24) (v := undef) (a' := ?_) (bt 25 511) rfl rfl (any_of HT_.out (by kernel_rfl)) (fun _ _ _ h => h) (Or.inr ⟨by rfl, rfl⟩) ?_ ?_
    rotate_left
    · simp only [Act.put, List.setIfInBounds_toArray, List.set_cons_zero, List.set_cons_succ, i64_w, i32_w]
      rfl
    refine run_ [(9, 25), (10, 26)] ?_
    iterate 2 ((first | refine sp_ (v := ?_) (a' := ?_) HT_.out rfl rfl rfl (by kernel_rfl) (fun _ _ _ h => h) ?_ ?_ ?_ | refine sg_ (v := ?_) (a' := ?_) HT_.out rfl rfl (by kernel_rfl) (fun _ _ _ h => h) (by rfl) ?_ ?_ ?_); rotate_left; (· intro w'; go_simp; with_reducible rfl); rotate_left; (· simp only [Act.put, List.setIfInBounds_toArray, List.set_cons_zero, List.set_cons_succ, i64_w, i32_w]; rfl))
    refine rend_ ?_
    refine pure_ (i := 11) (N := some 27) (v := undef) (a' := ?_) (bt 25 4095) rfl rfl (any_of HT_.out (by kernel_rfl)) (fun _ _ _ h => h) (Or.inr ⟨by rfl, rfl⟩) ?_ ?_
    rotate_left
    · simp only [Act.put, List.setIfInBounds_toArray, List.set_cons_zero, List.set_cons_succ, i64_w, i32_w]
      rfl
    refine pure_ (i := 12) (N := some 28) (v := undef) (a' := ?_) (bt 25 8191) rfl rfl (any_of HT_.out (by kernel_rfl)) (fun _ _ _ h => h) (Or.inr ⟨by rfl, rfl⟩) ?_ ?_
    rotate_left
    · simp only [Act.put, List.setIfInBounds_toArray, List.set_cons_zero, List.set_cons_succ, i64_w, i32_w]
      rfl
    refine pure_ (i := 13) (N := some 29) (v := undef) (a' := ?_) (bt 25 16383) rfl rfl (any_of HT_.out (by kernel_rfl)) (fun _ _ _ h => h) (Or.inr ⟨by rfl, rfl⟩) ?_ ?_
    rotate_left
    · simp only [Act.put, List.setIfInBounds_toArray, List.set_cons_zero, List.set_cons_succ, i64_w, i32_w]
      rfl
    refine pure_ (i := 14) (N := some 30) (v := undef) (a' := ?_) (bt 25 32767) rfl rfl (any_of HT_.out (by kernel_rfl)) (fun _ _ _ h => h) (Or.inr ⟨by rfl, rfl⟩) ?_ ?_
    rotate_left
    · simp only [Act.put, List.setIfInBounds_toArray, List.set_cons_zero, List.set_cons_succ, i64_w, i32_w]
      rfl
    refine pure_ (i := 15) (N := some 31) (v := undef) (a' := ?_) (bt 25 65535) rfl rfl (any_of HT_.out (by kernel_rfl)) (fun _ _ _ h => h) (Or.inr ⟨by rfl, rfl⟩) ?_ ?_
    rotate_left
    · simp only [Act.put, List.setIfInBounds_toArray, List.set_cons_zero, List.set_cons_succ, i64_w, i32_w]
      rfl
    refine pure_ (i := 16) (N := some 32) (v := undef) (a' := ?_) (bt 25 131071) rfl rfl (any_of HT_.out (by kernel_rfl)) (fun _ _ _ h => h) (Or.inr ⟨by rfl, rfl⟩) ?_ ?_
    rotate_left
    · simp only [Act.put, List.setIfInBounds_toArray, List.set_cons_zero, List.set_cons_succ, i64_w, i32_w]
      rfl
    refine pure_ (i := 17) (N := some 33) (v := undef) (a' := ?_) (bt 25 262143) rfl rfl (any_of HT_.out (by kernel_rfl)) (fun _ _ _ h => h) (Or.inr ⟨by rfl, rfl⟩) ?_ ?_
    rotate_left
    · simp only [Act.put, List.setIfInBounds_toArray, List.set_cons_zero, List.set_cons_succ, i64_w, i32_w]
      rfl
    refine pure_ (i := 18) (N := some 34) (v := undef) (a' := ?_) (bt 25 524287) rfl rfl (any_of HT_.out (by kernel_rfl)) (fun _ _ _ h => h) (Or.inr ⟨by rfl, rfl⟩) ?_ ?_
    rotate_left
    · simp only [Act.put, List.setIfInBounds_toArray, List.set_cons_zero, List.set_cons_succ, i64_w, i32_w]
      rfl
    refine pure_ (i := 19) (N := some 35) (v := undef) (a' := ?_) (bt 25 1048575) rfl rfl (any_of HT_.out (by kernel_rfl)) (fun _ _ _ h => h) (Or.inr ⟨by rfl, rfl⟩) ?_ ?_
    rotate_left
    · simp only [Act.put, List.setIfInBounds_toArray, List.set_cons_zero, List.set_cons_succ, i64_w, i32_w]
      rfl
    refine pure_ (i := 20) (N := some 36) (v := undef) (a' := ?_) (bt 25 2097151) rfl rfl (any_of HT_.out (by kernel_rfl)) (fun _ _ _ h => h) (Or.inr ⟨by rfl, rfl⟩) ?_ ?_
    rotate_left
    · simp only [Act.put, List.setIfInBounds_toArray, List.set_cons_zero, List.set_cons_succ, i64_w, i32_w]
      rfl
    refine pure_ (i := 21) (N := some 37) (v := undef) (a' := ?_) (bt 25 4194303) rfl rfl (any_of HT_.out (by kernel_rfl)) (fun _ _ _ h => h) (Or.inr ⟨by rfl, rfl⟩) ?_ ?_
    rotate_left
    · simp only [Act.put, List.setIfInBounds_toArray, List.set_cons_zero, List.set_cons_succ, i64_w, i32_w]
      rfl
    refine pure_ (i := 22) (N := some 38) (v := undef) (a' := ?_) (bt 25 8388607) rfl rfl (any_of HT_.out (by kernel_rfl)) (fun _ _ _ h => h) (Or.inr ⟨by rfl, rfl⟩) ?_ ?_
    rotate_left
    · simp only [Act.put, List.setIfInBounds_toArray, List.set_cons_zero, List.set_cons_succ, i64_w, i32_w]
      rfl
    refine run_ [(23, 39), (24, 15)] ?_
    iterate 2 ((first | refine sp_ (v := ?_) (a' := ?_) HT_.out rfl rfl rfl (by kernel_rfl) (fun _ _ _ h => h) ?_ ?_ ?_ | refine sg_ (v := ?_) (a' := ?_) HT_.out rfl rfl (by kernel_rfl) (fun _ _ _ h => h) (by rfl) ?_ ?_ ?_); rotate_left; (· intro w'; go_simp; with_reducible rfl); rotate_left; (· simp only [Act.put, List.setIfInBounds_toArray, List.set_cons_zero, List.set_cons_succ, i64_w, i32_w]; rfl))
    refine rend_ ?_
    refine done_ (done_of HT_.out (by kernel_rfl)) ?_
    clear HT_ HW_ hHeld
    generalize w1.drew = w2 at BXD SD BD F0 F1 ⊢
    obtain ⟨⟨_, _, _⟩, ⟨_, _, _⟩, _⟩ := (unhide BXD).cells
    have g1_ := unhide F1
    by_cases hk : k1 = 0
    · subst hk
      go_wp2
      have BX5 : Hid (Tkb w2.drew g0 0 0 (.slice (some ad) 1 c)) := unhide BXD
      have BD5 := hide (below_drew (unhide BD))
      obtain ⟨oki, v1, hR1, ⟨f0, f1_, f2_⟩, hfr, hoki, hH⟩ := last_lent (Kd.S_drew (unhide SD)) (unhide HL1) (unhide HT)
      have GB : Hid (base ≤ g) := Kd.S_base (unhide SD) g rfl
      have G1 : Hid (w2.drew.cell? ⟨g, l1 * 3 + 1, none⟩ = some (.int .i64 0)) := f1_
      have G2 : Hid (w2.drew.cell? ⟨g, l1 * 3 + 2, none⟩ = some v1) := f2_
      have H5 := hide hH
      have R5 := hide hR1
      have FR := hide hfr
      have OKI := hide hoki
      clear f0 f1_ f2_ hH hR1 hfr hoki BXD SD BD F0 F1 g1_
      have C5 : Hid (Kd.C (Kd.int .u8) w2.drew (some ad) 1 [x]) := (unhide HRR) _ (unhide BD5)
      have GL : Hid (g < w2.drew.heap.size) := Kd.R_lt (Kd.S_R (Kd.H_back (unhide H5) (frK_M (unhide R5)) (fun _ hk => hk))) g rfl
      have VG : Hid (some g ≠ v1.ownBlock) := fun he => ((unhide OKI) g ((unhide R5).1 g he.symm)).2 rfl
      have VG0 : Hid (some g0 ≠ v1.ownBlock) := fun he => ((unhide OKI) g0 ((unhide R5).1 g0 he.symm)).1 rfl
      have BDS := hide (Nat.le_trans (unhide HBS) (Nat.le_of_lt (unhide BX5).cells.2.2))
      have YL : Hid ((ys1.length + 1) * 1 ≤ 140737488355328) := by have h := tw_le (List.mem_of_getElem? (unhide HT)); simp only [tw] at h; have := unhide HTW; show _ ≤ _; omega
      refine start_ (n := 11) (S := fun w' => Tkb w' g0 0 0 (.slice (some ad) 1 c) ∧ w'.cell? ⟨g, l1 * 3 + 2, none⟩ = some v1) (ds := [10]) (bt 11 0) (by kernel_rfl) rfl (by kernel_rfl) ⟨unhide BX5, unhide G2⟩ (fun hHeld => ?_)
      refine with_tabW tabT66_8 bitsT66_8 (fun HT_ HW_ => ?_)
      refine run_ [(0, 61), (1, 62), (2, 63), (3, 64)] ?_
      iterate 4 ((first | refine sp_ (v := ?_) (a' := ?_) HT_.out rfl rfl rfl (by kernel_rfl) (fun _ _ _ h => h) ?_ ?_ ?_ | refine sg_ (v := ?_) (a' := ?_) HT_.out rfl rfl (by kernel_rfl) (fun _ _ _ h => h) (by rfl) ?_ ?_ ?_); rotate_left; (· intro w'; go_simp; with_reducible rfl); rotate_left; (· simp only [Act.put, List.setIfInBounds_toArray, List.set_cons_zero, List.set_cons_succ, i64_w, i32_w]; rfl))
      refine rend_ ?_
      refine take_ (i := 4) (N := some 65) (v := ?_) (a' := ?_) (bt 11 31) rfl rfl (take_ofW HT_.out HW_.out (by kernel_rfl)) (fun _ _ _ h => h) (Or.inl ⟨by rfl, ?_⟩) hHeld ?_ ?_
      rotate_left
      · rintro w' ⟨h1_, h2_⟩
        obtain ⟨⟨_, _, _⟩, _, _⟩ := h1_.cells
        go_simp
        with_reducible rfl
      rotate_left
      · simp only [Act.put, List.setIfInBounds_toArray, List.set_cons_zero, List.set_cons_succ, i64_w, i32_w]
        rfl
      refine run_ [(5, 66)] ?_
      iterate 1 ((first | refine sp_ (v := ?_) (a' := ?_) HT_.out rfl rfl rfl (by kernel_rfl) (fun _ _ _ h => h) ?_ ?_ ?_ | refine sg_ (v := ?_) (a' := ?_) HT_.out rfl rfl (by kernel_rfl) (fun _ _ _ h => h) (by rfl) ?_ ?_ ?_); rotate_left; (· intro w'; go_simp; with_reducible rfl); rotate_left; (· simp only [Act.put, List.setIfInBounds_toArray, List.set_cons_zero, List.set_cons_succ, i64_w, i32_w]; rfl))
      refine rend_ ?_
      refine take_ (i := 6) (N := some 67) (v := ?_) (a' := ?_) (bt 11 127) rfl rfl (take_ofW HT_.out HW_.out (by kernel_rfl)) (fun _ _ _ h => h) (Or.inl ⟨by rfl, ?_⟩) hHeld ?_ ?_
      rotate_left
      · rintro w' ⟨h1_, h2_⟩
        obtain ⟨⟨_, _, _⟩, _, _⟩ := h1_.cells
        go_simp
        with_reducible rfl
      rotate_left
      · simp only [Act.put, List.setIfInBounds_toArray, List.set_cons_zero, List.set_cons_succ, i64_w, i32_w]
        rfl
      refine one_ (i := 7) (N := some 68) (bt 11 255) rfl rfl (one_of HT_.out (by kernel_rfl)) (by decide) (fun K hK => ?_)
      refine Kd.R_append_rows_step (Kd.int .u8) (Rr := (Kd.int .u8).K w2.drew) (w0 := w) base (wanted_none rfl) (.tmp 65) (.tmp 67) 22 5 (.int .u8 0) 1 rfl Tryd.underlying22 info5 rfl (by decide) (by decide) v1 ys1 [x] (some ad) 1 c (fun k => oki k ∨ (k ≠ g0 ∧ w2.drew.heap.size ≤ k)) (fun _ => False) rfl rfl (Kd.R_mono (unhide R5) (fun k hk => .inl hk)) (unhide C5) (fun x cs h => h) (fun k h => h.elim) (fun k hk => .inr ⟨by have := (unhide BX5).cells.2.2; omega, hk⟩) (unhide BD5) (unhide BDS) (unhide YL) ?_
      intro v5 w5 hR5 hB5 hg5 hat5
      obtain ⟨zs, hzs⟩ : ∃ zs, zs = ys1 ++ [x] := ⟨_, rfl⟩
      rw [← hzs] at hR5
      have HZS := hide hzs
      clear hzs
      have X5 : Hid (Tkb w5 g0 0 0 (.slice (some ad) 1 c)) := blk_grown (unhide BX5) hg5 (unhide VG0)
      have H6 := hide (Kd.H_grown (Kd.H_widen (unhide H5)) hg5 (fun k hk => .inl ((unhide R5).1 k hk)))
      have J2 : Hid (w5.cell? ⟨g, l1 * 3 + 2, none⟩ = some v1) := (pw_cell_grown hg5 (unhide GL) (unhide VG) (unhide G2))
      have JF : Hid (w5.frozen? ⟨g, l1 * 3 + 2, none⟩ = false) := (frozen_grown hg5 (unhide GL) (unhide VG) _).trans ((unhide FR) 2)
      have R6 := hide hR5
      have B6 := hide hB5
      clear hR5 hB5 hg5 hat5
      clear hHeld
      refine hK.out _ _ ⟨unhide X5, unhide J2⟩ (fun hHeld => ?_)
      clear hK K
      refine norm_ (a' := ?_) ?_ ?_
      rotate_left
      · show Act.put _ (some 68) _ = _
        simp only [Act.put, List.setIfInBounds_toArray, List.set_cons_zero, List.set_cons_succ, i64_w, i32_w]
        rfl
      refine run_ [(8, 69), (9, 70)] ?_
      iterate 2 ((first | refine sp_ (v := ?_) (a' := ?_) HT_.out rfl rfl rfl (by kernel_rfl) (fun _ _ _ h => h) ?_ ?_ ?_ | refine sg_ (v := ?_) (a' := ?_) HT_.out rfl rfl (by kernel_rfl) (fun _ _ _ h => h) (by rfl) ?_ ?_ ?_); rotate_left; (· intro w'; go_simp; with_reducible rfl); rotate_left; (· simp only [Act.put, List.setIfInBounds_toArray, List.set_cons_zero, List.set_cons_succ, i64_w, i32_w]; rfl))
      refine rend_ ?_
      refine last_ (i := 10) (N := none) (bt 11 2047) rfl rfl (one_of HT_.out (by kernel_rfl)) (by decide) (fun K hK => ?_)
      have g1_ := unhide J2
      have g2_ := unhide JF
      obtain ⟨A5, c5, rfl⟩ := Kd.R_slice (unhide R6)
      refine skip_ (w1 := ?w9) (wanted_none rfl) rfl ?hrun ?_
      case hrun =>
        go_simp
        rfl
      refine hK.out _ _ ?_
      clear hK K
      refine done_ (done_of HT_.out (by kernel_rfl)) ?_
      clear HT_ HW_; (try clear hHeld)
      have hzs := unhide HZS
      have htk := unhide HTK
      obtain ⟨h2, h3⟩ := Kd.H_seg (unhide H6) (by omega) (by have := unhide HL1; omega) (seg := [.slice A5 zs.length c5]) (j := 2) (by show 2 + 1 ≤ 3; decide) (by intro q hq; rw [List.mem_singleton] at hq; subst hq; rfl)
      have h2' : Kd.H frK 144 (w5.setCell ⟨g, l1 * 3 + 2, none⟩ (.slice A5 zs.length c5)) base (fun k => k ≠ g0) (.slice (some ⟨g, 0, none⟩) n c0) ts (l1 : Int) (fun k => oki k ∨ (k ≠ g0 ∧ w2.drew.heap.size ≤ k)) [.int .i64 f1, .int .i64 0, .slice A5 zs.length c5] := h2
      have h3' : w5.grownBy (w5.setCell ⟨g, l1 * 3 + 2, none⟩ (.slice A5 zs.length c5)) (some g) := h3
      have hM := frK_M (k := f1) (s := 0) (Kd.R_grown (unhide R6) h3' (fun k hk he => by injection he with he; subst he; rcases hk with hk | hk; exact ((unhide OKI) _ hk).2 rfl; have := unhide GL; omega))
      have hS6 := Kd.S_mono (Kd.H_back h2' hM (fun _ hk => hk)) (ok' := fun _ => True) (fun _ _ => trivial)
      have hB6 := (unhide B6).setCell (p := ⟨g, l1 * 3 + 2, none⟩) (unhide GB) (.slice A5 zs.length c5)
      obtain ⟨us, hus⟩ : ∃ us, us = ts.set l1 (f1, 0, zs) := ⟨_, rfl⟩
      rw [show (l1 : Int).toNat = l1 from rfl, ← hus] at hS6
      have hul : us.length = n := by rw [hus, List.length_set]; exact (unhide HN).symm
      have hok6 : AllOk us := by rw [hus]; exact tkok_set (unhide HOK) (by rcases htk with h | h; exact absurd h.2.2.1 (by show ¬ (0 : Int) < 0; decide); exact .inr ⟨h.1, rfl, by rw [hzs]; simp⟩) l1
      have htw6 : tws us ≤ tws ts + 1 := by rw [hus]; exact tws_set ts (f1, 0, ys1) (f1, 0, zs) (by rw [hzs]; simp [tw]) l1 (unhide HT)
      generalize w5.setCell ⟨g, l1 * 3 + 2, none⟩ (.slice A5 zs.length c5) = w6 at hS6 hB6 ⊢
      rw [← hul] at hS6
      have HS6 := hide hS6
      have HB6 := hide hB6
      have HO6 := hide hok6
      have HW6 := hide htw6
      have HUL := hide hul.symm
      clear hS6 hB6 hok6 htw6 h2 h3 h2' h3' hM htk hul hus
      go_wp2
      refine bodyPost_ret (v := .slice (some ⟨g, 0, none⟩) n c0) (by simp [results, Tryd.results66, go_sem]) rfl ⟨some ⟨g, 0, none⟩, c0, us, by rw [unhide HUL], unhide HS6, unhide HO6, unhide HW6, unhide HB6⟩
    · have hk1 : (k1 == 0) = false := by simpa using hk
      have hk2 : decide (k1 = 0) = false := decide_eq_false hk
      go_wp2_with fail
      have HW := hide (Nat.le_trans (unhide HBS) (Nat.le_of_lt (blk_lt (unhide BXD))))
      refine (clone_one ad c x w2 ((unhide HRR) _ (unhide BD))).mono ?_
      rintro e w4 ⟨A4, c4, rfl, hO4, hb4⟩
      have bx4 : Tkb w4 g0 0 0 (.slice (some ad) 1 c) := blk_below (unhide BXD) hb4
      have sx4 := Kd.S_old (unhide SD) hb4
      have bb4 := (unhide BD).trans (hb4.mono (unhide HW))
      have bx3 : Tkb (w4.setCell ⟨g0, 2, none⟩ (.slice A4 1 c4)) g0 0 0 (.slice A4 1 c4) := blk_put bx4 2 _ rfl
      have sx3 := Kd.S_far (p := ⟨g0, 2, none⟩) sx4 (fun _ hk => hk.1) (.slice A4 1 c4)
      have bb3 := bb4.setCell (p := ⟨g0, 2, none⟩) (unhide HBS) (.slice A4 1 c4)
      have o3 := Kd.R_set hO4 bx4 own5_144 2 (.slice A4 1 c4)
      have O3 : Hid ((Kd.int .u8).R 5 (w4.setCell ⟨g0, 2, none⟩ (.slice A4 1 c4)) base (fun k => w2.heap.size ≤ k) (.slice A4 1 c4) [x]) := Kd.R_lower (Kd.R_mono (Kd.R_bound o3) (fun k hk => hk.2.1)) (unhide HW)
      have VL : Hid (∀ k, (Value.slice (some ⟨g, 0, none⟩) n c0).ownBlock = some k → k < w2.heap.size) := Kd.S_lt (unhide SD)
      have L3 : Hid (g0 < w2.heap.size) := blk_lt (unhide BXD)
      have L4 : Hid (w2.heap.size ≤ (w4.setCell ⟨g0, 2, none⟩ (.slice A4 1 c4)).heap.size) := by have := hb4.size; show _ ≤ _; simpa using this
      obtain ⟨⟨_, _, _⟩, ⟨_, _, _⟩, _⟩ := bx4.cells
      obtain ⟨⟨_, _, _⟩, _, _⟩ := bx3.cells
      have SX3 := hide sx3
      have BB3 := hide bb3
      clear sx3 bb3 bx3 o3 sx4 bb4 bx4 hO4 hb4
      go_wp2_with (at_builtin; refine unhide ?_)
      refine hide ?_
      refine Kd.S_append frK (w0 := w) (W := (w4.setCell ⟨g0, 2, none⟩ (.slice A4 1 c4))) base rfl (.tmp 76) (.tmp 78) 34 144 (.agg #[.int .i64 0, .int .i64 0, .slice none 0 0]) 40 rfl Tryd.underlying34 info144 rfl (by decide) (by decide) (.slice (some ⟨g, 0, none⟩) n c0) ts (0, 0, [x]) [.int .i64 0, .int .i64 0, .slice A4 1 c4] (fun k => k ≠ g0) (fun k => w2.heap.size ≤ k) rfl (by rw [size_set]; rfl) (frK_M (unhide O3)) (fun k h => ⟨by have := unhide L3; omega, fun he => by have := (unhide VL) k he.symm; omega⟩) (fun k hk => by have := unhide L3; have := unhide L4; omega) (Kd.S_mono (unhide SX3) (fun k hk => ⟨hk.1, by omega⟩)) (unhide BB3) (Nat.le_trans (unhide HW) (unhide L4)) (by have := unhide HTW; have := unhide HLT; omega) ?_
      intro v5 w5 hS5 hB5 hg5 hat5
      obtain ⟨us, hus⟩ : ∃ us, us = ts ++ [((0 : Int), (0 : Int), [x])] := ⟨_, rfl⟩
      rw [← hus] at hS5
      obtain ⟨A5, c5, rfl⟩ := Kd.R_slice (Kd.S_R hS5)
      have HS5 := hide (Kd.S_mono hS5 (fun _ _ => trivial))
      have HB5 := hide hB5
      have HUS := hide hus
      clear hS5 hB5 hg5 hat5 hus
      go_wp2
      refine bodyPost_ret (v := .slice A5 us.length c5) (by simp [results, Tryd.results66, go_sem]) rfl ⟨A5, c5, us, rfl, unhide HS5, (by rw [unhide HUS]; exact tkok_snoc (unhide HOK) (.inr ⟨rfl, rfl, by simp⟩)), (by rw [unhide HUS, tws_append]; simp [tws, tw]), unhide HB5⟩
end Go.Proofs.YtgoephcembgmcaaDoor.Tk
namespace Go.Proofs.YtgoephcembgmcaaDoor.Bl
open Go.RowKit Go.Proofs.YtgoephcembgmcaaDoorW.PrintWords Go.Proofs.YtgoephcembgmcaaDoorW.PrintLast Wk FrM Fr Sh Rg
open WkM (w64 Bytes val)
/-- Elements of n cells that own nothing. -/
def rawK {α : Type} (n : Nat) (enc : α → List Value) : Kd α where
  sz := n
  E := []
  K := fun _ x cs => cs = enc x ∧ cs.length = n ∧ ∀ u ∈ cs, u.oneCell' = true
  M := fun _ _ _ x cs => cs = enc x ∧ cs.length = n ∧ ∀ u ∈ cs, u.oneCell' = true
  K_len := fun h => h.2.1
  K_one := fun h => h.2.2
  K_below := fun _ h => h
  K_of_M := fun h => h
  M_mono := fun _ h => h
  M_bound := fun h => h
  M_move := fun _ h => h
  M_lower := fun _ h => h
def blK : Kd (Int × List Int) := rawK 33 fun b => bk b.1 b.2
theorem blK_M {w : World} {base : Nat} {ok : Nat → Prop} {v : Int} {s : List Int} (h : s.length = 32) : blK.M w base ok (v, s) (bk v s) := ⟨rfl, bk_len v s h, bk_one v s⟩
theorem info86 : (Tryd.prog.info? 86).map (fun i => (i.zero, i.size, i.bytes)) = some (some (.agg (bk 0 (List.replicate 32 0)).toArray), 33, 36) := by kernel_rfl
/-- The j-th block of bytes, four at a time; the first i of them. -/
def bl1 (l : List Int) (j : Nat) : Int × List Int := (val ((l.drop (4 * j)).take 4), S8 ((l.drop (4 * j)).take 4))
def bls (l : List Int) (i : Nat) : List (Int × List Int) := (List.range i).map (bl1 l)
theorem bls_len (l : List Int) (i : Nat) : (bls l i).length = i := by unfold bls; rw [List.length_map, List.length_range]
theorem bls_succ (l : List Int) (i : Nat) : bls l (i + 1) = bls l i ++ [bl1 l i] := by unfold bls; rw [List.range_succ, List.map_append]; rfl
/-- A signature at g. -/
def Sg (w : World) (g : Nat) (n : Nat) (v : Value) : Prop := w.heap[g]? = some (.cells #[.int .i64 4, .int .i64 8, .int .i64 (n : Int), v] 33 (0, 0))
def Sg0 (w : World) (g : Nat) : Prop := w.heap[g]? = some (.cells #[.int .i64 0, .int .i64 0, .int .i64 0, .slice none 0 0] 33 (0, 0))
theorem blK_33 : ∀ q, q ∈ 86 :: blK.E → q ≠ 33 := by
  intro q hq
  simp [blK, rawK] at hq
  omega
theorem box4 {wr : World} {g t : Nat} {x y z u : Value} (h : wr.heap[g]? = some (.cells #[x, y, z, u] t (0, 0))) :
    (wr.cell? ⟨g, 0, none⟩ = some x ∧ wr.cell? ⟨g, 1, none⟩ = some y ∧ wr.cell? ⟨g, 2, none⟩ = some z ∧ wr.cell? ⟨g, 3, none⟩ = some u) ∧ (wr.frozen? ⟨g, 0, none⟩ = false ∧ wr.frozen? ⟨g, 1, none⟩ = false ∧ wr.frozen? ⟨g, 2, none⟩ = false ∧ wr.frozen? ⟨g, 3, none⟩ = false) ∧ g < wr.heap.size :=
  ⟨⟨(blk_cell h 0).trans rfl, (blk_cell h 1).trans rfl, (blk_cell h 2).trans rfl, (blk_cell h 3).trans rfl⟩, ⟨blk_frozen h 0, blk_frozen h 1, blk_frozen h 2, blk_frozen h 3⟩, blk_lt h⟩
def T6_9 : Bool × List (List Nat × List Nat) := (true, [([], []), ([0], [0]), ([], []), ([], []), ([], []), ([], []), ([4, 5], [4, 5]), ([], []), ([7], [7]), ([6, 8], [6, 8]), ([2, 3, 9], [2, 3, 9]), ([], []), ([10, 11], [10, 11]), ([12], [12]), ([1, 13, 12], [1, 13]), ([0, 1, 2, 3, 4, 5, 6, 7, 8, 9, 10, 11, 12, 13, 14], []), ([15, 14, 14, 0, 1, 2, 3, 4, 5, 6, 7, 8, 9, 10, 11, 12, 13, 14], [14, 15])])
def BT6_9 : List Nat := [0, 1, 0, 0, 0, 0, 48, 0, 128, 496, 1020, 0, 4092, 8188, 16383, 32767, 65535]
theorem tabT6_9 : rtab .any (opsOf Tryd.f6 9) = T6_9 := by kernel_rfl
theorem bitsT6_9 : waitsOk T6_9.2 BT6_9 = true := by kernel_rfl
set_option maxHeartbeats 4000000 in
set_option maxRecDepth 100000 in
theorem make_ok (A : Option Addr) (c : Nat) (l : List Int) (w : World) (hr : Kd.C (Kd.int .u8) w A l.length l) (hl : Bytes l) (hc : l.length ≤ c) (hn : l.length ≤ 500) :
    Calls Tryd.prog 6 #[.slice A l.length c, .int .i64 4, .int .i64 8] w fun e w' => ∃ A1 c1, e = .returned (.tuple #[.agg #[.int .i64 4, .int .i64 8, .int .i64 (l.length : Int), .slice A1 ((l.length + 3) / 4) c1], .int .i64 0]) ∧ blK.R 86 w' w.heap.size (fun _ => True) (.slice A1 ((l.length + 3) / 4) c1) (bls l ((l.length + 3) / 4)) ∧ Below w.heap.size w w' := by
  have HR := hide hr
  have HL := hide hl
  have HN := hide hn
  have HC := hide hc
  obtain ⟨m, hm⟩ : ∃ m, m = (l.length + 3) / 4 := ⟨_, rfl⟩
  have hm4 : (m : Int) ≤ 4096 := by omega
  have D1 : ¬ 4096 < (m : Int) := by omega
  rw [← hm]
  have HM := hide hm
  clear hr hl hm hn hm4 hc
  go_enter Tryd.func6, Tryd.ntmps6
  go_wp2_with fail
  refine (count_ok l.length _ (by have := unhide HN; omega)).mono ?_
  intro e w' hh; rw [hh.1, hh.2]; clear hh
  rw [← unhide HM]
  go_wp2
  go_loopg [9] m (fun kq v9 wr => ∃ (i : Nat) (A1 : Option Addr) (c1 : Nat), v9 = .int .i64 ((4 * i : Nat) : Int) ∧ Hid (i + kq = m) ∧ Hid (Sg wr (w.heap.size + 1) l.length (.slice A1 i c1)) ∧ Hid (Sg0 wr w.heap.size) ∧ Hid (blK.R 86 wr w.heap.size (fun _ => True) (.slice A1 i c1) (bls l i)) ∧ Hid (Below w.heap.size w wr))
  case atStart => exact ⟨0, none, 0, rfl, Nat.zero_add _, heap_alloc2_new _ _ _, heap_alloc2_old _ _ _, Kd.R_nil _ _ _ _ _, below_alloc (below_alloc (Below.refl _ _) _) _⟩
  case round =>
    obtain ⟨i, A1, c1, rfl, HK, S1, S0, Q1, B1⟩ := hrel
    obtain ⟨p, hp⟩ : ∃ p, p = 4 * i := ⟨_, rfl⟩
    rw [← hp]
    have hml := unhide HM
    have hki := unhide HK
    have hnn := unhide HN
    by_cases hlt : i < m
    · have d1 : (p : Int) < (l.length : Int) := by omega
      obtain ⟨q, hq⟩ : ∃ q : Nat, q = min (p + 4) l.length := ⟨_, rfl⟩
      obtain ⟨p4, hp4⟩ : ∃ p4 : Nat, p4 = p + 4 := ⟨_, rfl⟩
      have e1 : wrap64 ((p : Int) + 4) = (p4 : Int) := by rw [w64 _ (by omega) (by omega)]; omega
      have hmin : (if l.length < p4 then (l.length : Int) else (p4 : Int)) = (q : Int) := by split <;> omega
      obtain ⟨A2, hcut, hcr, hcl⟩ := mid_any A c l p q (unhide HC) (by omega) (by omega)
      have hpc : (l.take q).drop p = (l.drop (4 * i)).take 4 := by
        rw [List.drop_take, hp]
        by_cases h4 : p + 4 ≤ l.length
        · congr 1; omega
        · rw [List.take_of_length_le (by rw [List.length_drop]; omega), List.take_of_length_le (by rw [List.length_drop]; omega)]
      obtain ⟨pc, hpce⟩ : ∃ pc, pc = (l.drop (4 * i)).take 4 := ⟨_, rfl⟩
      rw [hpc, ← hpce] at hcut hcr hcl
      have hpl : pc.length ≤ 4 := by rw [hpce, List.length_take]; omega
      have hby : Bytes pc := by rw [hpce]; exact ((unhide HL).drop _).take _
      have hbl : bl1 l i = (val pc, S8 pc) := by unfold bl1; rw [← hpce]
      have HMIN := hide hmin
      have E1 := hide e1
      have HCR := hide hcr
      have HCUT := hide hcut
      have HCL := hide hcl
      have HPL := hide hpl
      have HBY := hide hby
      have HBL := hide hbl
      have HP := hide hp
      have HP4 := hide hp4
      have HIM : Hid (i < m ∧ m ≤ 200) := by show _ ∧ _; omega
      clear hmin e1 hcr hcut hcl hpl hby hbl hp hpc hpce hq hp4 hml hki hnn hlt
      go_wp2
      have e1 := unhide E1
      have hmin := unhide HMIN
      have hcut := unhide HCUT
      have SD : Hid (Sg wr.drew (w.heap.size + 1) l.length (.slice A1 i c1)) := unhide S1
      have ZD : Hid (Sg0 wr.drew w.heap.size) := unhide S0
      have QD := hide (Kd.R_drew (unhide Q1))
      have BD := hide (below_drew (unhide B1))
      refine start_ (n := 17) (S := fun w' => Sg w' (w.heap.size + 1) l.length (.slice A1 i c1)) (ds := [16]) (bt 17 0) (by kernel_rfl) rfl (by kernel_rfl) (unhide S1) (fun hHeld => ?_)
      refine with_tabW tabT6_9 bitsT6_9 (fun HT_ HW_ => ?_)
      refine run_ [(0, 45)] ?_
      iterate 1 ((first | refine sp_ (v := ?_) (a' := ?_) HT_.out rfl rfl rfl (by kernel_rfl) (fun _ _ _ h => h) ?_ ?_ ?_ | refine sg_ (v := ?_) (a' := ?_) HT_.out rfl rfl (by kernel_rfl) (fun _ _ _ h => h) (by rfl) ?_ ?_ ?_); rotate_left; (· intro w'; go_simp; with_reducible rfl); rotate_left; (· simp only [Act.put, List.setIfInBounds_toArray, List.set_cons_zero, List.set_cons_succ, i64_w, i32_w]; rfl))
      refine rend_ ?_
      refine take_ (i := 1) (N := some 46) (v := ?_) (a' := ?_) (bt 17 3) rfl rfl (take_ofW HT_.out HW_.out (by kernel_rfl)) (fun _ _ _ h => h) (Or.inl ⟨by rfl, ?_⟩) hHeld ?_ ?_
      rotate_left
      · rintro w' h1_
        obtain ⟨⟨_, _, _, _⟩, _, _⟩ := box4 h1_
        go_simp
        with_reducible rfl
      rotate_left
      · simp only [Act.put, List.setIfInBounds_toArray, List.set_cons_zero, List.set_cons_succ, i64_w, i32_w]
        rfl
      refine run_ [(2, 47), (3, 48), (4, 49), (5, 50), (6, 51), (7, 52), (8, 53), (9, 54), (10, 55), (11, 56)] ?_
      iterate 10 ((first | refine sp_ (v := ?_) (a' := ?_) HT_.out rfl rfl rfl (by kernel_rfl) (fun _ _ _ h => h) ?_ ?_ ?_ | refine sg_ (v := ?_) (a' := ?_) HT_.out rfl rfl (by kernel_rfl) (fun _ _ _ h => h) (by rfl) ?_ ?_ ?_); rotate_left; (· intro w'; go_simp; with_reducible rfl); rotate_left; (· simp only [Act.put, List.setIfInBounds_toArray, List.set_cons_zero, List.set_cons_succ, i64_w, i32_w]; rfl))
      refine rend_ ?_
      refine one_ (i := 12) (N := some 57) (bt 17 8191) rfl rfl (one_of HT_.out (by kernel_rfl)) (by decide) (fun K hK => ?_)
      refine goes_ Tryd.func23 (by kernel_rfl) rfl #[.slice A2 pc.length (c - p), .int .i64 8] (by rfl) rfl rfl (by (try simp only [List.map_toArray, List.map_cons, List.map_nil]); first | done | rfl) ?_
      refine (block_of A2 (c - p) pc _ ((unhide HCR) _ (Kd.C_below (unhide HR) (unhide BD))) (unhide HBY) (unhide HCL) (by have := unhide HPL; omega)).mono ?_
      rintro e w4 ⟨rfl, hB4⟩
      refine ⟨_, rfl, ?_⟩
      have S4 : Hid (Sg w4 (w.heap.size + 1) l.length (.slice A1 i c1)) := blk_below (unhide SD) hB4
      have Z4 : Hid (Sg0 w4 w.heap.size) := blk_below (unhide ZD) hB4
      have Q4 := hide (Kd.R_below (unhide QD) hB4)
      have B4 := hide (below_step (unhide BD) hB4)
      clear hB4
      clear hHeld
      refine hK.out _ _ (unhide S4) (fun hHeld => ?_)
      clear hK K
      refine norm_ (a' := ?_) ?_ ?_
      rotate_left
      · show Act.put _ (some 57) _ = _
        simp only [Act.put, List.setIfInBounds_toArray, List.set_cons_zero, List.set_cons_succ, i64_w, i32_w]
        rfl
      refine one_ (i := 13) (N := some 58) (bt 17 16383) rfl rfl (one_of HT_.out (by kernel_rfl)) (by decide) (fun K hK => ?_)
      refine value_ (v := .slice (some ⟨w4.heap.size, 0, none⟩) 1 1) (w1 := w4.alloc (.cells (bk (val pc) (S8 pc)).toArray 86)) (wanted_none rfl) rfl ?hrun ?_
      case hrun =>
        exact lit86_run (val pc) (S8 pc) (S8_len pc) w4 _ _ (.tmp 57) rfl rfl
      clear hHeld
      refine hK.out _ _ (blk_alloc (unhide S4) _) (fun hHeld => ?_)
      clear hK K
      refine norm_ (a' := ?_) ?_ ?_
      rotate_left
      · show Act.put _ (some 58) _ = _
        simp only [Act.put, List.setIfInBounds_toArray, List.set_cons_zero, List.set_cons_succ, i64_w, i32_w]
        rfl
      refine one_ (i := 14) (N := some 59) (bt 17 32767) rfl rfl (one_of HT_.out (by kernel_rfl)) (by decide) (fun K hK => ?_)
      refine Kd.R_append_step blK (W := w4) (w0 := w) w.heap.size (wanted_none rfl) (.tmp 46) (.tmp 58) 31 86 (.agg (bk 0 (List.replicate 32 0)).toArray) 36 rfl Tryd.underlying31 info86 rfl (by decide) (by decide) (.slice A1 i c1) (bls l i) (val pc, S8 pc) (bk (val pc) (S8 pc)) (fun _ => True) (fun _ => False) rfl rfl (blK_M (S8_len pc)) (fun k h => h.elim) (fun _ _ => trivial) (unhide Q4) (unhide B4) (unhide B4).size (by rw [bls_len]; have := unhide HIM; omega) ?_
      intro v5 w5 hR5 hB5 hg5 hat5
      rw [← unhide HBL, ← bls_succ] at hR5
      have S5 : Hid (Sg w5 (w.heap.size + 1) l.length (.slice A1 i c1)) := blk_grown (unhide S4) hg5 (Kd.R_ne (unhide Q4) (unhide S4) (by decide))
      have Z5 : Hid (Sg0 w5 w.heap.size) := blk_grown (unhide Z4) hg5 (Kd.R_ne (unhide Q4) (unhide Z4) (by decide))
      obtain ⟨A5, c5, hv5⟩ := Kd.R_slice hR5
      rw [bls_len] at hv5
      subst hv5
      have Q5 := hide hR5
      have B5 := hide hB5
      clear hR5 hB5 hg5 hat5
      clear hHeld
      refine hK.out _ _ (unhide S5) (fun hHeld => ?_)
      clear hK K
      refine norm_ (a' := ?_) ?_ ?_
      rotate_left
      · show Act.put _ (some 59) _ = _
        simp only [Act.put, List.setIfInBounds_toArray, List.set_cons_zero, List.set_cons_succ, i64_w, i32_w]
        rfl
      refine run_ [(15, 60)] ?_
      iterate 1 ((first | refine sp_ (v := ?_) (a' := ?_) HT_.out rfl rfl rfl (by kernel_rfl) (fun _ _ _ h => h) ?_ ?_ ?_ | refine sg_ (v := ?_) (a' := ?_) HT_.out rfl rfl (by kernel_rfl) (fun _ _ _ h => h) (by rfl) ?_ ?_ ?_); rotate_left; (· intro w'; go_simp; with_reducible rfl); rotate_left; (· simp only [Act.put, List.setIfInBounds_toArray, List.set_cons_zero, List.set_cons_succ, i64_w, i32_w]; rfl))
      refine rend_ ?_
      refine last_ (i := 16) (N := none) (bt 17 131071) rfl rfl (one_of HT_.out (by kernel_rfl)) (by decide) (fun K hK => ?_)
      obtain ⟨⟨_, _, _, _⟩, ⟨_, _, _, _⟩, _⟩ := box4 (unhide S5)
      refine skip_ (w1 := ?w7) (wanted_none rfl) rfl ?hrun ?_
      case hrun =>
        go_simp
        rfl
      refine hK.out _ _ ?_
      clear hK K
      refine done_ (done_of HT_.out (by kernel_rfl)) ?_
      clear HT_ HW_; (try clear hHeld)
      have S6 : Sg (w5.setCell ⟨w.heap.size + 1, 3, none⟩ (.slice A5 (i + 1) c5)) (w.heap.size + 1) l.length (.slice A5 (i + 1) c5) := blk_put (unhide S5) 3 _ rfl
      have Z6 : Sg0 (w5.setCell ⟨w.heap.size + 1, 3, none⟩ (.slice A5 (i + 1) c5)) w.heap.size := blk_far (unhide Z5) (by show w.heap.size ≠ w.heap.size + 1; omega) _
      have Q6 := Kd.R_set (unhide Q5) (unhide S5) blK_33 3 (.slice A5 (i + 1) c5)
      have B6 := (unhide B5).setCell (p := ⟨w.heap.size + 1, 3, none⟩) (by show w.heap.size ≤ w.heap.size + 1; omega) (.slice A5 (i + 1) c5)
      generalize w5.setCell ⟨w.heap.size + 1, 3, none⟩ (.slice A5 (i + 1) c5) = w6 at S6 Z6 Q6 B6 ⊢
      have S6 := hide S6
      have Z6 := hide Z6
      have Q6 := hide Q6
      have B6 := hide B6
      go_wp2
      go_roundg (gk - 1)
      case measure => have := unhide HK; have := (unhide HIM).1; omega
      case rel => exact ⟨i + 1, A5, c5, congrArg (Value.int .i64) ((unhide E1).trans (by have := unhide HP4; have := unhide HP; omega)), by have := unhide HK; have := (unhide HIM).1; show _ = _; omega, S6, Z6, Q6, B6⟩
    · have d1 : ¬ (p : Int) < (l.length : Int) := by omega
      have him : i = m := by omega
      subst him
      have HP := hide hp
      clear hp hml hki hnn hlt
      obtain ⟨⟨_, _, _, _⟩, ⟨_, _, _, _⟩, _⟩ := box4 (unhide S1)
      obtain ⟨⟨_, _, _, _⟩, ⟨_, _, _, _⟩, _⟩ := box4 (unhide S0)
      go_wp2
      have S9 : Sg ((((wr.setCell ⟨w.heap.size, 0, none⟩ (.int .i64 4)).setCell ⟨w.heap.size, 1, none⟩ (.int .i64 8)).setCell ⟨w.heap.size, 2, none⟩ (.int .i64 (l.length : Int))).setCell ⟨w.heap.size, 3, none⟩ (.slice A1 i c1)) w.heap.size l.length (.slice A1 i c1) := blk_put (blk_put (blk_put (blk_put (unhide S0) 0 _ rfl) 1 _ rfl) 2 _ rfl) 3 _ rfl
      have Q9 : blK.R 86 ((((wr.setCell ⟨w.heap.size, 0, none⟩ (.int .i64 4)).setCell ⟨w.heap.size, 1, none⟩ (.int .i64 8)).setCell ⟨w.heap.size, 2, none⟩ (.int .i64 (l.length : Int))).setCell ⟨w.heap.size, 3, none⟩ (.slice A1 i c1)) w.heap.size (fun _ => True) (.slice A1 i c1) (bls l i) :=
        Kd.R_set (Kd.R_set (Kd.R_set (Kd.R_set (unhide Q1) (unhide S0) blK_33 0 _) (blk_put (unhide S0) 0 _ rfl) blK_33 1 _) (blk_put (blk_put (unhide S0) 0 _ rfl) 1 _ rfl) blK_33 2 _) (blk_put (blk_put (blk_put (unhide S0) 0 _ rfl) 1 _ rfl) 2 _ rfl) blK_33 3 _
      have B9 : Below w.heap.size w ((((wr.setCell ⟨w.heap.size, 0, none⟩ (.int .i64 4)).setCell ⟨w.heap.size, 1, none⟩ (.int .i64 8)).setCell ⟨w.heap.size, 2, none⟩ (.int .i64 (l.length : Int))).setCell ⟨w.heap.size, 3, none⟩ (.slice A1 i c1)) :=
        ((((unhide B1).setCell (p := ⟨w.heap.size, 0, none⟩) (Nat.le_refl _) _).setCell (p := ⟨w.heap.size, 1, none⟩) (Nat.le_refl _) _).setCell (p := ⟨w.heap.size, 2, none⟩) (Nat.le_refl _) _).setCell (p := ⟨w.heap.size, 3, none⟩) (Nat.le_refl _) _
      generalize (((wr.setCell ⟨w.heap.size, 0, none⟩ (.int .i64 4)).setCell ⟨w.heap.size, 1, none⟩ (.int .i64 8)).setCell ⟨w.heap.size, 2, none⟩ (.int .i64 (l.length : Int))).setCell ⟨w.heap.size, 3, none⟩ (.slice A1 i c1) = w9 at S9 Q9 B9 ⊢
      obtain ⟨⟨f0, f1, f2, f3⟩, _, _⟩ := box4 S9
      have hu := Tryd.underlying33
      refine bodyPost_ret (v := .tuple #[.agg #[.int .i64 4, .int .i64 8, .int .i64 (l.length : Int), .slice A1 i c1], .int .i64 0]) (by simp [results, Tryd.results6, go_sem, f0, f1, f2, f3, hu]) rfl ⟨A1, c1, rfl, Q9, B9⟩
end Go.Proofs.YtgoephcembgmcaaDoor.Bl
namespace Go.Proofs.YtgoephcembgmcaaDoor.Bl
open Go.RowKit Go.Proofs.YtgoephcembgmcaaDoorW.PrintWords Go.Proofs.YtgoephcembgmcaaDoorW.PrintLast Wk FrM Fr Sh Rg
open WkM (w64 Bytes val)
/-- A signature of a file of n bytes, as a value. -/
abbrev sgV (n : Nat) (v : Value) : Value := .agg #[.int .i64 4, .int .i64 8, .int .i64 (n : Int), v]
/-- A block's sums, eight bytes of the strong one. -/
def Blk (b : Int × List Int) : Prop := 0 ≤ b.1 ∧ b.1 < 4294967296 ∧ ∃ s : List Int, b.2 = s ++ List.replicate 24 0 ∧ s.length = 8 ∧ Bytes s
/-- The blocks lie in a row that begins at its block's head. -/
def BkC (w : World) (A : Option Addr) (bs : List (Int × List Int)) : Prop := 0 < bs.length → ∃ g, A = some ⟨g, 0, none⟩ ∧ ∀ i b, bs[i]? = some b → w.rangeAt g (i * 33) (bk b.1 b.2)
theorem BkC.below {w w1 : World} {A : Option Addr} {bs : List (Int × List Int)} (h : BkC w A bs) (hb : Below w.heap.size w w1) : BkC w1 A bs := fun h0 => by
  obtain ⟨g, e, hr⟩ := h h0
  exact ⟨g, e, fun i b hi j v hv => pw_cell_below hb (hr i b hi j v hv)⟩
theorem BkC.alloc {w : World} {A : Option Addr} {bs : List (Int × List Int)} (h : BkC w A bs) (o : Obj) : BkC (w.alloc o) A bs := h.below (below_alloc (Below.refl _ _) o)
theorem BkC.of_R {w : World} {base n c : Nat} {ok : Nat → Prop} {A : Option Addr} {bs : List (Int × List Int)} (h : blK.R 86 w base ok (.slice A n c) bs) : BkC w A bs := fun h0 => by
  have hr := Kd.R_reads' h
  have hn : 0 < n := by rw [hr.1]; exact h0
  obtain ⟨ad, hA, hcell⟩ := hr.2.2.2.2 h0
  subst hA
  obtain ⟨g, rfl⟩ := Kd.R_head h
  refine ⟨g, rfl, fun i b hi j v hv => ?_⟩
  obtain ⟨c, _, hK, hcc⟩ := hcell i b hi
  have hc : c = bk b.1 b.2 := hK.1
  subst hc
  have := hcc j v hv
  rw [Addr.add_mid, Nat.zero_add] at this
  exact this
theorem Blk.len {b : Int × List Int} (h : Blk b) : b.2.length = 32 := by
  obtain ⟨_, _, s, hs, hl, _⟩ := h
  rw [hs, List.length_append, hl, List.length_replicate]
theorem val_nn (l : List Int) : 0 ≤ val l := by unfold WkM.val; omega
theorem val_lt (l : List Int) : val l < 4294967296 := by unfold WkM.val; omega
theorem blk_bls (l : List Int) (i : Nat) : ∀ b ∈ bls l i, Blk b := by
  intro b hb
  obtain ⟨j, _, rfl⟩ := List.mem_map.1 hb
  exact ⟨val_nn _, val_lt _, (S _).take 8, rfl, by rw [List.length_take, S_len]; rfl, fun x hx => S_bytes _ x (List.mem_of_mem_take hx)⟩
end Go.Proofs.YtgoephcembgmcaaDoor.Bl
