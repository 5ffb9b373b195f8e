/- Texts of the proof, merged: Lo6 Lo7 Lo8 Lo9 Loa Lob Tr1 Mp1 Mp2 Tr3. -/
import Derived.Test.YtgoephcembgmcaaGreatDoorZ01
import Derived.Maps.AppendAt
import Derived.Maps.Ext
set_option linter.unusedSimpArgs false
set_option linter.unusedVariables false
namespace Go.Proofs.YtgoephcembgmcaaGreatDoor.G
open Go.RowKit Go.Maps Go.Proofs.YtgoephcembgmcaaGreatDoorW.PrintWords Go.Proofs.YtgoephcembgmcaaGreatDoorW.PrintLast
/-! slices.Delete of one ask. -/
def T22_5 : Bool × List (List Nat × List Nat) := (true, [([], []), ([], []), ([0, 1], [0, 1]), ([], []), ([], []), ([3, 4], [3, 4]), ([2, 5], [2, 5]), ([6, 6, 0, 1, 2, 3, 4, 5, 6], [0, 3, 6])])
def BT22_5 : List Nat := [0, 0, 3, 0, 0, 24, 63, 127]
theorem tabT22_5 : rtab .any (opsOf Tryz.f22 5) = T22_5 := by kernel_rfl
theorem bitsT22_5 : waitsOk T22_5.2 BT22_5 = true := by kernel_rfl
theorem no69 : ∀ q, q ∈ 9 :: Kd.string.E → q ≠ 69 := by
  intro q hq
  rcases List.mem_cons.1 hq with rfl | hq
  · decide
  · cases hq
def setAll : List Value → Nat → List Value → List Value
  | xs, _, [] => xs
  | xs, o, v :: r => setAll (xs.set o v) (o + 1) r
theorem setAll_len : ∀ (vs xs : List Value) (o : Nat), (setAll xs o vs).length = xs.length
  | [], _, _ => rfl
  | v :: r, xs, o => by rw [setAll, setAll_len r, List.length_set]
theorem setAll_ahead : ∀ (vs xs : List Value) (o k : Nat), k ≤ o → (setAll xs o vs).take k = xs.take k
  | [], _, _, _, _ => rfl
  | v :: r, xs, o, k, h => by rw [setAll, setAll_ahead r _ (o + 1) k (by omega), List.take_set_of_le h]
theorem setAll_take : ∀ (vs xs : List Value) (o : Nat), o + vs.length ≤ xs.length → (setAll xs o vs).take (o + vs.length) = xs.take o ++ vs
  | [], xs, o, _ => by rw [setAll]; simp
  | v :: r, xs, o, h => by
    have h' : o + 1 + r.length ≤ (xs.set o v).length := by rw [List.length_set]; simp only [List.length_cons] at h; omega
    rw [setAll, show o + (v :: r).length = o + 1 + r.length from by simp only [List.length_cons]; omega, setAll_take r _ (o + 1) h']
    have ho : o < xs.length := by simp only [List.length_cons] at h; omega
    rw [List.take_add_one, List.getElem?_set_self ho, List.take_set_of_le (Nat.le_refl o)]
    simp
theorem owns_setCells (e size g cap n base : Nat) : ∀ (vs : List Value) (w : World) (xs : List Value) (o : Nat), w.ownsRow base e size (.slice (some ⟨g, 0, none⟩) n cap) n xs →
    (w.setCells g o vs).ownsRow base e size (.slice (some ⟨g, 0, none⟩) n cap) n (setAll xs o vs) ∧ w.grownBy (w.setCells g o vs) (some g)
  | [], w, xs, o, h => ⟨h, rfl, rfl, rfl, Nat.le_refl _, fun _ _ _ => rfl⟩
  | v :: r, w, xs, o, h => by
    obtain ⟨h1, g1⟩ := h.stored o v
    obtain ⟨h2, g2⟩ := owns_setCells e size g cap n base r _ _ (o + 1) h1
    exact ⟨h2, g2.os.trans g1.os, g2.tape.trans g1.tape, g2.output.trans g1.output, Nat.le_trans g1.size g2.size, fun k hk hne => (g2.block k (Nat.lt_of_lt_of_le hk g1.size) hne).trans (g1.block k hk hne)⟩
theorem owns_cut {w : World} {base e size g cap n : Nat} {xs : List Value} (h : w.ownsRow base e size (.slice (some ⟨g, 0, none⟩) n cap) n xs) (m : Nat) (hm : m ≤ n) : w.ownsRow base e size (.slice (some ⟨g, 0, none⟩) m cap) m (xs.take (m * size)) := by
  obtain ⟨h1, h2⟩ := h
  have hle : m * size ≤ n * size := Nat.mul_le_mul_right _ hm
  refine ⟨by rw [List.length_take, h1]; omega, ?_⟩
  rcases h2 with ⟨h2, _⟩ | ⟨g', cap', cur, hv, hb, hg, hc, hm2, hs, ht⟩
  · cases h2
  · cases hv
    refine .inr ⟨g, cap, cur, rfl, hb, hg, by omega, hm2, hs, ?_⟩
    rw [← ht, List.take_take, Nat.min_eq_left hle]
theorem zs_len : ∀ zs : List (Ask × Sc), (zs.flatMap zc).length = zs.length * 3
  | [] => rfl
  | z :: zs => by rw [List.flatMap_cons, List.length_append, zs_len zs, List.length_cons]; show 3 + _ = _; omega
theorem zs_one : ∀ (zs : List (Ask × Sc)) (u : Value), u ∈ zs.flatMap zc → u.oneCell' = true := by
  intro zs u hu
  obtain ⟨z, _, hz⟩ := List.mem_flatMap.1 hu
  simp only [zc, List.mem_cons, List.mem_nil_iff, or_false] at hz
  rcases hz with rfl | rfl | rfl <;> rfl
theorem zs_take (zs : List (Ask × Sc)) (i : Nat) (hi : i ≤ zs.length) : (zs.flatMap zc).take (i * 3) = (zs.take i).flatMap zc := by
  have h := List.take_append_drop i zs
  have hl : ((zs.take i).flatMap zc).length = i * 3 := by rw [zs_len, List.length_take, Nat.min_eq_left hi]
  calc (zs.flatMap zc).take (i * 3) = ((zs.take i ++ zs.drop i).flatMap zc).take (i * 3) := by rw [h]
    _ = _ := by rw [List.flatMap_append, List.take_append_of_le_length (by rw [hl]; exact Nat.le_refl _), List.take_of_length_le (by rw [hl]; exact Nat.le_refl _)]
theorem zs_drop (zs : List (Ask × Sc)) (i : Nat) (hi : i ≤ zs.length) (j : Nat) : ((zs.drop i).flatMap zc)[j]? = (zs.flatMap zc)[i * 3 + j]? := by
  have hl : ((zs.take i).flatMap zc).length = i * 3 := by rw [zs_len, List.length_take, Nat.min_eq_left hi]
  conv => rhs; rw [← List.take_append_drop i zs, List.flatMap_append]
  rw [List.getElem?_append_right (by rw [hl]; omega), hl]
  congr 1
  omega
def zlast : List Value := [.int .i64 0, .slice none 0 0, .bool false]
theorem clear_run (W : World) (g o c : Nat) (ty : TypeId) (hc : ∀ j, j < 3 → (W.cell? ⟨g, o + j, none⟩).isSome = true) (hf : ∀ j, j < 3 → W.frozen? ⟨g, o + j, none⟩ = false) :
    (Builtin.clear_ #[61] ty #[.slice (some ⟨g, o, none⟩) 1 c]).run Tryz.prog W = .ok (.tuple #[]) (W.setCells g o zlast) := by
  have hv : ∀ w, (zeroValue 69).run Tryz.prog w = .ok (.agg #[.int .i64 0, .slice none 0 0, .bool false]) w := fun w => by kernel_rfl
  have hst := run_storeCells_cells (P := Tryz.prog) g o zlast 0 W (by simpa [zlast] using hc) (by simpa [zlast] using hf) (by intro v hv'; simp only [zlast, List.mem_cons, List.mem_nil_iff, or_false] at hv'; rcases hv' with rfl | rfl | rfl <;> rfl)
  simp only [Nat.add_zero] at hst
  have hz : (Builtin.zeroCells (Value.agg #[.int .i64 0, .slice none 0 0, .bool false]).cells 1).toList = zlast := by kernel_rfl
  simp [Builtin.clear_, run_underlying Tryz.underlying61, hv, hz, hst]
theorem from_at (g n c k : Nat) (hk : k ≤ n) (hc : n ≤ c) : ∃ a : Addr, (k < c → a = ⟨g, k * 3, none⟩) ∧ ∀ W : World, (Instr.slice 61 (.slice (some ⟨g, 0, none⟩) n c) (some (.int .i64 (k : Int))) none none).run Tryz.prog W = .ok (.slice (some a) (n - k) (c - k)) W := by
  obtain ⟨i0, hi, hz, hsz, hby⟩ := info_parts info69
  refine ⟨if c = k then ⟨g, 0, none⟩ else ⟨g, k * 3, none⟩, fun h => if_neg (by omega), fun W => ?_⟩
  rw [run_slice_l W 61 (some ⟨g, 0, none⟩) n c slice61 .i64 (k : Int) (by omega) (by omega), elem61]
  by_cases e : c = k <;> simp [sizeOf, typeInfo, hi, hsz, sliced, Result.andThen, e, Addr.add_lit]
theorem mid_at (g m c : Nat) (hc : m < c) (W : World) : (Instr.slice 61 (.slice (some ⟨g, 0, none⟩) m c) (some (.int .i64 (m : Int))) (some (.int .i64 ((m + 1 : Nat) : Int))) none).run Tryz.prog W = .ok (.slice (some ⟨g, m * 3, none⟩) 1 (c - m)) W := by
  obtain ⟨i0, hi, hz, hsz, hby⟩ := info_parts info69
  rw [run_slice_lh W 61 (some ⟨g, 0, none⟩) m c slice61 .i64 .i64 (m : Int) ((m + 1 : Nat) : Int) (by omega) (by omega) (by omega), elem61]
  have e : ¬ c = m := by omega
  simp [sizeOf, typeInfo, hi, hsz, sliced, Result.andThen, e, Addr.add_lit]
theorem one_at (g m c i : Nat) (hi : i ≤ m) (hc : m < c) : ∃ v, ∀ W : World, (Instr.slice 61 (.slice (some ⟨g, 0, none⟩) (m + 1) c) (some (.int .i64 (i : Int))) (some (.int .i64 ((i + 1 : Nat) : Int))) (some (.int .i64 ((m + 1 : Nat) : Int)))).run Tryz.prog W = .ok v W := by
  obtain ⟨i0, hi0, hz, hsz, hby⟩ := info_parts info69
  refine ⟨sliced (some ⟨g, 0, none⟩) i (i + 1) (m + 1) 3, fun W => ?_⟩
  rw [run_slice_lhm W 61 (some ⟨g, 0, none⟩) (m + 1) c slice61 .i64 .i64 .i64 (i : Int) ((i + 1 : Nat) : Int) ((m + 1 : Nat) : Int) (by omega) (by omega) (by omega) (by omega), elem61]
  rw [Int.toNat_natCast, Int.toNat_natCast, Int.toNat_natCast]
  simp [sizeOf, typeInfo, hi0, hsz, Result.andThen]
set_option maxHeartbeats 4000000 in
set_option maxRecDepth 100000 in
theorem delete_ok (g c i j m n base : Nat) (zs : List (Ask × Sc)) (w : World) (hj : j = i + 1) (hn : n = m + 1) (hm : zs.length = m + 1) (hR : LR w base (.slice (some ⟨g, 0, none⟩) n c) zs) (hi : i ≤ m) (hl : m ≤ 1000) :
    Calls Tryz.prog 22 #[.slice (some ⟨g, 0, none⟩) n c, .int .i64 (i : Int), .int .i64 (j : Int)] w fun e w' => e = .returned (.slice (some ⟨g, 0, none⟩) m c) ∧ LR w' base (.slice (some ⟨g, 0, none⟩) m c) (zs.eraseIdx i) ∧ w.grownBy w' (some g) := by
  have HJ := hide hj
  have HN := hide hn
  rw [hn] at hR
  obtain ⟨A0, c0, h0, hz0, hcap⟩ := hR.slice
  injection h0 with e1 e2 e3
  subst e1 e3
  rw [hm] at hcap
  have hmc : m < c := by omega
  obtain ⟨i0, hi0, hz, hsz, hby⟩ := info_parts info69
  have hown := hR.1
  rw [hm] at hown
  have hgd : ∀ k, base ≤ k → k = k := fun _ _ => rfl
  have hxl := zs_len zs
  obtain ⟨news, hnews⟩ : ∃ z, z = (zs.drop (i + 1)).flatMap zc := ⟨_, rfl⟩
  have hnl : news.length = (m - i) * 3 := by rw [hnews, zs_len, List.length_drop, hm]; congr 1; omega
  obtain ⟨a, ha, hfrom⟩ := from_at g (m + 1) c (i + 1) (by omega) (by omega)
  have hcell : ∀ j u, (zs.flatMap zc)[j]? = some u → w.cell? ⟨g, j, none⟩ = some u := fun j u hj => by
    have := hown.cells (g := g) rfl j u hj
    rwa [add_plain] at this
  have hsome : ∀ j, j < (m + 1) * 3 → (w.cell? ⟨g, j, none⟩).isSome = true := fun j hj => by
    rw [hcell j _ (List.getElem?_eq_getElem (by rw [hxl, hm]; exact hj))]
    rfl
  have happ : (Builtin.append_ #[61, 61] 61 #[.slice (some ⟨g, 0, none⟩) i c, .slice (some a) ((m + 1) - (i + 1)) (c - (i + 1))]).run Tryz.prog w.drew = .ok (.slice (some ⟨g, 0, none⟩) m c) (w.drew.setCells g (i * 3) news) := by
    have h := run_append_room_cells (P := Tryz.prog) (w := w.drew) 61 61 69 i0 Tryz.underlying61 hi0 g 0 i c a ((m + 1) - (i + 1)) (c - (i + 1)) news (by rw [hnl, hsz]; congr 1; omega) (fun j u hj => by
      have hj' : j < news.length := (List.getElem?_eq_some_iff.1 hj).1
      rw [hnl] at hj'
      rw [ha (by omega), Addr.add_lit]
      refine hcell _ u ?_
      rw [← zs_drop zs (i + 1) (by omega), ← hnews]
      exact hj) (by rw [hnews]; exact zs_one _) (by omega) (fun j hj => by
      rw [hnl] at hj
      rw [hsz, Nat.zero_add]
      refine hsome _ (by omega)) (fun j hj => hown.frozenAt _)
    rw [h, hsz, Nat.zero_add, show i + ((m + 1) - (i + 1)) = m from by omega]
  obtain ⟨ho1, hg1⟩ := owns_setCells 69 3 g c (m + 1) base news w.drew _ (i * 3) hown.drew
  obtain ⟨W1, hW1⟩ : ∃ W, W = w.drew.setCells g (i * 3) news := ⟨_, rfl⟩
  rw [← hW1] at happ ho1 hg1
  have hcl := clear_run W1 g (m * 3) (c - m) 0 (fun j hj => by
    have h := ho1.cellAt (m * 3 + j) (by omega)
    rw [h, List.getElem?_eq_getElem (by rw [setAll_len, hxl, hm]; omega)]
    rfl) (fun j hj => ho1.frozenAt _)
  obtain ⟨ho2, hg2⟩ := owns_setCells 69 3 g c (m + 1) base zlast W1 _ (m * 3) ho1
  have ho3 := owns_cut ho2 m (by omega)
  have hel : (zs.eraseIdx i).length = m := by rw [List.length_eraseIdx_of_lt (by omega)]; omega
  have hrow : (setAll (setAll (zs.flatMap zc) (i * 3) news) (m * 3) zlast).take (m * 3) = (zs.eraseIdx i).flatMap zc := by
    rw [setAll_ahead _ _ _ _ (Nat.le_refl _)]
    have h := setAll_take news (zs.flatMap zc) (i * 3) (by rw [hnl, hxl, hm]; omega)
    rw [hnl, show i * 3 + (m - i) * 3 = m * 3 from by omega] at h
    rw [h, zs_take zs i (by omega), hnews, List.eraseIdx_eq_take_drop_succ, List.flatMap_append]
  rw [hrow] at ho3
  have hgr : w.grownBy (W1.setCells g (m * 3) zlast) (some g) := ⟨hg2.os.trans hg1.os, hg2.tape.trans hg1.tape, hg2.output.trans hg1.output, Nat.le_trans hg1.size hg2.size, fun k hk hne => (hg2.block k (Nat.lt_of_lt_of_le hk hg1.size) hne).trans (hg1.block k hk hne)⟩
  have hgt : ∃ cells, w.heap[g]? = some (.cells cells 69 (0, 0)) := by
    rcases hown.2 with ⟨h, _⟩ | ⟨g', cap, cur, hv, hb, hg, _⟩
    · cases h
    · cases hv; exact ⟨cur, hg⟩
  have hLR : LR (W1.setCells g (m * 3) zlast) base (.slice (some ⟨g, 0, none⟩) m c) (zs.eraseIdx i) := by
    refine ⟨by rw [hel]; exact ho3, fun z hz => ?_⟩
    obtain ⟨cells, hcs⟩ := hgt
    have h := Kd.R_types (hR.2 z (List.mem_of_mem_eraseIdx hz)) hcs no69
    exact Kd.R_mono (Kd.R_grown h hgr (fun k hk e => hk.2 (Option.some.inj e))) (fun _ _ => trivial)
  obtain ⟨v1, hone⟩ := one_at g m c i hi hmc
  rw [← hj, ← hn] at hone
  have HONE := hide hone
  have HMC := hide hmc
  have hup := fun W => upto_at (some ⟨g, 0, none⟩) n c i (by omega) W
  have HUP := hide hup
  rw [← hj, ← hn] at hfrom happ
  have HFR := hide hfrom
  have hmid := mid_at g m c hmc
  rw [← hn] at hmid
  have HMID := hide hmid
  have HAPP := hide happ
  have HCL := hide hcl
  have HLR := hide hLR
  have HGR := hide hgr
  have d1 : ((i : Int) == (j : Int)) = false := by rw [beq_eq_false_iff_ne]; omega
  have f1 : (i : Int) ≤ (j : Int) := by omega
  have f2 : (j : Int) ≤ (n : Int) := by omega
  have f3 : (n : Int) ≤ (c : Int) := by omega
  have f4 : (m : Int) ≤ (n : Int) := by omega
  have f5 : (0 : Int) ≤ (j : Int) := by omega
  have nni : ¬ n = i := by omega
  have f6 : (0 : Int) ≤ (n : Int) := by omega
  clear hz0 hR hown hgd hxl hnews hnl ha hfrom hcell hsome happ ho1 hg1 hW1 ho2 hg2 ho3 hel hrow hgt hLR hgr hmc hcap hm hi hi0 hz hsz hby hmid hl hj hn hup e2 hone
  have hu61 := Tryz.underlying61
  go_enter Tryz.func22, Tryz.ntmps22
  go_wp2_with fail
  refine start_ (n := 8) (S := fun _ => True) (ds := []) #[false, false, false, false, false, false, false, false] (by kernel_rfl) rfl rfl trivial (fun hHeld => ?_)
  refine with_tabW tabT22_5 bitsT22_5 (fun HT_ HW_ => ?_)
  refine pure_ (i := 0) (N := some 20) (v := ?_) (a' := ?_) #[true, false, false, false, false, false, false, false] rfl rfl (any_of HT_.out (by kernel_rfl)) (fun _ _ _ h => h) (Or.inl ⟨by rfl, ?_⟩) ?_ ?_
  rotate_left
  · intro w'
    go_simp
    with_reducible rfl
  rotate_left
  · simp only [Act.put, List.setIfInBounds_toArray, List.set_cons_zero, List.set_cons_succ, i64_w, i32_w]
    rfl
  refine pure_ (i := 1) (N := some 21) (v := ?_) (a' := ?_) #[true, true, false, false, false, false, false, false] rfl rfl (any_of HT_.out (by kernel_rfl)) (fun _ _ _ h => h) (Or.inl ⟨by rfl, ?_⟩) ?_ ?_
  rotate_left
  · intro w'
    go_simp
    with_reducible rfl
  rotate_left
  · simp only [Act.put, List.setIfInBounds_toArray, List.set_cons_zero, List.set_cons_succ, i64_w, i32_w]
    rfl
  refine pure_ (i := 2) (N := some 22) (v := .slice (some ⟨g, 0, none⟩) i c) (a' := ?_) #[true, true, true, false, false, false, false, false] rfl rfl (any_of HT_.out (by kernel_rfl)) (fun _ _ _ h => h) (Or.inl ⟨by rfl, ?_⟩) ?_ ?_
  skip
  · intro w'
    refine exec_slice (x := .tmp 20) (lo := none) (hi := some (.tmp 21)) (mx := none) ?_ ?_ ?_ ?_ ?_ (unhide HUP _) slice61
    all_goals rfl
  rotate_left
  · simp only [Act.put, List.setIfInBounds_toArray, List.set_cons_zero, List.set_cons_succ, i64_w, i32_w]
    rfl
  refine pure_ (i := 3) (N := some 23) (v := ?_) (a' := ?_) #[true, true, true, true, false, false, false, false] rfl rfl (any_of HT_.out (by kernel_rfl)) (fun _ _ _ h => h) (Or.inl ⟨by rfl, ?_⟩) ?_ ?_
  rotate_left
  · intro w'
    go_simp
    with_reducible rfl
  rotate_left
  · simp only [Act.put, List.setIfInBounds_toArray, List.set_cons_zero, List.set_cons_succ, i64_w, i32_w]
    rfl
  refine pure_ (i := 4) (N := some 24) (v := ?_) (a' := ?_) #[true, true, true, true, true, false, false, false] rfl rfl (any_of HT_.out (by kernel_rfl)) (fun _ _ _ h => h) (Or.inl ⟨by rfl, ?_⟩) ?_ ?_
  rotate_left
  · intro w'
    go_simp
    with_reducible rfl
  rotate_left
  · simp only [Act.put, List.setIfInBounds_toArray, List.set_cons_zero, List.set_cons_succ, i64_w, i32_w]
    rfl
  refine pure_ (i := 5) (N := some 25) (v := .slice (some a) (n - j) (c - j)) (a' := ?_) #[true, true, true, true, true, true, false, false] rfl rfl (any_of HT_.out (by kernel_rfl)) (fun _ _ _ h => h) (Or.inl ⟨by rfl, ?_⟩) ?_ ?_
  skip
  · intro w'
    refine exec_slice (x := .tmp 23) (lo := some (.tmp 24)) (hi := none) (mx := none) ?_ ?_ ?_ ?_ ?_ (unhide HFR _) slice61
    all_goals rfl
  rotate_left
  · simp only [Act.put, List.setIfInBounds_toArray, List.set_cons_zero, List.set_cons_succ, i64_w, i32_w]
    rfl
  refine one_ (i := 6) (N := some 26) #[true, true, true, true, true, true, true, false] rfl rfl (one_of HT_.out (by kernel_rfl)) (by decide) (fun K hK => ?_)
  refine value_ (v := .slice (some ⟨g, 0, none⟩) m c) (w1 := W1) (wanted_none rfl) rfl ?hrun ?_
  case hrun =>
    refine exec_append (s := .tmp 22) (x := .tmp 25) ?_ ?_ ?_ ?_ (unhide HAPP)
    all_goals rfl
  clear hHeld
  refine hK.out _ _ trivial (fun hHeld => ?_)
  clear hK K
  refine norm_ (a' := ?_) ?_ ?_
  rotate_left
  · show Act.put _ (some 26) _ = _
    simp only [Act.put, List.setIfInBounds_toArray, List.set_cons_zero, List.set_cons_succ, i64_w, i32_w]
    rfl
  refine pure_ (i := 7) (N := some 0) (v := ?_) (a' := ?_) #[true, true, true, true, true, true, true, true] rfl rfl (any_of HT_.out (by kernel_rfl)) (fun _ _ _ h => h) (Or.inl ⟨by rfl, ?_⟩) ?_ ?_
  rotate_left
  · intro w'
    go_simp
    with_reducible rfl
  rotate_left
  · simp only [Act.put, List.setIfInBounds_toArray, List.set_cons_zero, List.set_cons_succ, i64_w, i32_w]
    rfl
  refine done_ (done_of HT_.out (by kernel_rfl)) ?_
  clear HT_ HW_ hHeld
  have nc : ¬ c = m := by have := unhide HMC; omega
  have hnm : n - m = 1 := by have := unhide HN; omega
  have hcl := unhide HCL
  go_wp2_with fail
  go_ret
  exact ⟨rfl, unhide HLR, unhide HGR⟩
end Go.Proofs.YtgoephcembgmcaaGreatDoor.G
namespace Go.Proofs.YtgoephcembgmcaaGreatDoor.G
open Go.RowKit Go.Maps Go.Proofs.YtgoephcembgmcaaGreatDoorW.PrintWords Go.Proofs.YtgoephcembgmcaaGreatDoorW.PrintLast
/-! What an ask writes; the row of asks grows; a mark is set. -/
/-- Below base nothing turns; behind it only rows of the types ts. -/
structure Fr (base : Nat) (ts : List TypeId) (w w1 : World) : Prop where
  b : Below base w w1
  k : ∀ k, k < w.heap.size → (∀ cells t fz, w.heap[k]? = some (.cells cells t fz) → t ∉ ts) → w1.heap[k]? = w.heap[k]?
theorem Fr.refl (base : Nat) (ts : List TypeId) (w : World) : Fr base ts w w := ⟨Below.refl _ _, fun _ _ _ => rfl⟩
theorem Fr.of_below {base : Nat} {ts : List TypeId} {w w1 : World} (h : Below w.heap.size w w1) (hb : base ≤ w.heap.size) : Fr base ts w w1 := ⟨h.mono hb, fun k hk _ => h.block k hk⟩
theorem Fr.trans {base : Nat} {ts : List TypeId} {w w1 w2 : World} (h : Fr base ts w w1) (h2 : Fr base ts w1 w2) : Fr base ts w w2 :=
  ⟨h.b.trans h2.b, fun k hk hn => by
    have e := h.k k hk hn
    refine (h2.k k (Nat.lt_of_lt_of_le hk h.b.size) (fun cells t fz hc => hn cells t fz (e ▸ hc))).trans e⟩
theorem Fr.more {base : Nat} {ts ts' : List TypeId} {w w1 : World} (h : Fr base ts w w1) (hs : ∀ t ∈ ts, t ∈ ts') : Fr base ts' w w1 := ⟨h.b, fun k hk hn => h.k k hk (fun c t f hc ht => hn c t f hc (hs t ht))⟩
theorem Fr.grown {base : Nat} {ts : List TypeId} {w w1 : World} {v : Value} (h : w.grownBy w1 v.ownBlock) (hb : base ≤ w.heap.size) (hv : ∀ g, v.ownBlock = some g → base ≤ g ∧ ∃ cells t fz, w.heap[g]? = some (.cells cells t fz) ∧ t ∈ ts) : Fr base ts w w1 :=
  ⟨⟨h.os, h.tape, h.output, Nat.le_trans hb h.size |> fun _ => h.size, fun k hk => h.block k (Nat.lt_of_lt_of_le hk hb) (fun e => by have := (hv k e.symm).1; omega)⟩,
   fun k hk hn => h.block k hk (fun e => by obtain ⟨_, cells, t, fz, hc, ht⟩ := hv k e.symm; exact hn cells t fz hc ht)⟩
theorem Fr.set {base : Nat} {ts : List TypeId} {w : World} {a : Addr} {cells : Array Value} {t : TypeId} {fz : Nat × Nat} (u : Value) (hb : base ≤ a.block) (hc : w.heap[a.block]? = some (.cells cells t fz)) (ht : t ∈ ts) : Fr base ts w (w.setCell a u) :=
  ⟨⟨rfl, rfl, rfl, by simp, fun k hk => heap_setCell_other w a k u (by omega)⟩,
   fun k hk hn => heap_setCell_other w a k u (by rintro rfl; exact hn cells t fz hc ht)⟩
theorem LR.fr {w w1 : World} {base base' : Nat} {ts : List TypeId} {v : Value} {zs : List (Ask × Sc)} (h : LR w base v zs) (hf : Fr base' ts w w1) (h1 : 69 ∉ ts) (h2 : 9 ∉ ts) : LR w1 base v zs :=
  h.move fun k _ hlt hq => by
    obtain ⟨cells, q, hq, hc⟩ := hq
    refine hf.k k hlt (fun c t fz hc2 => ?_)
    rw [hc] at hc2
    cases hc2
    rcases hq with rfl | rfl
    · exact h1
    · exact h2
theorem LKat.fr {w w1 : World} {L base' : Nat} {ts : List TypeId} {v : Value} (h : LKat w L v) (hf : Fr base' ts w w1) (h1 : 63 ∉ ts) : LKat w1 L v :=
  (hf.k L h.lt (fun c t fz hc => by rw [h] at hc; cases hc; exact h1)).trans h
theorem LKat.set {w : World} {L : Nat} {v : Value} (h : LKat w L v) (u : Value) : LKat (w.setCell ⟨L, 0, none⟩ u) L u := by
  have h2 := heap_setCell_same w L 0 #[v] 63 u h
  exact h2
theorem setFrom {α : Type} : ∀ (xs : List α) (i : Nat) (h : i < xs.length) (y : α), xs.set i y = xs.take i ++ y :: xs.drop (i + 1)
  | x :: xs, 0, _, y => rfl
  | x :: xs, i + 1, h, y => by rw [List.set_cons_succ, setFrom xs i (by simpa using h) y]; rfl
def mark (z : Ask × Sc) (b : Bool) : Ask × Sc := ((z.1.1, z.1.2.1, b), z.2)
theorem zs_mark (b : Bool) : ∀ (zs : List (Ask × Sc)) (i : Nat) (z : Ask × Sc), zs[i]? = some z → (zs.flatMap zc).set (i * 3 + 2) (.bool b) = (zs.set i (mark z b)).flatMap zc
  | [], i, z, h => by simp at h
  | y :: zs, 0, z, h => by
    obtain rfl : y = z := by simpa using h
    rfl
  | y :: zs, i + 1, z, h => by
    rw [List.set_cons_succ, List.flatMap_cons, List.flatMap_cons, ← zs_mark b zs i z (by simpa using h)]
    rw [show (i + 1) * 3 + 2 = (zc y).length + (i * 3 + 2) from by show _ = 3 + _; omega]
    rw [List.set_append_right _ _ (by omega)]
    congr 2
    omega
section
variable {w : World} {base g n c : Nat} {zs : List (Ask × Sc)}
theorem LR.len (h : LR w base (.slice (some ⟨g, 0, none⟩) n c) zs) : n = zs.length := by
  obtain ⟨A, c', e, _⟩ := h.slice
  cases e
  rfl
theorem LR.typed (h : LR w base (.slice (some ⟨g, 0, none⟩) n c) zs) : base ≤ g ∧ ∃ cells, w.heap[g]? = some (.cells cells 69 (0, 0)) := by
  rcases h.1.2 with ⟨h, _⟩ | ⟨g', cap, cur, hv, hb, hg, _⟩
  · cases h
  · cases hv; exact ⟨hb, cur, hg⟩
theorem LR.lit (h : LR w base (.slice (some ⟨g, 0, none⟩) n c) zs) (i : Nat) (z : Ask × Sc) (hz : zs[i]? = some z) :
    w.cell? ⟨g, i * 3, none⟩ = some (.int .i64 z.1.1) ∧ w.cell? ⟨g, i * 3 + 1, none⟩ = some (slv z.2) ∧ w.cell? ⟨g, i * 3 + 2, none⟩ = some (.bool z.1.2.2) ∧ ∀ l, w.frozen? ⟨g, l, none⟩ = false := by
  obtain ⟨ad, e, k0, k1, k2⟩ := h.at_ i z hz
  cases e
  rw [add_plain] at k0 k1 k2
  have hl := h.len
  subst hl
  exact ⟨k0, k1, k2, fun l => h.1.frozenAt l⟩
theorem LR.setHas (h : LR w base (.slice (some ⟨g, 0, none⟩) n c) zs) (i : Nat) (z : Ask × Sc) (hz : zs[i]? = some z) (b : Bool) : LR (w.setCell ⟨g, i * 3 + 2, none⟩ (.bool b)) base (.slice (some ⟨g, 0, none⟩) n c) (zs.set i (mark z b)) := by
  have hl := h.len
  subst hl
  obtain ⟨h1, h2⟩ := h.1.stored (i * 3 + 2) (.bool b)
  rw [zs_mark b zs i z hz] at h1
  obtain ⟨_, cells, hcs⟩ := h.typed
  refine ⟨by rw [List.length_set]; exact h1, fun y hy => ?_⟩
  obtain ⟨x, hx, e1, e2⟩ : ∃ x ∈ zs, x.2 = y.2 ∧ x.1.2.1 = y.1.2.1 := by
    rcases List.mem_or_eq_of_mem_set hy with hy | rfl
    · exact ⟨y, hy, rfl, rfl⟩
    · exact ⟨z, List.mem_of_getElem? hz, rfl, rfl⟩
  rw [← e1, ← e2]
  exact Kd.R_mono (Kd.R_grown (Kd.R_types (h.2 x hx) hcs no69) h2 (fun k hk e => hk.2 (Option.some.inj e))) (fun _ _ => trivial)
end
theorem wpList_app {P : Program} {ops : Array Oper} {rest : List Oper} {o : Oper} {a : Act} {Q : Exit → Act → World → Prop} {t : TypeId} {W w1 : World} {v u v1 : Value} (hgd : o.guard = none) (s x : Operand)
    (ho : o.op = .call { callee := .builtin .append, args := #[s, x], argTypes := #[t, t] }) (hty : o.type = t) (hs : a.eval s = v) (hx : a.eval x = u)
    (hrun : (Builtin.append_ #[t, t] t #[v, u]).run P W = .ok v1 w1) (h : wpList P ops Q rest (a.put o.dst v1) w1) : wpList P ops Q (o :: rest) a W := by
  refine wpList_plain hgd fun K hK => ?_
  unfold Oper.wp execOp
  simp only [ho, resolve, invoke, builtin, Sem.run_bind, Sem.run_pure, Result.andThen_ok, List.map_toArray, List.map_cons, List.map_nil, hs, hx, hty, hrun]
  exact hK _ _ h
/-- An ask put behind the row. -/
theorem LR.append {w : World} {base : Nat} {v : Value} {zs : List (Ask × Sc)} (h : LR w base v zs) (hb : base ≤ w.heap.size) (hl : zs.length ≤ 1000) (who : Int) (qs : List ByteArray) (s : Sc) (hs : Kd.string.R 9 w base (fun _ => True) (slv s) qs) :
    ∃ g c w1, (Builtin.append_ #[61, 61] 61 #[v, .slice (some ⟨w.heap.size, 0, none⟩) 1 1]).run Tryz.prog (w.alloc (.cells #[.int .i64 who, slv s, .bool false] 69)) = .ok (.slice (some ⟨g, 0, none⟩) (zs.length + 1) c) w1 ∧
      LR w1 base (.slice (some ⟨g, 0, none⟩) (zs.length + 1) c) (zs ++ [((who, qs, false), s)]) ∧ Fr base [69] w w1 := by
  obtain ⟨i0, hi, hz, hsz, hby⟩ := info_parts info69
  have ha := below_alloc (Below.refl w.heap.size w) (.cells #[.int .i64 who, slv s, .bool false] 69)
  have hown := (h.below ha).1
  have hnew := blk_new w (.cells #[.int .i64 who, slv s, .bool false] 69)
  obtain ⟨v1, w1, hr, ho, hg, _, _⟩ := run_append_own_at (P := Tryz.prog) (w := w.alloc (.cells #[.int .i64 who, slv s, .bool false] 69)) base 61 61 69 i0 _ 3 40 Tryz.underlying61 hi hz hsz hby rfl (by decide) v zs.length _ hown
    ⟨w.heap.size, 0, none⟩ 1 1 [.int .i64 who, slv s, .bool false] rfl (fun j u hj => by
      rw [add_plain, blk_cell hnew]
      simpa using hj) (by intro u hu; simp only [List.mem_cons, List.mem_nil_iff, or_false] at hu; rcases hu with rfl | rfl | rfl <;> rfl) (by simp only [maxLen]; omega) (by omega) (by rw [World.size_alloc]; omega)
  have hrow : (zs ++ [((who, qs, false), s)]).flatMap zc = zs.flatMap zc ++ [.int .i64 who, slv s, .bool false] := by rw [List.flatMap_append]; rfl
  rw [← hrow] at ho
  have hty : ∀ k, v.ownBlock = some k → base ≤ k ∧ ∃ cells, w.heap[k]? = some (.cells cells 69 (0, 0)) := by
    intro k hk
    rcases h.1.2 with ⟨rfl, _⟩ | ⟨g, cap, cur, rfl, hb, hg, _⟩
    · cases hk
    · obtain rfl : g = k := Option.some.inj hk
      exact ⟨hb, cur, hg⟩
  have hkeep : ∀ xs (u : Value), Kd.string.R 9 w base (fun _ => True) u xs → Kd.string.R 9 w1 base (fun _ => True) u xs := by
    intro xs u hu
    have h1 := Kd.R_bound (Kd.R_below hu ha)
    refine Kd.R_mono (Kd.R_grown h1 hg (fun k hk e => ?_)) (fun _ _ => trivial)
    obtain ⟨_, _, _, q, hq, cells, hc⟩ := hk
    obtain ⟨_, cells2, hc2⟩ := hty k e.symm
    have hlt := (Array.getElem?_eq_some_iff.1 hc2).1
    rw [ha.block k hlt, hc2] at hc
    cases hc
    exact no69 _ hq rfl
  have hLR : LR w1 base v1 (zs ++ [((who, qs, false), s)]) := by
    refine ⟨by rw [List.length_append]; exact ho, fun z hz => ?_⟩
    rcases List.mem_append.1 hz with hz | hz
    · exact hkeep _ _ (h.2 z hz)
    · rw [List.mem_singleton.1 hz]
      exact hkeep _ _ hs
  have hFr : Fr base [69] w w1 := by
    refine (Fr.of_below ha hb).trans (Fr.grown hg (by rw [World.size_alloc]; omega) (fun g hgv => ?_))
    obtain ⟨h1, cells, h2⟩ := hty g hgv
    exact ⟨h1, cells, 69, (0, 0), (ha.block g (Array.getElem?_eq_some_iff.1 h2).1).trans h2, by simp⟩
  obtain ⟨A, c, rfl, hA, _⟩ := hLR.slice
  obtain ⟨g, rfl, _⟩ := hA (by simp)
  rw [List.length_append] at hr hLR
  exact ⟨g, c, w1, hr, hLR, hFr⟩
end Go.Proofs.YtgoephcembgmcaaGreatDoor.G
namespace Go.Proofs.YtgoephcembgmcaaGreatDoor.G
open Go.RowKit Go.Maps Go.Proofs.YtgoephcembgmcaaGreatDoorW.PrintWords Go.Proofs.YtgoephcembgmcaaGreatDoorW.PrintLast
/-! Locks.Ask. -/
def AskSays (w : World) (base L : Nat) (zs : List (Ask × Sc)) (who : Int) (ps : List ByteArray) (e : Ending) (w' : World) : Prop :=
  Fr base [69, 63] w w' ∧
  ((((∃ z ∈ zs, z.1.1 = who) ∨ zs.length = 64 ∨ 16 < ps.length ∨ ¬ GoodSet ps) ∧ (∃ te pe, e = .returned (.tuple #[.bool false, .iface te pe])) ∧ ∃ v, LKat w' L v ∧ LR w' base v zs) ∨
   ((∀ z ∈ zs, z.1.1 ≠ who) ∧ zs.length ≠ 64 ∧ GoodSet ps ∧ ∃ qs s f v, qs.Perm ps ∧ f = freeAt (zs ++ [((who, qs, false), s)]) zs.length ∧ e = .returned (.tuple #[.bool f, .nilIface]) ∧ LKat w' L v ∧ LR w' base v (zs ++ [((who, qs, f), s)])))
structure FA (w : World) (L g n c i : Nat) : Prop where
  l1 : w.cell? ⟨L, 0, none⟩ = some (.slice (some ⟨g, 0, none⟩) n c)
  k2 : ∃ b, w.cell? ⟨g, i * 3 + 2, none⟩ = some (.bool b)
  z : ∀ l, w.frozen? ⟨g, l, none⟩ = false
theorem FA.of {w : World} {L g n c i base : Nat} {zs : List (Ask × Sc)} {z : Ask × Sc} (h1 : LKat w L (.slice (some ⟨g, 0, none⟩) n c)) (h2 : LR w base (.slice (some ⟨g, 0, none⟩) n c) zs) (hz : zs[i]? = some z) : FA w L g n c i := by
  obtain ⟨_, _, k2, hf⟩ := h2.lit i z hz
  exact ⟨h1.cell, ⟨_, k2⟩, hf⟩
def T6_12 : Bool × List (List Nat × List Nat) := (true, [([], []), ([0], [0]), ([1], [1]), ([2], [2]), ([], []), ([], []), ([], []), ([5, 6], [5, 6]), ([3, 4, 0, 1, 2, 3, 4, 5, 6, 7], [3, 4]), ([8, 0, 1, 2, 3, 4, 5, 6, 7], [8]), ([9, 7, 7, 0, 1, 2, 3, 4, 5, 6, 7], [7, 9])])
def BT6_12 : List Nat := [0, 1, 3, 7, 0, 0, 0, 96, 255, 511, 1023]
theorem tabT6_12 : rtab .any (opsOf Tryz.f6 12) = T6_12 := by kernel_rfl
theorem bitsT6_12 : waitsOk T6_12.2 BT6_12 = true := by kernel_rfl
set_option maxHeartbeats 4000000 in
set_option maxRecDepth 100000 in
theorem ask_ok (L : Nat) (base : Nat) (v : Value) (zs : List (Ask × Sc)) (who : Int) (A : Option Addr) (c : Nat) (ps : List ByteArray) (w : World) (hG : Glob w) (hL : LKat w L v) (hR : LR w base v zs) (hbL : base ≤ L) (hbw : base ≤ w.heap.size) (hl : zs.length ≤ 64) (hok : ∀ z ∈ zs, AskOK z.1)
    (hC : Kd.string.C w A ps.length ps) (hpl : ps.length ≤ 1000) (hps : ∀ p ∈ ps, p.size ≤ 10000) :
    Calls Tryz.prog 6 #[.pointer (some ⟨L, 0, none⟩), .int .i64 who, .slice A ps.length c] w (AskSays w base L zs who ps) := by
  have hfind := find_ok L v base zs who w hL hR (by omega)
  have hset := set_ok A c ps
  obtain ⟨A0, c0, rfl, _, _⟩ := hR.slice
  obtain ⟨n, hn⟩ : ∃ z, z = zs.length := ⟨_, rfl⟩
  obtain ⟨m, hm⟩ : ∃ z, z = ps.length := ⟨_, rfl⟩
  rw [← hm] at hset hC hpl ⊢
  rw [← hn] at hL hR
  have HG := hide hG
  have HL := hide hL
  have HR := hide hR
  have HBL := hide hbL
  have HBW := hide hbw
  have HLE := hide hl
  have HOK := hide hok
  have HC := hide hC
  have HPL := hide hpl
  have HPS := hide hps
  have HN := hide hn
  have HM := hide hm
  have HFIND := hide hfind
  have HSET := hide hset
  have hu63 := Tryz.underlying63
  clear hG hL hR hbL hbw hl hok hC hpl hps hn hm hfind hset
  go_enter Tryz.func6, Tryz.ntmps6
  go_wp2_with fail
  refine (unhide HFIND).mono ?_
  rintro e w1 ⟨⟨r, hr, rfl⟩, hb1⟩
  have B1 := hide hb1
  have L1 := hide ((unhide HL).below hb1)
  have R1 := hide ((unhide HR).below hb1)
  clear hb1 HFIND
  rcases hr with ⟨rfl, hr⟩ | ⟨k, hk, rfl, hpk, _⟩
  rotate_left
  · have d1 : (0 : Int) ≤ (k : Int) := by omega
    have hin : ∃ z ∈ zs, z.1.1 = who := by
      cases hz : zs[k]? with
      | none => simp only [hz] at hpk; cases hpk
      | some z =>
        simp only [hz] at hpk
        exact ⟨z, List.mem_of_getElem? hz, by simpa using hpk⟩
    have HIN := hide hin
    clear hk hpk hin
    go_wp2_with fail
    go_ret2
    exact ⟨Fr.of_below (unhide B1) (unhide HBW), .inl ⟨.inl (unhide HIN), ⟨_, _, rfl⟩, _, unhide L1, unhide R1⟩⟩
  have hno : ∀ z ∈ zs, z.1.1 ≠ who := by
    intro z hz e
    obtain ⟨k, hk⟩ := List.mem_iff_getElem?.1 hz
    have h := hr k (List.getElem?_eq_some_iff.1 hk).1
    simp only [hk] at h
    simp [e] at h
  have HNO := hide hno
  have l1 := (unhide L1).cell
  clear hr hno
  by_cases h64 : n = 64
  · have d2 : ((n : Int) == 64) = true := by rw [beq_iff_eq]; omega
    have H64 := hide h64
    clear h64
    go_wp2_with fail
    go_ret2
    exact ⟨Fr.of_below (unhide B1) (unhide HBW), .inl ⟨.inr (.inl ((unhide HN).symm.trans (unhide H64))), ⟨_, _, rfl⟩, _, unhide L1, unhide R1⟩⟩
  have d2 : ((n : Int) == 64) = false := by rw [beq_eq_false_iff_ne]; omega
  have H64 := hide h64
  clear h64
  by_cases h16 : 16 < m
  · have d3 : (16 : Int) < (m : Int) := by omega
    have H16 := hide h16
    clear h16
    go_wp2_with fail
    go_ret2
    exact ⟨Fr.of_below (unhide B1) (unhide HBW), .inl ⟨.inr (.inr (.inl (by rw [← unhide HM]; exact unhide H16))), ⟨_, _, rfl⟩, _, unhide L1, unhide R1⟩⟩
  have d3 : ¬ (16 : Int) < (m : Int) := by omega
  clear h16
  go_wp2_with fail
  refine ((unhide HSET) w1 ((unhide HG).below (unhide B1)) (Kd.C_below (unhide HC) (unhide B1)) (unhide HPL) (unhide HPS)).mono ?_
  rintro e w2 ⟨hb2, hs2⟩
  have B2 := hide (below_step (unhide B1) hb2)
  have L2 := hide ((unhide L1).below hb2)
  have R2 := hide ((unhide R1).below hb2)
  have B12 := hide (unhide B1).size
  clear hb2 l1 d2 d3
  rcases hs2 with ⟨hng, te, pe, rfl⟩ | ⟨B, mq, dq, qs, rfl, hq, hperm, hgood⟩
  · have HNG := hide hng
    clear hng
    go_wp2_with fail
    go_ret2
    exact ⟨Fr.of_below (unhide B2) (unhide HBW), .inl ⟨.inr (.inr (.inr (unhide HNG))), ⟨_, _, rfl⟩, _, unhide L2, unhide R2⟩⟩
  have HQ : Hid (Kd.string.R 9 w2 base (fun _ => True) (slv (B, mq, dq)) qs) := Kd.R_lower hq (by have := unhide HBW; have := unhide B12; omega)
  have HPERM := hide hperm
  have HGOOD := hide hgood
  clear hq hperm hgood
  obtain ⟨g, cp, w3, hr3, hLR3, hFr3⟩ := (unhide R2).append (by have := unhide HBW; have := (unhide B2).size; omega) (by have := unhide HLE; omega) who qs (B, mq, dq) (unhide HQ)
  have l2 := (unhide L2).cell
  have HR3 := hide hr3
  have LR3 := hide hLR3
  have FR3 := hide hFr3
  have L3 := hide ((unhide L2).fr hFr3 (by decide))
  clear hr3 hLR3 hFr3
  have l3 := (unhide L3).cell
  have z3 : w3.frozen? ⟨L, 0, none⟩ = false := frozen_of_row w3 L 0 _ 63 (unhide L3)
  rw [← unhide HN] at HR3 LR3
  have hw : wrap64 (n : Int) = (n : Int) := by have := unhide HLE; have := unhide HN; unfold wrap64; omega
  have L4 := hide ((unhide L3).set (.slice (some ⟨g, 0, none⟩) (n + 1) cp))
  have F4 : Hid (Fr base [69, 63] w2 (w3.setCell ⟨L, 0, none⟩ (.slice (some ⟨g, 0, none⟩) (n + 1) cp))) := ((unhide FR3).more (by simp)).trans (Fr.set (cells := _) (fz := (0, 0)) (t := 63) _ (unhide HBL) (unhide L3) (by simp))
  have R4 : Hid (LR (w3.setCell ⟨L, 0, none⟩ (.slice (some ⟨g, 0, none⟩) (n + 1) cp)) base (.slice (some ⟨g, 0, none⟩) (n + 1) cp) (zs ++ [((who, qs, false), (B, mq, dq))])) := (unhide LR3).fr (Fr.set (base := base) (ts := [63]) (cells := _) (fz := (0, 0)) (t := 63) _ (unhide HBL) (unhide L3) (by simp)) (by decide) (by decide)
  have l4 := (unhide L4).cell
  go_wp2_with (at_builtin; refine unhide ?_)
  refine hide ?_
  refine wpList_app rfl (.tmp 42) (.tmp 46) rfl rfl rfl rfl (unhide HR3) ?_
  go_wp2_with fail
  generalize w3.setCell ⟨L, 0, none⟩ (.slice (some ⟨g, 0, none⟩) (n + 1) cp) = w4 at L4 F4 R4 l4 ⊢
  rw [hw]
  clear l2 l3 l4 z3 hw HR3
  obtain ⟨zs2, hzs2⟩ : ∃ z, z = zs ++ [((who, qs, false), (B, mq, dq))] := ⟨_, rfl⟩
  rw [← hzs2] at R4
  have hz2 : zs2[n]? = some ((who, qs, false), (B, mq, dq)) := by rw [hzs2, unhide HN]; simp
  have hl2 : zs2.length = n + 1 := by rw [hzs2, unhide HN]; simp
  have hok2 : ∀ z ∈ zs2, AskOK z.1 := by
    intro z hz
    rw [hzs2] at hz
    rcases List.mem_append.1 hz with hz | hz
    · exact unhide HOK z hz
    · rw [List.mem_singleton.1 hz]
      exact ⟨by rw [show ((who, qs, false), ((B, mq, dq) : Sc)).1.2.1 = qs from rfl, (unhide HPERM).length_eq, ← unhide HM]; exact unhide HPL, fun p hp => unhide HPS p ((unhide HPERM).mem_iff.1 hp)⟩
  have HZS2 := hide hzs2
  have HZ2 := hide hz2
  have d5 : (n : Int) < ((n : Int) + 1) := by omega
  have HFREE := fun W (h1 : LKat W L (.slice (some ⟨g, 0, none⟩) (n + 1) cp)) (h2 : LR W base (.slice (some ⟨g, 0, none⟩) (n + 1) cp) zs2) => free_ok L n base _ zs2 W h1 h2 (by omega) (by have := unhide HLE; have := unhide HN; omega) hok2
  obtain ⟨f, hf⟩ : ∃ z, z = freeAt zs2 n := ⟨_, rfl⟩
  rw [← hf] at HFREE
  have HF := hide hf
  have HFR := hide HFREE
  have hu61 := Tryz.underlying61
  have hu69 := Tryz.underlying69
  clear hzs2 hz2 hl2 hok2 hf HFREE
  refine start_ (n := 11) (S := fun w' => FA w' L g (n + 1) cp n) (ds := [10]) #[false, false, false, false, false, false, false, false, false, false, false] (by kernel_rfl) rfl rfl (FA.of (unhide L4) (unhide R4) (unhide HZ2)) (fun hHeld => ?_)
  refine with_tabW tabT6_12 bitsT6_12 (fun HT_ HW_ => ?_)
  refine pure_ (i := 0) (N := some 56) (v := ?_) (a' := ?_) #[true, false, false, false, false, false, false, false, false, false, false] rfl rfl (any_of HT_.out (by kernel_rfl)) (fun _ _ _ h => h) (Or.inl ⟨by rfl, ?_⟩) ?_ ?_
  rotate_left
  · intro w'
    go_simp
    with_reducible rfl
  rotate_left
  · simp only [Act.put, List.setIfInBounds_toArray, List.set_cons_zero, List.set_cons_succ, i64_w, i32_w]
    rfl
  refine pure_ (i := 1) (N := some 57) (v := ?_) (a' := ?_) #[true, true, false, false, false, false, false, false, false, false, false] rfl rfl (any_of HT_.out (by kernel_rfl)) (fun _ _ _ h => h) (Or.inl ⟨by rfl, ?_⟩) ?_ ?_
  rotate_left
  · intro w'
    go_simp
    with_reducible rfl
  rotate_left
  · simp only [Act.put, List.setIfInBounds_toArray, List.set_cons_zero, List.set_cons_succ, i64_w, i32_w]
    rfl
  refine pure_ (i := 2) (N := some 58) (v := ?_) (a' := ?_) #[true, true, true, false, false, false, false, false, false, false, false] rfl rfl (any_of HT_.out (by kernel_rfl)) (fun _ _ _ h => h) (Or.inl ⟨by rfl, ?_⟩) ?_ ?_
  rotate_left
  · intro w'
    go_simp
    with_reducible rfl
  rotate_left
  · simp only [Act.put, List.setIfInBounds_toArray, List.set_cons_zero, List.set_cons_succ, i64_w, i32_w]
    rfl
  refine take_ (i := 3) (N := some 59) (v := ?_) (a' := ?_) #[true, true, true, true, false, false, false, false, false, false, false] rfl rfl (take_ofW HT_.out HW_.out (by kernel_rfl)) (fun _ _ _ h => h) (Or.inl ⟨by rfl, ?_⟩) hHeld ?_ ?_
  rotate_left
  · rintro w' h1_
    obtain ⟨l1_, ⟨b_, k2_⟩, f_⟩ := h1_
    have f2_ := f_ (n * 3 + 2)
    go_simp
    with_reducible rfl
  rotate_left
  · simp only [Act.put, List.setIfInBounds_toArray, List.set_cons_zero, List.set_cons_succ, i64_w, i32_w]
    rfl
  refine pure_ (i := 4) (N := some 60) (v := ?_) (a' := ?_) #[true, true, true, true, true, false, false, false, false, false, false] rfl rfl (any_of HT_.out (by kernel_rfl)) (fun _ _ _ h => h) (Or.inl ⟨by rfl, ?_⟩) ?_ ?_
  rotate_left
  · intro w'
    go_simp
    with_reducible rfl
  rotate_left
  · simp only [Act.put, List.setIfInBounds_toArray, List.set_cons_zero, List.set_cons_succ, i64_w, i32_w]
    rfl
  refine pure_ (i := 5) (N := some 61) (v := ?_) (a' := ?_) #[true, true, true, true, true, true, false, false, false, false, false] rfl rfl (any_of HT_.out (by kernel_rfl)) (fun _ _ _ h => h) (Or.inl ⟨by rfl, ?_⟩) ?_ ?_
  rotate_left
  · intro w'
    go_simp
    with_reducible rfl
  rotate_left
  · simp only [Act.put, List.setIfInBounds_toArray, List.set_cons_zero, List.set_cons_succ, i64_w, i32_w]
    rfl
  refine pure_ (i := 6) (N := some 62) (v := ?_) (a' := ?_) #[true, true, true, true, true, true, true, false, false, false, false] rfl rfl (any_of HT_.out (by kernel_rfl)) (fun _ _ _ h => h) (Or.inl ⟨by rfl, ?_⟩) ?_ ?_
  rotate_left
  · intro w'
    go_simp
    with_reducible rfl
  rotate_left
  · simp only [Act.put, List.setIfInBounds_toArray, List.set_cons_zero, List.set_cons_succ, i64_w, i32_w]
    rfl
  refine one_ (i := 7) (N := some 63) #[true, true, true, true, true, true, true, true, false, false, false] rfl rfl (one_of HT_.out (by kernel_rfl)) (by decide) (fun K hK => ?_)
  refine goes_ Tryz.func21 (by kernel_rfl) rfl #[.pointer (some ⟨L, 0, none⟩), .int .i64 (n : Int)] (by rfl) rfl rfl (by (try simp only [List.map_toArray, List.map_cons, List.map_nil]); first | done | rfl) ?_
  refine (unhide HFR _ ((unhide L4).below (below_drew (Below.refl _ _))) ((unhide R4).below (below_drew (Below.refl _ _)))).mono ?_
  rintro e w5 ⟨rfl, hb5⟩
  refine ⟨_, rfl, ?_⟩
  have hb5 := below_step (below_drew (Below.refl w4.heap.size w4)) hb5
  have L5 := hide ((unhide L4).below hb5)
  have R5 := hide ((unhide R4).below hb5)
  have B5 := hide hb5
  clear hb5
  clear hHeld
  refine hK.out _ _ (FA.of (unhide L5) (unhide R5) (unhide HZ2)) (fun hHeld => ?_)
  clear hK K
  refine norm_ (a' := ?_) ?_ ?_
  rotate_left
  · show Act.put _ (some 63) _ = _
    simp only [Act.put, List.setIfInBounds_toArray, List.set_cons_zero, List.set_cons_succ, i64_w, i32_w]
    rfl
  refine pure_ (i := 8) (N := some 64) (v := ?_) (a' := ?_) #[true, true, true, true, true, true, true, true, true, false, false] rfl rfl (any_of HT_.out (by kernel_rfl)) (fun _ _ _ h => h) (Or.inl ⟨by rfl, ?_⟩) ?_ ?_
  rotate_left
  · intro w'
    go_simp
    with_reducible rfl
  rotate_left
  · simp only [Act.put, List.setIfInBounds_toArray, List.set_cons_zero, List.set_cons_succ, i64_w, i32_w]
    rfl
  refine pure_ (i := 9) (N := some 65) (v := ?_) (a' := ?_) #[true, true, true, true, true, true, true, true, true, true, false] rfl rfl (any_of HT_.out (by kernel_rfl)) (fun _ _ _ h => h) (Or.inl ⟨by rfl, ?_⟩) ?_ ?_
  rotate_left
  · intro w'
    go_simp
    with_reducible rfl
  rotate_left
  · simp only [Act.put, List.setIfInBounds_toArray, List.set_cons_zero, List.set_cons_succ, i64_w, i32_w]
    rfl
  refine last_ (i := 10) (N := none) #[true, true, true, true, true, true, true, true, true, true, true] rfl rfl (one_of HT_.out (by kernel_rfl)) (by decide) (fun K hK => ?_)
  have h1_ := FA.of (unhide L5) (unhide R5) (unhide HZ2)
  obtain ⟨l1_, ⟨b_, k2_⟩, f_⟩ := h1_
  have f2_ := f_ (n * 3 + 2)
  refine skip_ (w1 := w5.setCell ⟨g, n * 3 + 2, none⟩ (.bool f)) (wanted_none rfl) rfl ?hrun ?_
  case hrun =>
    go_simp
  refine hK.out _ _ ?_
  clear hK K
  refine done_ (done_of HT_.out (by kernel_rfl)) ?_
  clear HT_ HW_; (try clear hHeld)
  obtain ⟨hgb, cells, hgc⟩ := (unhide R5).typed
  have F56 : Fr base [69] w5 (w5.setCell ⟨g, n * 3 + 2, none⟩ (.bool f)) := Fr.set (cells := cells) (fz := (0, 0)) (t := 69) _ hgb hgc (by simp)
  have L6 := hide ((unhide L5).fr F56 (by decide))
  have hR6 := (unhide R5).setHas n _ (unhide HZ2) f
  have hzz : zs2.set n (mark ((who, qs, false), (B, mq, dq)) f) = zs ++ [((who, qs, f), (B, mq, dq))] := by
    rw [unhide HZS2, unhide HN, List.set_append_right _ _ (Nat.le_refl _), Nat.sub_self]
    rfl
  rw [hzz] at hR6
  have R6 := hide hR6
  have F06 : Hid (Fr base [69, 63] w (w5.setCell ⟨g, n * 3 + 2, none⟩ (.bool f))) := ((Fr.of_below (unhide B2) (unhide HBW)).trans (unhide F4)).trans ((Fr.of_below (unhide B5) (by have := (unhide F4).b.size; have := (unhide B2).size; have := unhide HBW; omega)).trans (F56.more (by simp)))
  have l6 := (unhide L6).cell
  have hz6 : (zs ++ [((who, qs, f), ((B, mq, dq) : Sc))])[n]? = some ((who, qs, f), (B, mq, dq)) := by rw [unhide HN]; simp
  obtain ⟨k0, _, k2, _⟩ := (unhide R6).lit n _ hz6
  clear hgb hgc F56 hzz hR6 hz6 R5 L5 R4 L4 k0
  go_wp2_with fail
  go_ret2
  refine ⟨unhide F06, .inr ⟨unhide HNO, by rw [← unhide HN]; exact unhide H64, unhide HGOOD, qs, (B, mq, dq), f, _, unhide HPERM, ?_, rfl, unhide L6, unhide R6⟩⟩
  rw [unhide HF, unhide HZS2, unhide HN]
end Go.Proofs.YtgoephcembgmcaaGreatDoor.G
namespace Go.Proofs.YtgoephcembgmcaaGreatDoor.G
open Go.RowKit Go.Maps Go.Proofs.YtgoephcembgmcaaGreatDoorW.PrintWords Go.Proofs.YtgoephcembgmcaaGreatDoorW.PrintLast
/-! Rows of ints; the marks that a release sets, and the list of those who got their lock. -/
theorem info3 : (Tryz.prog.info? 3).map (fun i => (i.zero, i.size, i.bytes)) = some (some (.int .i64 0), 1, 8) := by kernel_rfl
def IR (w : World) (base : Nat) (v : Value) (xs : List Int) : Prop := w.ownsRow base 3 1 v xs.length (xs.map (Value.int .i64))
theorem IR.nil (w : World) (base : Nat) : IR w base (.slice none 0 0) [] := World.ownsRow_nil _ _ _ _
theorem IR.typed {w : World} {base : Nat} {v : Value} {xs : List Int} (h : IR w base v xs) : ∀ g, v.ownBlock = some g → base ≤ g ∧ ∃ cells, w.heap[g]? = some (.cells cells 3 (0, 0)) := by
  intro k hk
  rcases h.2 with ⟨rfl, _⟩ | ⟨g, cap, cur, rfl, hb, hg, _⟩
  · cases hk
  · obtain rfl : g = k := Option.some.inj hk
    exact ⟨hb, cur, hg⟩
theorem IR.lt {w : World} {base : Nat} {v : Value} {xs : List Int} (h : IR w base v xs) : ∀ g, v.ownBlock = some g → g < w.heap.size := fun g hg => (Array.getElem?_eq_some_iff.1 (h.typed g hg).2.choose_spec).1
theorem IR.slice {w : World} {base : Nat} {v : Value} {xs : List Int} (h : IR w base v xs) : ∃ A c, v = .slice A xs.length c ∧ xs.length ≤ c := by
  rcases h.2 with ⟨hv, h0⟩ | ⟨g, cap, cur, rfl, hb, hg, hc, _⟩
  · exact ⟨none, 0, by rw [h0]; exact hv, by omega⟩
  · exact ⟨_, cap, rfl, hc⟩
theorem IR.below {w w1 : World} {base : Nat} {v : Value} {xs : List Int} (h : IR w base v xs) (hb : Below w.heap.size w w1) : IR w1 base v xs := owns_block h (fun k hk => hb.block k (h.lt k hk))
theorem IR.fr {w w1 : World} {base base' : Nat} {ts : List TypeId} {v : Value} {xs : List Int} (h : IR w base v xs) (hf : Fr base' ts w w1) (h3 : 3 ∉ ts) : IR w1 base v xs :=
  owns_block h (fun k hk => hf.k k (h.lt k hk) (fun cells t fz hc => by
    obtain ⟨_, c2, hc2⟩ := h.typed k hk
    rw [hc2] at hc
    cases hc
    exact h3))
theorem IR.append {w : World} {base : Nat} {v : Value} {xs : List Int} (h : IR w base v xs) (hb : base ≤ w.heap.size) (hl : xs.length ≤ 1000) (x : Int) :
    ∃ A c w1, (Builtin.append_ #[32, 32] 32 #[v, .slice (some ⟨w.heap.size, 0, none⟩) 1 1]).run Tryz.prog (w.alloc (.cells #[.int .i64 x] 3)) = .ok (.slice A (xs.length + 1) c) w1 ∧ IR w1 base (.slice A (xs.length + 1) c) (xs ++ [x]) ∧ w.grownBy w1 v.ownBlock := by
  obtain ⟨i0, hi, hz, hsz, hby⟩ := info_parts info3
  have ha := below_alloc (Below.refl w.heap.size w) (.cells #[.int .i64 x] 3)
  have hown := h.below ha
  have hnew := blk_new w (.cells #[.int .i64 x] 3)
  obtain ⟨v1, w1, hr, ho, hg, _, _⟩ := run_append_own_at (P := Tryz.prog) (w := w.alloc (.cells #[.int .i64 x] 3)) base 32 32 3 i0 _ 1 8 Tryz.underlying32 hi hz hsz hby rfl (by decide) v xs.length _ hown
    ⟨w.heap.size, 0, none⟩ 1 1 [.int .i64 x] rfl (fun j u hj => by
      rw [add_plain, blk_cell hnew]
      simpa using hj) (by intro u hu; simp only [List.mem_cons, List.mem_nil_iff, or_false] at hu; subst hu; rfl) (by simp only [maxLen]; omega) (by omega) (by rw [World.size_alloc]; omega)
  have hI : IR w1 base v1 (xs ++ [x]) := by
    unfold IR
    rw [List.length_append, List.map_append]
    exact ho
  obtain ⟨A, c, rfl, _⟩ := hI.slice
  rw [List.length_append] at hr hI
  exact ⟨A, c, w1, hr, hI, hg.os.trans ha.os, hg.tape.trans ha.tape, hg.output.trans ha.output, Nat.le_trans ha.size hg.size, fun k hk hne => (hg.block k (Nat.lt_of_lt_of_le hk ha.size) hne).trans (ha.block k hk)⟩
/-- A row of its own is written, all of it made since. -/
theorem Fr.step {base : Nat} {ts : List TypeId} {w wr w1 : World} {row : Option Nat} (h : Fr base ts w wr) (hg : wr.grownBy w1 row) (hr : ∀ g, row = some g → w.heap.size ≤ g) (hb : base ≤ w.heap.size) : Fr base ts w w1 := by
  refine ⟨h.b.trans ⟨hg.os, hg.tape, hg.output, hg.size, fun k hk => hg.block k (Nat.lt_of_lt_of_le hk (Nat.le_trans hb h.b.size)) (fun e => by have := hr k e.symm; omega)⟩, fun k hk hn => ?_⟩
  exact (hg.block k (Nat.lt_of_lt_of_le hk h.b.size) (fun e => by have := hr k e.symm; omega)).trans (h.k k hk hn)
theorem LR.grown {w w1 : World} {base b2 : Nat} {v u : Value} {zs : List (Ask × Sc)} {xs : List Int} (h : LR w base v zs) (hi : IR w b2 u xs) (hg : w.grownBy w1 u.ownBlock) : LR w1 base v zs :=
  h.move fun k _ hlt hq => hg.block k hlt (fun e => by
    obtain ⟨cells, q, hq, hc⟩ := hq
    obtain ⟨_, c2, hc2⟩ := hi.typed k e.symm
    rw [hc2] at hc
    cases hc
    rcases hq with hq | hq <;> exact absurd hq (by decide))
theorem LKat.grown {w w1 : World} {L b2 : Nat} {v u : Value} {xs : List Int} (h : LKat w L v) (hi : IR w b2 u xs) (hg : w.grownBy w1 u.ownBlock) : LKat w1 L v :=
  (hg.block L h.lt (fun e => by
    obtain ⟨_, c2, hc2⟩ := hi.typed L e.symm
    rw [h] at hc2
    cases hc2)).trans h
/-- The marks behind i steps. -/
def marks (zs : List (Ask × Sc)) (i : Nat) : List (Ask × Sc) := zs.mapIdx fun j z => if j < i then mark z (z.1.2.2 || freeAt zs j) else z
theorem marks_len (zs : List (Ask × Sc)) (i : Nat) : (marks zs i).length = zs.length := by unfold marks; rw [List.length_mapIdx]
theorem marks_get (zs : List (Ask × Sc)) (i j : Nat) (z : Ask × Sc) (h : zs[j]? = some z) : (marks zs i)[j]? = some (if j < i then mark z (z.1.2.2 || freeAt zs j) else z) := by unfold marks; rw [List.getElem?_mapIdx, h]; rfl
theorem marks_zero (zs : List (Ask × Sc)) : marks zs 0 = zs := by
  apply List.ext_getElem?
  intro j
  unfold marks
  rw [List.getElem?_mapIdx]
  cases zs[j]? <;> simp
theorem mark_self (z : Ask × Sc) : mark z z.1.2.2 = z := rfl
theorem marks_set (zs : List (Ask × Sc)) (i : Nat) (z : Ask × Sc) (h : zs[i]? = some z) : marks zs (i + 1) = (marks zs i).set i (mark z (z.1.2.2 || freeAt zs i)) := by
  apply List.ext_getElem?
  intro j
  rw [List.getElem?_set]
  by_cases e : i = j
  · subst e
    rw [if_pos rfl, marks_get _ _ _ _ h, marks_len, if_pos (by omega), if_pos (List.getElem?_eq_some_iff.1 h).1]
  · rw [if_neg e]
    unfold marks
    rw [List.getElem?_mapIdx, List.getElem?_mapIdx]
    cases zs[j]? with
    | none => rfl
    | some y =>
      simp only [Option.map_some]
      by_cases hj : j < i
      · rw [if_pos hj, if_pos (by omega)]
      · rw [if_neg hj, if_neg (by omega)]
theorem marks_same (zs : List (Ask × Sc)) (i : Nat) (z : Ask × Sc) (h : zs[i]? = some z) (hs : (!z.1.2.2 && freeAt zs i) = false) : marks zs (i + 1) = marks zs i := by
  rw [marks_set zs i z h]
  have e : (z.1.2.2 || freeAt zs i) = z.1.2.2 := by revert hs; cases z.1.2.2 <;> simp
  rw [e, mark_self]
  apply List.ext_getElem?
  intro j
  rw [List.getElem?_set]
  by_cases hj : i = j
  · subst hj
    rw [if_pos rfl, marks_get _ _ _ _ h, marks_len, if_neg (Nat.lt_irrefl _), if_pos (List.getElem?_eq_some_iff.1 h).1]
  · rw [if_neg hj]
theorem meetAt_marks (zs : List (Ask × Sc)) (i k j : Nat) : meetAt (marks zs i) k j = meetAt zs k j := by
  unfold meetAt marks
  rw [List.getElem?_mapIdx, List.getElem?_mapIdx]
  cases zs[j]? with
  | none => rfl
  | some x =>
    cases zs[k]? with
    | none => rfl
    | some y =>
      simp only [Option.map_some]
      have h : ∀ (a : Nat) (z : Ask × Sc), (if a < i then mark z (z.1.2.2 || freeAt zs a) else z).1.2.1 = z.1.2.1 := fun a z => by split <;> rfl
      rw [h, h]
theorem freeAt_marks (zs : List (Ask × Sc)) (i k : Nat) : freeAt (marks zs i) k = freeAt zs k := by
  unfold freeAt
  rw [show meetAt (marks zs i) k = meetAt zs k from funext (meetAt_marks zs i k)]
theorem marks_ok (zs : List (Ask × Sc)) (i : Nat) (h : ∀ z ∈ zs, AskOK z.1) : ∀ z ∈ marks zs i, AskOK z.1 := by
  intro z hz
  obtain ⟨j, hj⟩ := List.mem_iff_getElem?.1 hz
  cases hx : zs[j]? with
  | none =>
    unfold marks at hj
    rw [List.getElem?_mapIdx, hx] at hj
    cases hj
  | some x =>
    rw [marks_get _ _ _ _ hx] at hj
    have ho := h x (List.mem_of_getElem? hx)
    rw [← Option.some.inj hj]
    split <;> exact ho
/-- Those who got their lock in the first i steps. -/
def readies (zs : List (Ask × Sc)) : Nat → List Int
  | 0 => []
  | i + 1 => readies zs i ++ (match zs[i]? with | some z => if !z.1.2.2 && freeAt zs i then [z.1.1] else [] | none => [])
theorem readies_len (zs : List (Ask × Sc)) : ∀ i, (readies zs i).length ≤ i
  | 0 => Nat.le_refl _
  | i + 1 => by
    rw [readies, List.length_append]
    have := readies_len zs i
    cases zs[i]? with
    | none => simp; omega
    | some z => simp only; split <;> simp <;> omega
end Go.Proofs.YtgoephcembgmcaaGreatDoor.G
namespace Go.Proofs.YtgoephcembgmcaaGreatDoor.G
open Go.RowKit Go.Maps Go.Proofs.YtgoephcembgmcaaGreatDoorW.PrintWords Go.Proofs.YtgoephcembgmcaaGreatDoorW.PrintLast
/-! Locks.Release. -/
def whoAt (zs : List (Ask × Sc)) (who : Int) (j : Nat) : Bool := match zs[j]? with | some z => z.1.1 == who | none => false
def RelSays (w : World) (base L : Nat) (zs : List (Ask × Sc)) (who : Int) (e : Ending) (w' : World) : Prop :=
  Fr base [69, 63] w w' ∧
  (((∀ z ∈ zs, z.1.1 ≠ who) ∧ e = .returned (.tuple #[.slice none 0 0, .int .i64 4]) ∧ ∃ v, LKat w' L v ∧ LR w' base v zs) ∨
   ∃ k v u, k < zs.length ∧ whoAt zs who k = true ∧ (∀ j, j < k → whoAt zs who j = false) ∧ e = .returned (.tuple #[u, .int .i64 0]) ∧ LKat w' L v ∧ LR w' base v (marks (zs.eraseIdx k) (zs.length - 1)) ∧ IR w' w.heap.size u (readies (zs.eraseIdx k) (zs.length - 1)))
set_option maxHeartbeats 4000000 in
set_option maxRecDepth 100000 in
theorem release_ok (L : Nat) (base : Nat) (v : Value) (zs : List (Ask × Sc)) (who : Int) (w : World) (hL : LKat w L v) (hR : LR w base v zs) (hbL : base ≤ L) (hbw : base ≤ w.heap.size) (hl : zs.length ≤ 64) (hok : ∀ z ∈ zs, AskOK z.1) :
    Calls Tryz.prog 7 #[.pointer (some ⟨L, 0, none⟩), .int .i64 who] w (RelSays w base L zs who) := by
  have hfind := find_ok L v base zs who w hL hR (by omega)
  obtain ⟨A0, c0, rfl, hA0, _⟩ := hR.slice
  obtain ⟨n, hn⟩ : ∃ z, z = zs.length := ⟨_, rfl⟩
  rw [← hn] at hL hR hA0
  have HL := hide hL
  have HR := hide hR
  have HBL := hide hbL
  have HBW := hide hbw
  have HLE := hide hl
  have HOK := hide hok
  have HN := hide hn
  have HA0 := hide hA0
  have HFIND := hide hfind
  have hu63 := Tryz.underlying63
  clear hL hR hbL hbw hl hok hn hfind hA0
  go_enter Tryz.func7, Tryz.ntmps7
  go_wp2_with fail
  refine (unhide HFIND).mono ?_
  rintro e w1 ⟨⟨r, hr, rfl⟩, hb1⟩
  have B1 := hide hb1
  have L1 := hide ((unhide HL).below hb1)
  have R1 := hide ((unhide HR).below hb1)
  have l1 := (unhide L1).cell
  clear hb1 HFIND
  rcases hr with ⟨rfl, hr⟩ | ⟨k, hk, rfl, hpk, hpj⟩
  · have hno : ∀ z ∈ zs, z.1.1 ≠ who := by
      intro z hz e
      obtain ⟨k, hk⟩ := List.mem_iff_getElem?.1 hz
      have h := hr k (List.getElem?_eq_some_iff.1 hk).1
      simp only [hk] at h
      simp [e] at h
    have HNO := hide hno
    clear hr hno
    go_wp2_with fail
    go_ret2
    exact ⟨Fr.of_below (unhide B1) (unhide HBW), .inl ⟨unhide HNO, rfl, _, unhide L1, unhide R1⟩⟩
  have d1 : ¬ (k : Int) < 0 := by omega
  rw [← unhide HN] at hk
  obtain ⟨g, rfl, hg⟩ := unhide HA0 (by omega)
  have HWK : Hid (whoAt zs who k = true) := hpk
  have HWJ : Hid (∀ j, j < k → whoAt zs who j = false) := hpj
  obtain ⟨m, hm⟩ : ∃ m, n = m + 1 := ⟨n - 1, by omega⟩
  have hw : wrap64 ((k : Int) + 1) = ((k + 1 : Nat) : Int) := by have := unhide HLE; have := unhide HN; unfold wrap64; omega
  have hdel := delete_ok g c0 k (k + 1) m n base zs w1 rfl hm (by rw [← unhide HN]; exact hm) (unhide R1) (by omega) (by have := unhide HLE; have := unhide HN; omega)
  have HDEL := hide hdel
  have HM := hide hm
  have HK := hide hk
  clear hdel hk hpk hpj hg
  clear hm
  go_wp2_with fail
  rw [hw]
  refine (unhide HDEL).mono ?_
  rintro e w2 ⟨rfl, hR2, hG2⟩
  clear hw l1 d1 HDEL
  obtain ⟨hgb, cells1, hgc⟩ := (unhide R1).typed
  have hLg : L ≠ g := by
    rintro rfl
    have h := unhide L1
    unfold LKat at h
    rw [hgc] at h
    cases h
  have hL2 : LKat w2 L (.slice (some ⟨g, 0, none⟩) n c0) := (hG2.block L (unhide L1).lt (fun e => hLg (Option.some.inj e))).trans (unhide L1)
  have hF12 : Fr base [69, 63] w1 w2 := Fr.grown (v := .slice (some ⟨g, 0, none⟩) n c0) hG2 (by have := unhide HBW; have := (unhide B1).size; omega) (fun g' hg' => by
    obtain rfl : g = g' := Option.some.inj hg'
    exact ⟨hgb, cells1, 69, (0, 0), hgc, by simp⟩)
  have L3 := hide (hL2.set (.slice (some ⟨g, 0, none⟩) m c0))
  have hF23 : Fr base [63] w2 (w2.setCell ⟨L, 0, none⟩ (.slice (some ⟨g, 0, none⟩) m c0)) := Fr.set (cells := _) (fz := (0, 0)) (t := 63) _ (unhide HBL) hL2 (by simp)
  have R3 := hide (hR2.fr hF23 (by decide) (by decide))
  have F3 := hide (((Fr.of_below (ts := [69, 63]) (unhide B1) (unhide HBW)).trans hF12).trans (hF23.more (by simp)))
  have l2 := hL2.cell
  have z2 : w2.frozen? ⟨L, 0, none⟩ = false := frozen_of_row w2 L 0 _ 63 hL2
  have l3 := (unhide L3).cell
  obtain ⟨zs1, hzs1⟩ : ∃ z, z = zs.eraseIdx k := ⟨_, rfl⟩
  rw [← hzs1] at R3
  have HZS1 := hide hzs1
  have hl1 : zs1.length = m := by
    rw [hzs1, List.length_eraseIdx_of_lt (by have := unhide HK; have := unhide HN; omega)]
    have := unhide HM
    have := unhide HN
    omega
  have HL1 := hide hl1
  have hok1 : ∀ z ∈ zs1, AskOK z.1 := fun z hz => unhide HOK z (List.mem_of_mem_eraseIdx (by rw [← hzs1]; exact hz))
  have HOK1 := hide hok1
  clear hzs1 hl1 hok1 hR2 hG2 hgb hgc hLg hL2 hF12 hF23
  go_wp2_with fail
  generalize w2.setCell ⟨L, 0, none⟩ (.slice (some ⟨g, 0, none⟩) m c0) = w3 at L3 R3 F3 l3 ⊢
  clear l2 z2 l3
  go_loopg [7, 31] m (fun kq v7 v31 wr => ∃ (i : Nat) (A : Option Addr) (q d : Nat), v31 = .int .i64 (i : Int) ∧ v7 = .slice A q d ∧ Hid (i + kq = m) ∧ Hid (Fr base [69, 63] w wr) ∧ Hid (LKat wr L (.slice (some ⟨g, 0, none⟩) m c0)) ∧ Hid (LR wr base (.slice (some ⟨g, 0, none⟩) m c0) (marks zs1 i)) ∧ Hid (IR wr w.heap.size (.slice A q d) (readies zs1 i)))
  case atStart => exact ⟨0, none, 0, 0, rfl, rfl, Nat.zero_add _, unhide F3, unhide L3, (by rw [marks_zero]; exact unhide R3), IR.nil _ _⟩
  case round =>
    obtain ⟨i, A, q, d, rfl, rfl, HI, FW, LW, RW, IW⟩ := hrel
    by_cases hlt : i < m
    · have d2 : (i : Int) < (m : Int) := by omega
      obtain ⟨z, hz⟩ : ∃ z, zs1[i]? = some z := ⟨_, List.getElem?_eq_getElem (by have := unhide HL1; omega)⟩
      have hmz := marks_get zs1 i i z hz
      rw [if_neg (Nat.lt_irrefl i)] at hmz
      obtain ⟨k0, _, k2, hfz⟩ := (unhide RW).lit i z hmz
      have lw := (unhide LW).cell
      have HZ := hide hz
      have HLT := hide hlt
      have HMZ := hide hmz
      clear hz hmz hlt
      cases hb : z.1.2.2 with
      | true =>
        rw [hb] at k2
        have HS := hide (marks_same zs1 i z (unhide HZ) (by rw [hb]; rfl))
        have HRS : Hid (readies zs1 (i + 1) = readies zs1 i) := by show _ = _; rw [readies, unhide HZ]; simp [hb]
        clear hb hfz
        go_wp2_with fail
        go_roundg (gk - 1)
        case measure => have := unhide HI; have := unhide HLT; omega
        case rel => exact ⟨i + 1, A, q, d, congrArg (Value.int .i64) (by have := unhide HLE; have := unhide HN; have := unhide HM; have := unhide HLT; (try unfold wrap64); omega), rfl, (by have := unhide HI; have := unhide HLT; show _ = _; omega), FW, LW, (by rw [unhide HS]; exact unhide RW), (by rw [unhide HRS]; exact unhide IW)⟩
      | false =>
        rw [hb] at k2
        have hfree := free_ok L i base _ (marks zs1 i) wr (unhide LW) (unhide RW) (by rw [marks_len, unhide HL1]; exact unhide HLT) (by rw [marks_len, unhide HL1]; have := unhide HLE; have := unhide HN; have := unhide HM; omega) (marks_ok zs1 i (unhide HOK1))
        rw [freeAt_marks] at hfree
        have HB := hide hb
        clear hb
        go_wp2_with fail
        refine hfree.mono ?_
        rintro e w5 ⟨rfl, hb5⟩
        have F5 := hide ((unhide FW).trans (Fr.of_below (ts := [69, 63]) hb5 (by have := (unhide FW).b.size; have := unhide HBW; omega)))
        have L5 := hide ((unhide LW).below hb5)
        have R5 := hide ((unhide RW).below hb5)
        have I5 := hide ((unhide IW).below hb5)
        clear hfree hb5 k0 k2 hfz lw
        cases hf : freeAt zs1 i with
        | false =>
          have HS := hide (marks_same zs1 i z (unhide HZ) (by rw [hf, Bool.and_false]))
          have HRS : Hid (readies zs1 (i + 1) = readies zs1 i) := by show _ = _; rw [readies, unhide HZ]; simp [hf]
          clear hf
          go_wp2_with fail
          go_roundg (gk - 1)
          case measure => have := unhide HI; have := unhide HLT; omega
          case rel => exact ⟨i + 1, A, q, d, congrArg (Value.int .i64) (by have := unhide HLE; have := unhide HN; have := unhide HM; have := unhide HLT; (try unfold wrap64); omega), rfl, (by have := unhide HI; have := unhide HLT; show _ = _; omega), F5, L5, (by rw [unhide HS]; exact unhide R5), (by rw [unhide HRS]; exact unhide I5)⟩
        | true =>
          have HS := hide (marks_set zs1 i z (unhide HZ))
          have HRS : Hid (readies zs1 (i + 1) = readies zs1 i ++ [z.1.1]) := by show _ = _; rw [readies, unhide HZ]; simp [hf, unhide HB]
          have HFT := hide hf
          clear hf
          obtain ⟨k0, _, k2, hfz⟩ := (unhide R5).lit i z (unhide HMZ)
          have hf2 := hfz (i * 3 + 2)
          obtain ⟨hgb, cells5, hgc⟩ := (unhide R5).typed
          have F56 : Fr base [69] w5 (w5.setCell ⟨g, i * 3 + 2, none⟩ (.bool true)) := Fr.set (cells := cells5) (fz := (0, 0)) (t := 69) _ hgb hgc (by simp)
          have L6 := hide ((unhide L5).fr F56 (by decide))
          have hR6 := (unhide R5).setHas i z (unhide HMZ) true
          have I6 := hide ((unhide I5).fr F56 (by decide))
          have F6 := hide ((unhide F5).trans (F56.more (by simp)))
          obtain ⟨R6, hR6e⟩ : ∃ R : Hid (LR (w5.setCell ⟨g, i * 3 + 2, none⟩ (.bool true)) base (.slice (some ⟨g, 0, none⟩) m c0) (marks zs1 (i + 1))), True := by
            refine ⟨?_, trivial⟩
            rw [unhide HS, unhide HB, unhide HFT]
            exact hR6
          have k06 : (w5.setCell ⟨g, i * 3 + 2, none⟩ (.bool true)).cell? ⟨g, i * 3, none⟩ = some (.int .i64 z.1.1) := by
            have h := marks_get zs1 (i + 1) i z (unhide HZ)
            exact (((unhide R6).lit i _ h).1).trans (by split <;> rfl)
          clear hfz hgb hgc F56 hR6 hR6e k0
          have hq : q = (readies zs1 i).length := by
            obtain ⟨A', c', e, _⟩ := (unhide I6).slice
            injection e
          obtain ⟨A7, d7, w7, hr7, hI7, hG7⟩ := (unhide I6).append (by have := (unhide F6).b.size; omega) (by have := readies_len zs1 i; have := unhide HLE; have := unhide HN; have := unhide HM; have := unhide HLT; omega) z.1.1
          rw [show (w5.setCell ⟨g, i * 3 + 2, none⟩ (.bool true)).heap.size = w5.heap.size from by simp] at hr7
          have F7 := hide ((unhide F6).step hG7 (fun g' hg' => ((unhide I6).typed g' hg').1) (unhide HBW))
          have L7 := hide ((unhide L6).grown (unhide I6) hG7)
          have R7 := hide ((unhide R6).grown (unhide I6) hG7)
          have HR7 := hide hr7
          have I7 := hide hI7
          clear hr7 hI7 hG7 hq
          go_wp2_with (at_builtin; refine unhide ?_)
          refine hide ?_
          refine wpList_app rfl (.tmp 53) (.tmp 58) rfl rfl rfl rfl (unhide HR7) ?_
          go_wp2_with fail
          go_roundg (gk - 1)
          case measure => have := unhide HI; have := unhide HLT; omega
          case rel => exact ⟨i + 1, A7, _, d7, congrArg (Value.int .i64) (by have := unhide HLE; have := unhide HN; have := unhide HM; have := unhide HLT; (try unfold wrap64); omega), rfl, (by have := unhide HI; have := unhide HLT; show _ = _; omega), F7, L7, R7, (by rw [unhide HRS]; exact unhide I7)⟩
    · have d2 : ¬ (i : Int) < (m : Int) := by omega
      have him : i = m := by have := unhide HI; omega
      have HIM := hide him
      clear him hlt
      go_wp2_with fail
      go_ret2
      have e1 : zs.length - 1 = m := by have := unhide HM; have := unhide HN; omega
      have hR := unhide RW
      have hI := unhide IW
      rw [unhide HIM, unhide HZS1] at hR hI
      exact ⟨unhide FW, .inr ⟨k, _, _, (by rw [← unhide HN]; exact unhide HK), unhide HWK, unhide HWJ, rfl, unhide LW, by rw [e1]; exact hR, by rw [e1]; exact hI⟩⟩
end Go.Proofs.YtgoephcembgmcaaGreatDoor.G
namespace Go.Proofs.YtgoephcembgmcaaGreatDoor.G
open Go.RowKit Go.Maps Go.Proofs.YtgoephcembgmcaaGreatDoorW.PrintWords Go.Proofs.YtgoephcembgmcaaGreatDoorW.PrintLast
/-! Locks.Holder. -/
theorem containsStr_ok {w : World} {base : Nat} {A : Option Addr} {n c : Nat} {xs : List ByteArray} (h : Kd.string.R 9 w base (fun _ => True) (.slice A n c) xs) (p : ByteArray) :
    Calls Tryz.prog 23 #[.slice A n c, .string p] w fun e w' => e = .returned (.bool (Lib.containsS xs p)) ∧ w' = w := by
  obtain ⟨hn, hc, hC⟩ := Kd.R_reads' h
  subst hn
  by_cases h0 : xs = []
  · subst h0
    exact (Tryz.slices_Contains_string_empty A c p w).mono (fun e w' he => he)
  · obtain ⟨g, cap, e, _⟩ := Kd.R_form h (List.length_pos_iff.2 h0)
    cases e
    have hr := Tryz.slices_Contains_string g 0 xs.length c xs p w (Nat.le_refl _) (Kd.C_max hC) (fun j hj => by
      obtain ⟨ad, ha, hcell⟩ := Kd.at_string hC (j : Int) (by omega) (by omega)
      cases ha
      rw [add_plain, Int.toNat_natCast] at hcell
      rw [Nat.zero_add, hcell]
      unfold rdOf
      rw [Int.toNat_natCast])
    rw [List.take_length] at hr
    exact hr
def holds (p : ByteArray) (z : Ask × Sc) : Bool := z.1.2.2 && Lib.containsS z.1.2.1 p
def Held (zs : List (Ask × Sc)) (p : ByteArray) (r : Int) (b : Bool) : Prop :=
  (b = false ∧ r = 0 ∧ ∀ z ∈ zs, holds p z = false) ∨ (b = true ∧ ∃ (k : Nat) (z : Ask × Sc), zs[k]? = some z ∧ holds p z = true ∧ r = z.1.1 ∧ ∀ (j : Nat) (y : Ask × Sc), j < k → zs[j]? = some y → holds p y = false)
def HolderSays (w : World) (zs : List (Ask × Sc)) (p : ByteArray) (e : Ending) (w' : World) : Prop := (∃ r b, Held zs p r b ∧ e = .returned (.tuple #[.int .i64 r, .bool b])) ∧ Below w.heap.size w w'
set_option maxHeartbeats 2000000 in
set_option maxRecDepth 100000 in
theorem holder_ok (L : Nat) (base : Nat) (v : Value) (zs : List (Ask × Sc)) (p : ByteArray) (w : World) (hL : LKat w L v) (hR : LR w base v zs) (hl : zs.length ≤ 1000) :
    Calls Tryz.prog 10 #[.pointer (some ⟨L, 0, none⟩), .string p] w (HolderSays w zs p) := by
  obtain ⟨A, c, rfl, _, _⟩ := hR.slice
  obtain ⟨n, hn⟩ : ∃ z, z = zs.length := ⟨_, rfl⟩
  rw [← hn] at hL hR hl
  have HR := hide hR
  have HN := hide hn
  have HLE := hide hl
  have l0 := hL.cell
  have hu63 := Tryz.underlying63
  have hu69 := Tryz.underlying69
  have hu61 := Tryz.underlying61
  clear hL hR hl hn
  go_enter Tryz.func10, Tryz.ntmps10
  go_wp2_with fail
  clear l0
  go_loopg [13] n (fun kq v13 wr => ∃ (i : Nat), v13 = .int .i64 (i : Int) ∧ Hid (i + kq = n) ∧ Hid (Below w.heap.size w wr) ∧ Hid (∀ (j : Nat) (y : Ask × Sc), j < i → zs[j]? = some y → holds p y = false))
  case atStart => exact ⟨0, rfl, Nat.zero_add _, Below.refl _ _, fun j y hj => absurd hj (Nat.not_lt_zero _)⟩
  case round =>
    obtain ⟨i, rfl, HI, HB, HF⟩ := hrel
    by_cases hlt : i < n
    · have d1 : (i : Int) < (n : Int) := by omega
      obtain ⟨z, hz⟩ : ∃ z, zs[i]? = some z := ⟨_, List.getElem?_eq_getElem (by have := unhide HN; omega)⟩
      have hR := (unhide HR).below (unhide HB)
      obtain ⟨ad, rfl, k0, k1, k2⟩ := hR.at_ i z hz
      have hrow := hR.2 z (List.mem_of_getElem? hz)
      obtain ⟨⟨who, qs, has⟩, ⟨B, m, d⟩⟩ := z
      have HROW : Hid (Kd.string.R 9 wr base (fun _ => True) (.slice B m d) qs) := hrow
      have HZ := hide hz
      have HLT := hide hlt
      have hb := below_alloc (unhide HB) (.cells #[.int .i64 who, .slice B m d, .bool has] 69)
      have B2 := hide hb
      have k0 : wr.cell? (ad.add (i * 3)) = some (.int .i64 who) := k0
      have k1 : wr.cell? ⟨(ad.add (i * 3)).block, (ad.add (i * 3)).off + 1, none⟩ = some (.slice B m d) := k1
      have k2 : wr.cell? ⟨(ad.add (i * 3)).block, (ad.add (i * 3)).off + 2, none⟩ = some (.bool has) := k2
      have hnb := blk_new wr (.cells #[.int .i64 who, .slice B m d, .bool has] 69)
      have c0 : (wr.alloc (.cells #[.int .i64 who, .slice B m d, .bool has] 69)).cell? ⟨wr.heap.size, 0, none⟩ = some (.int .i64 who) := blk_cell hnb 0
      have c1 : (wr.alloc (.cells #[.int .i64 who, .slice B m d, .bool has] 69)).cell? ⟨wr.heap.size, 1, none⟩ = some (.slice B m d) := blk_cell hnb 1
      have c2 : (wr.alloc (.cells #[.int .i64 who, .slice B m d, .bool has] 69)).cell? ⟨wr.heap.size, 2, none⟩ = some (.bool has) := blk_cell hnb 2
      have HC := hide (containsStr_ok (Kd.R_alloc (unhide HROW) (.cells #[.int .i64 who, .slice B m d, .bool has] 69)) p)
      clear hz hlt hR hrow hb hnb
      have next : (has && Lib.containsS qs p) = false → Hid (∀ (j : Nat) (y : Ask × Sc), j < i + 1 → zs[j]? = some y → holds p y = false) := by
        intro h j y hj hy
        by_cases e : j = i
        · subst e
          rw [unhide HZ] at hy
          rw [← Option.some.inj hy]
          exact h
        · exact unhide HF j y (by omega) hy
      have NX := hide next
      clear next
      cases has with
      | false =>
        have N2 := unhide NX rfl
        clear HC NX
        go_wp2_with fail
        go_roundg (gk - 1)
        case measure => have := unhide HI; have := unhide HLT; omega
        case rel => exact ⟨i + 1, congrArg (Value.int .i64) (by have := unhide HLE; have := unhide HLT; (try unfold wrap64); omega), (by have := unhide HI; have := unhide HLT; show _ = _; omega), B2, N2⟩
      | true =>
        go_wp2_with fail
        refine (unhide HC).mono ?_
        rintro e w5 ⟨rfl, rfl⟩
        clear HC
        cases hc : Lib.containsS qs p with
        | false =>
          have N2 := unhide NX (by rw [hc]; rfl)
          clear hc NX
          go_wp2_with fail
          go_roundg (gk - 1)
          case measure => have := unhide HI; have := unhide HLT; omega
          case rel => exact ⟨i + 1, congrArg (Value.int .i64) (by have := unhide HLE; have := unhide HLT; (try unfold wrap64); omega), (by have := unhide HI; have := unhide HLT; show _ = _; omega), B2, N2⟩
        | true =>
          have HCT := hide hc
          clear hc NX
          go_wp2_with fail
          go_ret2
          exact ⟨⟨who, true, ⟨.inr ⟨rfl, i, _, unhide HZ, unhide HCT, rfl, unhide HF⟩, rfl⟩⟩, unhide B2⟩
    · have d1 : ¬ (i : Int) < (n : Int) := by omega
      have hall : Held zs p 0 false := .inl ⟨rfl, rfl, fun z hz => by
        obtain ⟨j, hj⟩ := List.mem_iff_getElem?.1 hz
        exact unhide HF j z (by have := (List.getElem?_eq_some_iff.1 hj).1; have := unhide HN; omega) hj⟩
      have HALL := hide hall
      clear hall hlt
      go_wp2_with fail
      go_ret2
      exact ⟨⟨0, false, unhide HALL, rfl⟩, unhide HB⟩
end Go.Proofs.YtgoephcembgmcaaGreatDoor.G
namespace Go.Proofs.YtgoephcembgmcaaGreatDoor.G
open Go.RowKit Go.Maps Go.Proofs.YtgoephcembgmcaaGreatDoorW.PrintWords Go.Proofs.YtgoephcembgmcaaGreatDoorW.PrintLast
/-! path.Beneath at the root: exact. -/
theorem beneath_root (p : ByteArray) (w : World) :
    Calls Tryz.prog 41 #[.string ⟨#[]⟩, .string p] w fun e w' => e = .returned (.tuple #[.string p, .bool (!p.toList.isEmpty)]) ∧ w' = w := by
  have hu9 := Tryz.underlying9
  go_enter Tryz.func41, Tryz.ntmps41
  go_wp2_with fail
  go_ret2
  exact ⟨rfl, rfl⟩
end Go.Proofs.YtgoephcembgmcaaGreatDoor.G
namespace Go.Proofs.YtgoephcembgmcaaGreatDoor.G
open Go.RowKit Go.Maps Go.MapKept Go.Proofs.YtgoephcembgmcaaGreatDoorW.PrintWords Go.Proofs.YtgoephcembgmcaaGreatDoorW.PrintLast
open Go.WideElems (Fit rd rg pl rd_key rd_val rg_of other_key)
/-! Maps as partial functions: a map's block holds at each key what F says; its elements are kept as they lie. -/
abbrev DV := DataW Value
def Rh (v : Value) : Option (DataW Value × List MemPlace) := some (.held v, [])
/-- How the keys of a type read. -/
structure KC (κ : Type) where
  k : TypeId
  law : Keyed Tryz.prog k
  val : κ → Value
  lit : κ → Lit
  ok : κ → Prop
  key : ∀ x, ok x → keyOf Tryz.prog k (val x) = some (lit x)
  inv : ∀ v l, keyOf Tryz.prog k v = some l → ∃ x, ok x ∧ v = val x ∧ l = lit x
  inj : ∀ x y, lit x = lit y → x = y
theorem lit_inj {x y : ByteArray} (h : Lit.string x.data.toList = Lit.string y.data.toList) : x = y := bytes_inj (by simpa using h)
theorem CS_inv (v : Value) (l : Lit) (h : keyOf Tryz.prog 9 v = some l) : ∃ x : ByteArray, x.size ≤ maxLen ∧ v = Value.string x ∧ l = .string x.data.toList := by
  cases v <;> simp [keyOf, Tryz.underlying9, mapKey] at h
  rename_i s
  exact ⟨s, h.1, rfl, h.2.symm⟩
def CS : KC ByteArray := {
  k := 9
  law := string_keyed Tryz.underlying9
  val := Value.string
  lit := fun x => .string x.data.toList
  ok := fun x => x.size ≤ maxLen
  key := fun x h => WideMaps.keyOf_string_mk Tryz.underlying9 h
  inv := CS_inv
  inj := fun x y h => lit_inj h }
theorem CI_inv (v : Value) (l : Lit) (h : keyOf Tryz.prog 3 v = some l) : ∃ x : Int, (Lit.int .i64 x).wf = true ∧ v = Value.int .i64 x ∧ l = .int .i64 x := by
  obtain ⟨x, rfl, rfl, hw⟩ := Maps.keyOf_int_inv Tryz.underlying3 h
  exact ⟨x, hw, rfl, rfl⟩
def CI : KC Int := {
  k := 3
  law := int_keyed Tryz.underlying3
  val := Value.int .i64
  lit := fun x => .int .i64 x
  ok := fun x => (Lit.int .i64 x).wf = true
  key := fun x h => keyOf_int_mk Tryz.underlying3 h
  inv := CI_inv
  inj := fun x y h => by injection h }
section
variable {κ : Type} (C : KC κ)
def upd [DecidableEq κ] (F : κ → Option Value) (x : κ) (o : Option Value) : κ → Option Value := fun y => if y = x then o else F y
theorem upd_same [DecidableEq κ] (F : κ → Option Value) (x : κ) (o : Option Value) : upd F x o x = o := by unfold upd; rw [if_pos rfl]
theorem upd_other [DecidableEq κ] {F : κ → Option Value} {x y : κ} {o : Option Value} (h : y ≠ x) : upd F x o y = F y := by unfold upd; rw [if_neg h]
theorem upd_twice [DecidableEq κ] (F : κ → Option Value) (x : κ) (o o' : Option Value) : upd (upd F x o) x o' = upd F x o' := by
  funext y
  unfold upd
  by_cases h : y = x <;> simp [h]
def at_ (o : Option Value) (z : DV) : DV := match o with | some v => .held v | none => z
def Rep (D : DV) (F : κ → Option Value) : Prop := ∀ x, (C.ok x → ∀ z, D.atKey (C.lit x) z = at_ (F x) z) ∧ (¬ C.ok x → F x = none)
variable {C}
theorem KC.isLit {x : κ} (h : C.ok x) : WideAt.IsKeyLit (C.lit x) := C.law.key (C.key x h)
theorem Rep.empty : Rep C (.map []) (fun _ => none) := fun x => ⟨fun _ z => rfl, fun _ => rfl⟩
theorem Rep.put [DecidableEq κ] {D : DV} {F : κ → Option Value} (h : Rep C D F) (hD : IsMap D) {x : κ} (hx : C.ok x) (v : Value) : Rep C (D.put (C.lit x) (.held v)) (upd F x (some v)) := by
  intro y
  by_cases e : y = x
  · subst e
    rw [upd_same]
    exact ⟨fun _ z => atKey_put_same hD (KC.isLit hx) _ _, fun h => absurd hx h⟩
  · rw [upd_other e]
    exact ⟨fun hy z => by rw [atKey_put_other (fun e2 => e (C.inj _ _ e2))]; exact (h y).1 hy z, (h y).2⟩
theorem Rep.del [DecidableEq κ] {D : DV} {F : κ → Option Value} (h : Rep C D F) {x : κ} (hx : C.ok x) : Rep C (D.del (C.lit x)) (upd F x none) := by
  intro y
  by_cases e : y = x
  · subst e
    rw [upd_same]
    exact ⟨fun _ z => atKey_del_same _, fun h => absurd hx h⟩
  · rw [upd_other e]
    exact ⟨fun hy z => by rw [atKey_del_other (fun e2 => e (C.inj _ _ e2))]; exact (h y).1 hy z, (h y).2⟩
theorem Rep.has {D : DV} {F : κ → Option Value} (h : Rep C D F) {x : κ} (hx : C.ok x) : Maps.has D (C.lit x) = (F x).isSome := by
  have h1 := (h x).1 hx
  cases hf : F x with
  | none =>
    rw [hf] at h1
    exact has_false_of_atKey h1
  | some v =>
    rw [hf] at h1
    exact has_true_of_atKey (y := .held v) h1
theorem Rep.ok {D : DV} {F : κ → Option Value} (h : Rep C D F) {x : κ} {v : Value} (hx : F x = some v) : C.ok x := by
  by_cases e : C.ok x
  · exact e
  · rw [(h x).2 e] at hx
    cases hx
variable (C) in
/-- Block b is a map of at most n keys that holds what F says. -/
def MF (w : World) (b n : Nat) (F : κ → Option Value) : Prop := ∃ D : DV, w.ownsMap Tryz.prog C.k Rh b n D ∧ Rep C D F
variable {w w' : World} {b n : Nat} {F : κ → Option Value}
theorem MF.made (w : World) : MF C (w.alloc (.map #[] 0)) w.heap.size 0 (fun _ => none) := ⟨_, World.ownsMap_made w _ _ _, Rep.empty⟩
theorem MF.mono (h : MF C w b n F) {n' : Nat} (hn : n ≤ n') : MF C w b n' F := by
  obtain ⟨D, h1, h2⟩ := h
  exact ⟨D, h1.mono hn, h2⟩
theorem MF.block {D : DV} {k : TypeId} (h : w.ownsMap Tryz.prog k Rh b n D) (hk : w'.heap[b]? = w.heap[b]?) : w'.ownsMap Tryz.prog k Rh b n D := by
  obtain ⟨es, clock, hb, F, hs, hD⟩ := h
  exact ⟨es, clock, hk.trans hb, F, hs, hD⟩
theorem MF.kept (h : MF C w b n F) (hk : w'.heap[b]? = w.heap[b]?) : MF C w' b n F := by
  obtain ⟨D, h1, h2⟩ := h
  exact ⟨D, MF.block h1 hk, h2⟩
theorem MF.isMap (h : MF C w b n F) : ∃ es c, w.heap[b]? = some (.map es c) := by
  obtain ⟨D, ⟨es, clock, hb, _⟩, _⟩ := h
  exact ⟨es, clock, hb⟩
theorem MF.lt (h : MF C w b n F) : b < w.heap.size := by
  obtain ⟨D, h1, _⟩ := h
  exact h1.lt
theorem MF.below (h : MF C w b n F) (hb : Below w.heap.size w w') : MF C w' b n F := h.kept (hb.block b h.lt)
theorem MF.ok (h : MF C w b n F) {x : κ} {v : Value} (hx : F x = some v) : C.ok x := by
  obtain ⟨D, _, h2⟩ := h
  exact h2.ok hx
theorem Rh_inv {v : Value} {d : DV} {ps : List MemPlace} (h : Rh v = some (d, ps)) : .held v = d := by
  unfold Rh at h
  have h2 := congrArg (fun o => o.map Prod.fst) h
  simpa using h2
theorem at_held {o : Option Value} {z v : Value} (h : (DataW.held v : DV) = at_ o (.held z)) : v = o.getD z := by
  cases o with
  | none => injection h
  | some u => injection h
theorem MF.look {t e : TypeId} (h : MF C w b n F) (ht : Tryz.prog.underlying t = some (.map C.k e)) {z : Value} (hz : (zeroValue e).run Tryz.prog w = .ok z w) {x : κ} (hx : C.ok x) :
    (Instr.lookup t (.map (some b)) (C.val x) false).run Tryz.prog w = .ok ((F x).getD z) w := by
  obtain ⟨D, hown, hf⟩ := h
  obtain ⟨v, ps, hr, hv⟩ := hown.lookup C.law ht hz (zd := .held z) (zp := []) rfl (C.key x hx)
  rw [(hf x).1 hx] at hv
  rw [← at_held (Rh_inv hv)]
  exact hr
theorem MF.look_ok {t e : TypeId} (h : MF C w b n F) (ht : Tryz.prog.underlying t = some (.map C.k e)) {z : Value} (hz : (zeroValue e).run Tryz.prog w = .ok z w) {x : κ} (hx : C.ok x) :
    (Instr.lookup t (.map (some b)) (C.val x) true).run Tryz.prog w = .ok (.tuple #[(F x).getD z, .bool (F x).isSome]) w := by
  obtain ⟨D, hown, hf⟩ := h
  obtain ⟨v, ps, hr, hv⟩ := hown.look_ok C.law ht hz (zd := .held z) (zp := []) rfl (C.key x hx)
  rw [(hf x).1 hx] at hv
  rw [hf.has hx] at hr
  rw [← at_held (Rh_inv hv)]
  exact hr
theorem MF.put [DecidableEq κ] {t e : TypeId} (h : MF C w b n F) (ht : Tryz.prog.underlying t = some (.map C.k e)) (hn : n < maxLen) {x : κ} (hx : C.ok x) (v : Value) :
    ∃ w', (Instr.mapUpdate t (.map (some b)) (C.val x) v).run Tryz.prog w = .ok () w' ∧ MF C w' b (n + 1) (upd F x (some v)) ∧ w.mapTurned w' b := by
  obtain ⟨D, hown, hf⟩ := h
  obtain ⟨w', hr, h1, ht⟩ := hown.store C.law ht hn (C.key x hx) (show Rh v = some (.held v, []) from rfl)
  exact ⟨w', hr, ⟨_, h1, hf.put hown.isMap hx v⟩, ht⟩
theorem MF.del [DecidableEq κ] {t e : TypeId} (h : MF C w b n F) (ht : Tryz.prog.underlying t = some (.map C.k e)) {x : κ} (hx : C.ok x) (ty : TypeId) :
    ∃ w', (Builtin.delete_ #[t, C.k] ty #[.map (some b), C.val x]).run Tryz.prog w = .ok (.tuple #[]) w' ∧ MF C w' b n (upd F x none) ∧ w.mapTurned w' b := by
  obtain ⟨D, hown, hf⟩ := h
  obtain ⟨w', hr, h1, ht⟩ := hown.drop C.law ht (C.key x hx) ty
  exact ⟨w', hr, ⟨_, h1, hf.del hx⟩, ht⟩
/-- The keys of a map, each once. -/
def Keys (F : κ → Option Value) (ks : List κ) : Prop := ks.Nodup ∧ ∀ x, x ∈ ks ↔ (F x).isSome = true
theorem Keys.perm {ks ks' : List κ} (h : Keys F ks) (h' : Keys F ks') : ks.Perm ks' := (List.perm_ext_iff_of_nodup h.1 h'.1).2 fun x => by rw [h.2, h'.2]
theorem invert (C : KC κ) : ∀ es : List (Lit × DV), (∀ p ∈ es, KeysOf Tryz.prog C.k p.1) → ∃ ks : List κ, (∀ x ∈ ks, C.ok x) ∧ ks.map C.lit = es.map Prod.fst
  | [], _ => ⟨[], by simp, rfl⟩
  | p :: es, h => by
    obtain ⟨ks, h1, h2⟩ := invert C es (fun q hq => h q (List.mem_cons_of_mem _ hq))
    obtain ⟨v, hv⟩ := h p (List.mem_cons_self ..)
    obtain ⟨x, hx, _, hl⟩ := C.inv _ _ hv
    exact ⟨x :: ks, fun y hy => (List.mem_cons.1 hy).elim (fun e => e ▸ hx) (h1 y), by simp [h2, hl]⟩
theorem MF.keys' {D : DV} (h : w.ownsMap Tryz.prog C.k Rh b n D) (hf : Rep C D F) : ∃ ks, Keys F ks ∧ Maps.size D = ks.length := by
  obtain ⟨es, rfl, hp, _⟩ := h.entries C.law
  have hk : ∀ p ∈ es, KeysOf Tryz.prog C.k p.1 := by
    obtain ⟨es2, clock, _, F, _, e⟩ := h
    injection e with e
    subst e
    exact fun p hp => fit_keys F p (mem_sorted.1 hp)
  obtain ⟨ks, h1, h2⟩ := invert C es hk
  refine ⟨ks, ⟨?_, fun x => ?_⟩, ?_⟩
  · have hnd : (ks.map C.lit).Nodup := by
      rw [h2]
      exact List.pairwise_map.2 hp
    exact (List.pairwise_map.1 hnd).imp (fun hne e => hne (by rw [e]))
  · constructor
    · intro hx
      rw [← hf.has (h1 x hx), has_eq, List.any_eq_true]
      have : C.lit x ∈ es.map Prod.fst := by rw [← h2]; exact List.mem_map.2 ⟨x, hx, rfl⟩
      obtain ⟨p, hp, hpe⟩ := List.mem_map.1 this
      exact ⟨p, hp, by rw [hpe]; exact WideAt.sameKey_self (KC.isLit (h1 x hx))⟩
    · intro hs
      obtain ⟨v, hv⟩ := Option.isSome_iff_exists.1 hs
      have ho := hf.ok hv
      rw [← hf.has ho, has_eq, List.any_eq_true] at hs
      obtain ⟨p, hp, he⟩ := hs
      have : C.lit x ∈ ks.map C.lit := by
        rw [h2, ← WideAt.sameKey_eq he]
        exact List.mem_map.2 ⟨p, hp, rfl⟩
      obtain ⟨y, hy, hye⟩ := List.mem_map.1 this
      rw [← C.inj _ _ hye]
      exact hy
  · have := congrArg List.length h2
    simp only [List.length_map] at this
    rw [size_eq]
    exact this.symm
theorem MF.keys (h : MF C w b n F) : ∃ ks, Keys F ks ∧ ks.length ≤ n := by
  obtain ⟨D, hown, hf⟩ := h
  obtain ⟨ks, h1, h2⟩ := MF.keys' hown hf
  exact ⟨ks, h1, by rw [← h2]; exact hown.size_le⟩
theorem MF.len {t e : TypeId} (h : MF C w b n F) (ht : Tryz.prog.underlying t = some (.map C.k e)) (ty : TypeId) {ks : List κ} (hk : Keys F ks) : (Builtin.len_ #[t] ty #[.map (some b)]).run Tryz.prog w = .ok (.int .i64 (ks.length : Int)) w := by
  obtain ⟨D, hown, hf⟩ := h
  obtain ⟨ks', h1, h2⟩ := MF.keys' hown hf
  rw [(hk.perm h1).length_eq, ← h2]
  exact hown.len ht ty
/-! Ranging over a map: vis are the keys met so far. -/
def RangeAt (C : KC κ) (F : κ → Option Value) (vis : List κ) (left : Lit → Bool) : Prop := (∀ x, C.ok x → (left (C.lit x) = true ↔ (F x).isSome = true ∧ x ∉ vis)) ∧ vis.Nodup ∧ ∀ x ∈ vis, (F x).isSome = true
variable (C) in
def MG (w : World) (b r n : Nat) (F : κ → Option Value) (vis : List κ) (cnt : Nat) : Prop :=
  ∃ (D : DV) (left : Lit → Bool), w.ranges Tryz.prog C.k Rh b r n D left cnt ∧ Rep C D F ∧ RangeAt C F vis left ∧ vis.length + cnt ≤ n
variable {r cnt : Nat} {vis : List κ}
theorem MG.owns (h : MG C w b r n F vis cnt) : MF C w b n F := by
  obtain ⟨D, left, h1, h2, _⟩ := h
  exact ⟨D, h1.owns, h2⟩
theorem MG.iter (h : MG C w b r n F vis cnt) : r ≠ b ∧ r < w.heap.size := by
  obtain ⟨D, left, h1, _⟩ := h
  exact ⟨h1.ne, h1.lt⟩
theorem MG.isIter (h : MG C w b r n F vis cnt) : ∃ s e c, w.heap[r]? = some (.mapIter (some b) s e c) := by
  obtain ⟨D, left, ⟨es, clock, since, seen, c0, _, _, _, _, hr, _⟩, _⟩ := h
  exact ⟨_, _, _, hr⟩
theorem MG.visited (h : MG C w b r n F vis cnt) : vis.Nodup ∧ (∀ x ∈ vis, (F x).isSome = true) ∧ vis.length + cnt ≤ n := by
  obtain ⟨D, left, _, _, h3, h4⟩ := h
  exact ⟨h3.2.1, h3.2.2, h4⟩
theorem MG.kept (h : MG C w b r n F vis cnt) (hb : w'.heap[b]? = w.heap[b]?) (hr : w'.heap[r]? = w.heap[r]?) : MG C w' b r n F vis cnt := by
  obtain ⟨D, left, ⟨es, clock, since, seen, c0, h1, h2, h3, h4, h5, h6⟩, hrest⟩ := h
  exact ⟨D, left, ⟨es, clock, since, seen, c0, hb.trans h1, h2, h3, h4, hr.trans h5, h6⟩, hrest⟩
theorem MG.below (h : MG C w b r n F vis cnt) (hb : Below w.heap.size w w') : MG C w' b r n F vis cnt := h.kept (hb.block b h.owns.lt) (hb.block r h.iter.2)
theorem range_w (w : World) {ops : Array Oper} {rest : List Oper} {o : Oper} {a : Act} {Q : Exit → Act → World → Prop} (C : KC κ) (hg : o.guard = none) (m : Operand) (t e : TypeId) (hop : o.op = Op.range t m) (ht : Tryz.prog.underlying t = some (.map C.k e)) (b n : Nat) (F : κ → Option Value)
    (hm : a.eval m = .map (some b)) (hown : MF C w b n F)
    (hK : ∀ w' cnt, MG C w' b w.heap.size n F [] cnt → w.grownBy w' none → w'.heap.size = w.heap.size + 1 → wpList Tryz.prog ops Q rest (a.put o.dst (.pointer (some ⟨w.heap.size, 0, none⟩))) w') :
    wpList Tryz.prog ops Q (o :: rest) a w := by
  obtain ⟨D, h1, h2⟩ := hown
  have hz := h1.size_le
  refine wpList_range_own w hg m t hop C.k e C.law ht Rh b n D hm h1 (fun w' hr hgr hs => hK w' _ ⟨D, _, hr, h2, ⟨fun x hx => ?_, List.nodup_nil, by simp⟩, by simpa using hz⟩ hgr hs)
  rw [h2.has hx]
  simp
theorem next_w (w : World) {ops : Array Oper} {rest : List Oper} {o : Oper} {a : Act} {Q : Exit → Act → World → Prop} (C : KC κ) (hg : o.guard = none) (it : Operand) (hop : o.op = Op.next it false) (b r n : Nat) (F : κ → Option Value) (vis : List κ) (cnt : Nat)
    (hit : a.eval it = .pointer (some ⟨r, 0, none⟩)) (h : MG C w b r n F vis cnt)
    (hDone : (∀ x, (F x).isSome = true → x ∈ vis) → wpList Tryz.prog ops Q rest (a.put o.dst (.tuple #[.bool false])) w)
    (hMore : ∀ (x : κ) (v : Value) (w' : World) (cnt' : Nat), C.ok x → x ∉ vis → F x = some v → MG C w' b r n F (vis ++ [x]) cnt' → cnt' < cnt → w.grownBy w' (some r) → (Instr.entry (.pointer (some ⟨r, 0, none⟩))).run Tryz.prog w' = .ok (.tuple #[C.val x, v]) w' → wpList Tryz.prog ops Q rest (a.put o.dst (.tuple #[.bool true, C.val x, v])) w') :
    wpList Tryz.prog ops Q (o :: rest) a w := by
  refine wpList_plain hg fun K' hK' => ?_
  obtain ⟨D, left, hr, hf, ⟨hl, hnd, hsome⟩, hle⟩ := h
  unfold Oper.wp
  rcases hr.next C.law o.type with ⟨h0, hll, hrun⟩ | ⟨key, v, kl, y, w1, cnt1, hkey, hlk, hv, hat, hrun, hrg, hlt, hgr, hsz, hen⟩
  · simp [execOp, hop, hit, hrun, Result.andThen]
    refine hK' _ _ (hDone fun x hx => ?_)
    obtain ⟨v, hv⟩ := Option.isSome_iff_exists.1 hx
    have h1 := hl x (hf.ok hv)
    rw [hll] at h1
    exact Classical.byContradiction fun hn => by cases h1.2 ⟨hx, hn⟩
  · obtain ⟨x, hx, rfl, rfl⟩ := C.inv _ _ hkey
    obtain ⟨hs, hnv⟩ := (hl x hx).1 hlk
    have hfx : F x = some v := by
      have e := (hf x).1 hx (.held .nilIface)
      have e1 := hat (.held .nilIface)
      have e2 := Rh_inv (ps := y.2) hv
      obtain ⟨u, hu⟩ := Option.isSome_iff_exists.1 hs
      rw [hu] at e
      have e3 : (DataW.held v : DV) = .held u := e2.trans (e1.symm.trans e)
      rw [hu, DataW.held.inj e3]
    simp only [execOp, hop, hit, hrun, Sem.run_bind, Result.andThen_ok]
    refine hK' _ _ (hMore x v w1 cnt1 hx hnv hfx ⟨D, _, hrg, hf, ⟨fun z hz => ?_, ?_, ?_⟩, by rw [List.length_append]; show _ + 1 + _ ≤ _; omega⟩ hlt hgr hen)
    · show (left (C.lit z) && !(C.lit z).sameKey (C.lit x)) = true ↔ _
      by_cases e : z = x
      · subst e
        rw [WideAt.sameKey_self (KC.isLit hz)]
        simp
      · rw [Maps.sameKey_ne (fun e2 => e (C.inj _ _ e2)), Bool.not_false, Bool.and_true, hl z hz]
        simp [e]
    · exact List.nodup_append.2 ⟨hnd, by simp, fun a ha c hc => by rw [List.mem_singleton.1 hc]; exact fun e => hnv (e ▸ ha)⟩
    · intro z hz
      rcases List.mem_append.1 hz with hz | hz
      · exact hsome z hz
      · rw [List.mem_singleton.1 hz, hfx]
        rfl
end
end Go.Proofs.YtgoephcembgmcaaGreatDoor.G
namespace Go.Proofs.YtgoephcembgmcaaGreatDoor.G
open Go.RowKit Go.Maps Go.MapKept Go.ChangeMaps Go.Proofs.YtgoephcembgmcaaGreatDoorW.PrintWords Go.Proofs.YtgoephcembgmcaaGreatDoorW.PrintLast
open Go.WideElems (Fit rd rg pl rd_key rd_val rg_of other_key rd_mk)
/-! A store at a key that is there, into the map that is ranged over. -/
theorem left_size (es : Array MapEntry) (seen : Array Nat) : (leftOf es seen).size = ((es.toList.map (·.born)).filter fun b => !seen.contains b).length := by
  unfold leftOf
  rw [← Array.length_toList, Array.toList_filter, List.filter_map, List.length_map]
  rfl
theorem ranges_store {P : Program} {w : World} {k t e : TypeId} {R : Value → Option (DataW Value × List MemPlace)} {b r n : Nat} {D : DV} {left : Lit → Bool} {cnt : Nat} (h : w.ranges P k R b r n D left cnt) (K : Keyed P k) (ht : P.underlying t = some (.map k e)) (hn : n < maxLen)
    {key val : Value} {kl : Lit} {d : DV} {ps : List MemPlace} (hkey : keyOf P k key = some kl) (hv : R val = some (d, ps)) (hhas : Maps.has D kl = true) :
    ∃ w', (Instr.mapUpdate t (.map (some b)) key val).run P w = .ok () w' ∧ w'.ranges P k R b r n (D.put kl d) left cnt ∧ w.mapTurned w' b := by
  have hne := h.ne
  obtain ⟨es, clock, since, seen, c0, hb, F, hs, rfl, hr, hold, rfl, hl1, hl2, hsc, hsk⟩ := h
  obtain ⟨es', clock', hrun, F', hput, _, _, _⟩ := Maps.fit_store (R' := R) K ht hb F (Nat.lt_of_le_of_lt hs hn) (fun _ _ _ _ hz => hz) hkey hv
  rcases K.find w hkey es.toList (fun x hx => by obtain ⟨y, hy⟩ := F.reads x hx; exact ⟨_, rd_key hy⟩) with ⟨h1, h2⟩ | ⟨j, e0, h1, h2, h3⟩
  · exfalso
    obtain ⟨p, hp, hpk⟩ := List.any_eq_true.1 hhas
    obtain ⟨x, hx, rfl⟩ := List.mem_map.1 (mem_sorted.1 hp)
    obtain ⟨y, hy⟩ := F.reads x hx
    have m1 := rd_key hy
    rw [rg_of hy] at hpk
    rw [WideAt.sameKey_eq hpk] at m1
    exact h2 x hx (K.inj m1 hkey)
  · have hj : es[j]? = some e0 := by simpa using h2
    have hrun2 : (Instr.mapUpdate t (.map (some b)) key val).run P w = .ok () (setBlock w b (.map (es.modify j (fun e' => { e' with key := key, val := val })) clock)) := by
      simp [Instr.mapUpdate, run_underlying ht, MapKept.run_getObj_map hb, K.check w false hkey, h1, hj, h3, K.stays w hkey, MapKept.run_setObj_map _ hb, Result.andThen, setBlock]
    rw [hrun2] at hrun
    have ew : setBlock w b (.map (es.modify j (fun e' => { e' with key := key, val := val })) clock) = setBlock w b (.map es' clock') := by injection hrun
    have eb := congrArg (fun W : World => W.heap[b]?) ew
    simp only [heap_setBlock_same hb] at eb
    have eb2 : Obj.map (es.modify j (fun e' => { e' with key := key, val := val })) clock = Obj.map es' clock' := Option.some.inj eb
    injection eb2 with ea ec
    subst ec
    have hlist : es'.toList = es.toList.set j { e0 with key := key, val := val } := by rw [← ea, Array.toList_modify, modify_eq_set _ _ _ _ h2]
    have hjl : j < es.toList.length := (List.getElem?_eq_some_iff.1 h2).1
    have hborn : es'.toList.map (·.born) = es.toList.map (·.born) := by
      rw [hlist, List.map_set]
      apply List.ext_getElem?
      intro i
      rw [List.getElem?_set]
      by_cases e : j = i
      · subst e
        rw [if_pos rfl, if_pos (by simpa using hjl), List.getElem?_map, h2]
        rfl
      · rw [if_neg e]
    have hkl0 : (rg P k R e0).1 = kl := by
      obtain ⟨y, hy⟩ := F.reads e0 (List.mem_of_getElem? h2)
      have m1 := rd_key hy
      rw [h3, hkey] at m1
      rw [rg_of hy]
      exact (Option.some.inj m1).symm
    have hkln : (rg P k R { e0 with key := key, val := val }).1 = kl := by rw [rg_of (rd_mk hkey hv)]
    refine ⟨_, hrun2, ?_, ⟨es, clock, _, clock, hb, rfl⟩⟩
    rw [ew]
    refine ⟨es', clock, since, seen, c0, heap_setBlock_same hb _, F', ?_, by rw [DataW.put_eq, hput], (heap_setBlock_other hb _ hne).trans hr, ?_, ?_, ?_, ?_, hsc, hsk⟩
    · have := congrArg List.length hborn
      simp only [List.length_map, Array.length_toList] at this
      omega
    · intro x hx
      have : x.born ∈ es.toList.map (·.born) := by rw [← hborn]; exact List.mem_map.2 ⟨x, hx, rfl⟩
      obtain ⟨y, hy, hye⟩ := List.mem_map.1 this
      rw [← hye]
      exact hold y hy
    · rw [left_size, left_size, hborn]
    · intro x hx
      rw [hlist] at hx
      rcases List.mem_or_eq_of_mem_set hx with hx | rfl
      · exact hl1 x hx
      · rw [hkln, ← hkl0]
        exact hl1 e0 (List.mem_of_getElem? h2)
    · intro kl' hkl'
      obtain ⟨x, hx, rfl⟩ := hl2 kl' hkl'
      obtain ⟨i, hi⟩ := List.mem_iff_getElem?.1 hx
      by_cases e : j = i
      · subst e
        rw [h2] at hi
        obtain rfl := Option.some.inj hi
        refine ⟨{ e0 with key := key, val := val }, ?_, by rw [hkln, hkl0]⟩
        rw [hlist]
        exact List.mem_iff_getElem?.2 ⟨j, by rw [List.getElem?_set, if_pos rfl, if_pos hjl]⟩
      · refine ⟨x, ?_, rfl⟩
        rw [hlist]
        exact List.mem_iff_getElem?.2 ⟨i, by rw [List.getElem?_set, if_neg e]; exact hi⟩
section
variable {κ : Type} [DecidableEq κ] {C : KC κ} {w : World} {b r n cnt : Nat} {F : κ → Option Value} {vis : List κ}
theorem MG.put {t e : TypeId} (h : MG C w b r n F vis cnt) (ht : Tryz.prog.underlying t = some (.map C.k e)) (hn : n < maxLen) {x : κ} (hx : (F x).isSome = true) (v : Value) :
    ∃ w', (Instr.mapUpdate t (.map (some b)) (C.val x) v).run Tryz.prog w = .ok () w' ∧ MG C w' b r n (upd F x (some v)) vis cnt ∧ w.mapTurned w' b := by
  obtain ⟨D, left, hr, hf, ⟨hl, hnd, hsome⟩, hle⟩ := h
  obtain ⟨u, hu⟩ := Option.isSome_iff_exists.1 hx
  have hok := hf.ok hu
  obtain ⟨w', hrun, h1, h2⟩ := ranges_store hr C.law ht hn (C.key x hok) (show Rh v = some (.held v, []) from rfl) (by rw [hf.has hok]; exact hx)
  have hs : ∀ y, (upd F x (some v) y).isSome = (F y).isSome := fun y => by
    by_cases e : y = x
    · subst e; rw [upd_same, hx]; rfl
    · rw [upd_other e]
  exact ⟨w', hrun, ⟨_, left, h1, hf.put hr.owns.isMap hok v, ⟨fun y hy => by rw [hs]; exact hl y hy, hnd, fun y hy => by rw [hs]; exact hsome y hy⟩, hle⟩, h2⟩
end
theorem next_s (w : World) {ops : Array Oper} {rest : List Oper} {o : Oper} {a : Act} {Q : Exit → Act → World → Prop} (hg : o.guard = none) (it : Operand) (hop : o.op = Op.next it false) (b r n : Nat) (F : ByteArray → Option Value) (vis : List ByteArray) (cnt : Nat)
    (hit : a.eval it = .pointer (some ⟨r, 0, none⟩)) (h : MG CS w b r n F vis cnt)
    (hDone : (∀ x, (F x).isSome = true → x ∈ vis) → wpList Tryz.prog ops Q rest (a.put o.dst (.tuple #[.bool false])) w)
    (hMore : ∀ (x : ByteArray) (v : Value) (w' : World) (cnt' : Nat), CS.ok x → x ∉ vis → F x = some v → MG CS w' b r n F (vis ++ [x]) cnt' → cnt' < cnt → w.grownBy w' (some r) → (Instr.entry (.pointer (some ⟨r, 0, none⟩))).run Tryz.prog w' = .ok (.tuple #[.string x, v]) w' → wpList Tryz.prog ops Q rest (a.put o.dst (.tuple #[.bool true, .string x, v])) w') :
    wpList Tryz.prog ops Q (o :: rest) a w := next_w w CS hg it hop b r n F vis cnt hit h hDone hMore
theorem next_i (w : World) {ops : Array Oper} {rest : List Oper} {o : Oper} {a : Act} {Q : Exit → Act → World → Prop} (hg : o.guard = none) (it : Operand) (hop : o.op = Op.next it false) (b r n : Nat) (F : Int → Option Value) (vis : List Int) (cnt : Nat)
    (hit : a.eval it = .pointer (some ⟨r, 0, none⟩)) (h : MG CI w b r n F vis cnt)
    (hDone : (∀ x, (F x).isSome = true → x ∈ vis) → wpList Tryz.prog ops Q rest (a.put o.dst (.tuple #[.bool false])) w)
    (hMore : ∀ (x : Int) (v : Value) (w' : World) (cnt' : Nat), CI.ok x → x ∉ vis → F x = some v → MG CI w' b r n F (vis ++ [x]) cnt' → cnt' < cnt → w.grownBy w' (some r) → (Instr.entry (.pointer (some ⟨r, 0, none⟩))).run Tryz.prog w' = .ok (.tuple #[.int .i64 x, v]) w' → wpList Tryz.prog ops Q rest (a.put o.dst (.tuple #[.bool true, .int .i64 x, v])) w') :
    wpList Tryz.prog ops Q (o :: rest) a w := next_w w CI hg it hop b r n F vis cnt hit h hDone hMore
end Go.Proofs.YtgoephcembgmcaaGreatDoor.G
namespace Go.Proofs.YtgoephcembgmcaaGreatDoor.G
open Go.RowKit Go.Maps Go.Proofs.YtgoephcembgmcaaGreatDoorW.PrintWords Go.Proofs.YtgoephcembgmcaaGreatDoorW.PrintLast
/-! Rows of states; their data are rows of one byte. -/
theorem info100 : (Tryz.prog.info? 100).map (fun i => (i.zero, i.size, i.bytes)) = some (some (.agg #[.int .i64 0, .slice none 0 0, .bool false]), 3, 40) := by kernel_rfl
structure St where
  frm : Nat
  dat : Sc
  mrk : Int
def stc (s : St) : List Value := [.int .i64 (s.frm : Int), slv s.dat, .bool false]
/-- A row of one byte. -/
def DR (w : World) (base : Nat) (d : Sc) (m : Int) : Prop := w.ownsRow base 5 1 (slv d) 1 [.int .u8 m]
theorem owns_typed {w : World} {base e size n : Nat} {v : Value} {xs : List Value} (h : w.ownsRow base e size v n xs) : ∀ g, v.ownBlock = some g → base ≤ g ∧ ∃ cells, w.heap[g]? = some (.cells cells e (0, 0)) := by
  intro k hk
  rcases h.2 with ⟨rfl, _⟩ | ⟨g, cap, cur, rfl, hb, hg, _⟩
  · cases hk
  · obtain rfl : g = k := Option.some.inj hk
    exact ⟨hb, cur, hg⟩
section
variable {w w1 : World} {base : Nat} {d : Sc} {m : Int}
theorem DR.block (h : DR w base d m) (hk : ∀ g, (slv d).ownBlock = some g → w1.heap[g]? = w.heap[g]?) : DR w1 base d m := owns_block h hk
theorem DR.lt (h : DR w base d m) : ∀ g, (slv d).ownBlock = some g → g < w.heap.size := fun g hg => (Array.getElem?_eq_some_iff.1 (owns_typed h g hg).2.choose_spec).1
theorem DR.below (h : DR w base d m) (hb : Below w.heap.size w w1) : DR w1 base d m := DR.block h (fun g hg => hb.block g (DR.lt h g hg))
theorem DR.form (h : DR w base d m) : ∃ g c, d = (some ⟨g, 0, none⟩, 1, c) ∧ w.cell? ⟨g, 0, none⟩ = some (.int .u8 m) ∧ base ≤ g ∧ g < w.heap.size ∧ 1 ≤ c := by
  obtain ⟨A, n, c⟩ := d
  have hl := DR.lt h
  rcases h.2 with ⟨hv, h0⟩ | ⟨g, cap, cur, hv, hb, hg, hc, _⟩
  · omega
  · have hv : Value.slice A n c = _ := hv
    injection hv with e1 e2 e3
    subst e1 e2 e3
    refine ⟨g, c, rfl, ?_, hb, (Array.getElem?_eq_some_iff.1 hg).1, hc⟩
    have := h.cells (g := g) rfl 0 _ rfl
    rw [add_plain] at this
    exact this
end
/-- A row of states. -/
def SR (w : World) (base : Nat) (v : Value) (ss : List St) : Prop := w.ownsRow base 100 3 v ss.length (ss.flatMap stc) ∧ ∀ s ∈ ss, DR w base s.dat s.mrk
theorem ss_get : ∀ (ss : List St) (j : Nat) (s : St), ss[j]? = some s → ∀ l u, (stc s)[l]? = some u → (ss.flatMap stc)[j * 3 + l]? = some u
  | [], j, s, h, _, _, _ => by simp at h
  | y :: ss, 0, s, h, l, u, hu => by
    obtain rfl : y = s := by simpa using h
    have hl : l < 3 := (List.getElem?_eq_some_iff.1 hu).1
    rw [List.flatMap_cons, Nat.zero_mul, Nat.zero_add, List.getElem?_append_left (show l < (stc y).length from hl)]
    exact hu
  | y :: ss, j + 1, s, h, l, u, hu => by
    rw [List.flatMap_cons, List.getElem?_append_right (show (stc y).length ≤ (j + 1) * 3 + l from by show 3 ≤ _; omega)]
    rw [show (j + 1) * 3 + l - (stc y).length = j * 3 + l from by show _ - 3 = _; omega]
    exact ss_get ss j s (by simpa using h) l u hu
section
variable {w w1 : World} {base : Nat} {v : Value} {ss : List St}
/-- Only rows of states and of bytes count. -/
theorem SR.move (h : SR w base v ss) (hk : ∀ k, base ≤ k → k < w.heap.size → (v.ownBlock = some k ∨ ∃ cells, w.heap[k]? = some (.cells cells 5 (0, 0))) → w1.heap[k]? = w.heap[k]?) : SR w1 base v ss := by
  refine ⟨owns_block h.1 (fun k hb => ?_), fun s hs => DR.block (h.2 s hs) (fun g hg => ?_)⟩
  · have hl := h.1.lt k hb
    exact hk k hl.1 hl.2 (.inl hb)
  · have ht := owns_typed (h.2 s hs) g hg
    exact hk g ht.1 (DR.lt (h.2 s hs) g hg) (.inr ht.2)
theorem SR.below (h : SR w base v ss) (hb : Below w.heap.size w w1) : SR w1 base v ss := h.move (fun k _ hlt _ => hb.block k hlt)
theorem SR.nil (w : World) (base : Nat) : SR w base (.slice none 0 0) [] := ⟨World.ownsRow_nil _ _ _ _, by simp⟩
theorem SR.slice (h : SR w base v ss) : ∃ A c, v = .slice A ss.length c ∧ (0 < ss.length → ∃ g, A = some ⟨g, 0, none⟩ ∧ base ≤ g ∧ g < w.heap.size) ∧ ss.length ≤ c := by
  rcases h.1.2 with ⟨hv, h0⟩ | ⟨g, cap, cur, rfl, hb, hg, hc, _⟩
  · refine ⟨none, 0, by rw [h0]; exact hv, fun hp => ?_, by omega⟩
    omega
  · exact ⟨_, cap, rfl, fun _ => ⟨g, rfl, hb, (Array.getElem?_eq_some_iff.1 hg).1⟩, hc⟩
theorem SR.lt (h : SR w base v ss) : ∀ g, v.ownBlock = some g → base ≤ g ∧ g < w.heap.size := h.1.lt
theorem SR.typed (h : SR w base v ss) : ∀ g, v.ownBlock = some g → base ≤ g ∧ ∃ cells, w.heap[g]? = some (.cells cells 100 (0, 0)) := owns_typed h.1
theorem SR.at_ {A : Option Addr} {n c : Nat} (h : SR w base (.slice A n c) ss) (j : Nat) (s : St) (hs : ss[j]? = some s) :
    ∃ ad, A = some ad ∧ w.cell? (ad.add (j * 3)) = some (.int .i64 (s.frm : Int)) ∧ w.cell? ⟨(ad.add (j * 3)).block, (ad.add (j * 3)).off + 1, none⟩ = some (slv s.dat) ∧ w.cell? ⟨(ad.add (j * 3)).block, (ad.add (j * 3)).off + 2, none⟩ = some (.bool false) := by
  have hj : j < ss.length := (List.getElem?_eq_some_iff.1 hs).1
  rcases h.1.2 with ⟨hv, h0⟩ | ⟨g, cap, cur, hv, hb, hg, hc, h5⟩
  · omega
  · cases hv
    have hcell := h.1.cells (g := g) rfl
    refine ⟨_, rfl, ?_, ?_, ?_⟩
    · have := hcell (j * 3 + 0) _ (ss_get ss j s hs 0 _ rfl)
      exact this
    · have := hcell (j * 3 + 1) _ (ss_get ss j s hs 1 _ rfl)
      rw [add_plain] at this ⊢
      exact this
    · have := hcell (j * 3 + 2) _ (ss_get ss j s hs 2 _ rfl)
      rw [add_plain] at this ⊢
      exact this
/-- A state put behind the row. -/
theorem SR.append (h : SR w base v ss) (hb : base ≤ w.heap.size) (hl : ss.length ≤ 1000) (s : St) (hd : DR w base s.dat s.mrk) :
    ∃ g c w1, (Builtin.append_ #[90, 90] 90 #[v, .slice (some ⟨w.heap.size, 0, none⟩) 1 1]).run Tryz.prog (w.alloc (.cells #[.int .i64 (s.frm : Int), slv s.dat, .bool false] 100)) = .ok (.slice (some ⟨g, 0, none⟩) (ss.length + 1) c) w1 ∧
      SR w1 base (.slice (some ⟨g, 0, none⟩) (ss.length + 1) c) (ss ++ [s]) ∧ w.grownBy w1 v.ownBlock ∧ (v.ownBlock = some g ∨ w.heap.size ≤ g) := by
  obtain ⟨i0, hi, hz, hsz, hby⟩ := info_parts info100
  have ha := below_alloc (Below.refl w.heap.size w) (.cells #[.int .i64 (s.frm : Int), slv s.dat, .bool false] 100)
  have hown := (h.below ha).1
  have hnew := blk_new w (.cells #[.int .i64 (s.frm : Int), slv s.dat, .bool false] 100)
  obtain ⟨v1, w1, hr, ho, hg, _, hloc⟩ := run_append_own_at (P := Tryz.prog) (w := w.alloc (.cells #[.int .i64 (s.frm : Int), slv s.dat, .bool false] 100)) base 90 90 100 i0 _ 3 40 Tryz.underlying90 hi hz hsz hby rfl (by decide) v ss.length _ hown
    ⟨w.heap.size, 0, none⟩ 1 1 [.int .i64 (s.frm : Int), slv s.dat, .bool false] rfl (fun j u hj => by
      rw [add_plain, blk_cell hnew]
      simpa using hj) (by intro u hu; simp only [List.mem_cons, List.mem_nil_iff, or_false] at hu; rcases hu with rfl | rfl | rfl <;> rfl) (by simp only [maxLen]; omega) (by omega) (by rw [World.size_alloc]; omega)
  have hrow : (ss ++ [s]).flatMap stc = ss.flatMap stc ++ [.int .i64 (s.frm : Int), slv s.dat, .bool false] := by rw [List.flatMap_append]; rfl
  rw [← hrow] at ho
  have hgw : w.grownBy w1 v.ownBlock := ⟨hg.os.trans ha.os, hg.tape.trans ha.tape, hg.output.trans ha.output, Nat.le_trans ha.size hg.size, fun k hk hne => (hg.block k (Nat.lt_of_lt_of_le hk ha.size) hne).trans (ha.block k hk)⟩
  have hkeep : ∀ (d : Sc) (m : Int), DR w base d m → DR w1 base d m := fun d m hd => DR.block hd (fun g hg2 => hgw.block g (DR.lt hd g hg2) (fun e => by
    obtain ⟨_, c1, h1⟩ := owns_typed hd g hg2
    obtain ⟨_, c2, h2⟩ := h.typed g e.symm
    rw [h1] at h2
    cases h2))
  have hSR : SR w1 base v1 (ss ++ [s]) := by
    refine ⟨by rw [List.length_append]; exact ho, fun z hz => ?_⟩
    rcases List.mem_append.1 hz with hz | hz
    · exact hkeep _ _ (h.2 z hz)
    · rw [List.mem_singleton.1 hz]
      exact hkeep _ _ hd
  obtain ⟨A, c, rfl, hA, _⟩ := hSR.slice
  obtain ⟨g, rfl, _⟩ := hA (by simp)
  rw [List.length_append] at hr hSR hloc
  refine ⟨g, c, w1, hr, hSR, hgw, ?_⟩
  rcases hloc with e | e
  · exact .inl e.symm
  · have : g = (w.alloc (.cells #[.int .i64 (s.frm : Int), slv s.dat, .bool false] 100)).heap.size := Option.some.inj e
    rw [World.size_alloc] at this
    exact .inr (by omega)
end
end Go.Proofs.YtgoephcembgmcaaGreatDoor.G
