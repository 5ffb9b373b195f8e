import Derived.Test.YtgoephcembgmcaaDoorQ07
import Derived.Test.YtgoephcembgmcaaDoorWEqStruct
import Derived.ChangeKeysEq
set_option linter.unusedSimpArgs false
set_option linter.unusedVariables false
namespace Go.Proofs.YtgoephcembgmcaaDoor.Bl
open Go.RowKit Go.Proofs.YtgoephcembgmcaaDoorW.PrintWords Go.Proofs.YtgoephcembgmcaaDoorW.PrintLast Wk FrM Fr Sh Rg
open WkM (w64 Bytes val)
open Go.Maps Go.WideElems Go.MapKept
def T90_3 : Bool × List (List Nat × List Nat) := (true, [([], []), ([], []), ([1], [1]), ([0, 2], [0, 2]), ([], []), ([4], [4]), ([], []), ([6], [6]), ([], []), ([], []), ([9], [9]), ([8, 10], [8, 10]), ([7, 11], [7, 11]), ([5, 12], [5, 12]), ([3, 0, 1, 2, 3], [3]), ([13, 14, 0, 1, 2, 3, 4, 5, 6, 7, 8, 9, 10, 11, 12, 13, 14], [13])])
def BT90_3 : List Nat := [0, 0, 2, 7, 0, 16, 0, 64, 0, 0, 512, 1792, 4032, 8176, 15, 32767]
theorem tabT90_3 : rtab .any (opsOf Tryd.f90 3) = T90_3 := by kernel_rfl
theorem bitsT90_3 : waitsOk T90_3.2 BT90_3 = true := by kernel_rfl

set_option maxHeartbeats 4000000 in
set_option maxRecDepth 100000 in
/-- Some numbers come back. -/
theorem span_any (A : Option Addr) (c n m i : Nat) (w : World) (hi : i < m) (hn : n ≤ 500) (hm : m ≤ 200) :
    Calls Tryd.prog 90 #[sgV n (.slice A m c), .int .i64 (i : Int)] w fun e w' => (∃ x y : Int, e = .returned (.tuple #[.int .i64 x, .int .i64 y])) ∧ Below w.heap.size w w' := by
  have d1 : ¬ (i : Int) < 0 := by omega
  have d2 : ¬ (m : Int) ≤ (i : Int) := by omega
  have S0 : Hid (Sg (w.alloc (.cells #[.int .i64 4, .int .i64 8, .int .i64 (n : Int), .slice A m c] 33)) w.heap.size n (.slice A m c)) := blk_new _ _
  have B0 : Hid (Below w.heap.size w (w.alloc (.cells #[.int .i64 4, .int .i64 8, .int .i64 (n : Int), .slice A m c] 33))) := below_alloc (Below.refl _ _) _
  have HI := hide hi
  clear hi
  go_enter Tryd.func90, Tryd.ntmps90
  go_wp2
  generalize w.alloc (.cells #[.int .i64 4, .int .i64 8, .int .i64 (n : Int), .slice A m c] 33) = w1 at S0 B0 ⊢
  have SD : Hid (Sg w1.drew w.heap.size n (.slice A m c)) := unhide S0
  have BD := hide (below_drew (unhide B0))
  obtain ⟨p, hp⟩ : ∃ p : Int, p = wrap64 ((i : Int) * 4) := ⟨_, rfl⟩
  obtain ⟨q, hq⟩ : ∃ q : Int, q = wrap64 ((n : Int) - p) := ⟨_, rfl⟩
  have hp' := hp.symm
  have hq' := hq.symm
  clear hp hq S0 B0
  refine start_ (n := 16) (S := fun w' => Sg w' w.heap.size n (.slice A m c)) (ds := []) (bt 16 0) (by kernel_rfl) rfl (by kernel_rfl) (unhide SD) (fun hHeld => ?_)
  refine with_tabW tabT90_3 bitsT90_3 (fun HT_ HW_ => ?_)
  refine run_ [(0, 15), (1, 16)] ?_
  iterate 2 ((first | refine sp_ (v := ?_) (a' := ?_) HT_.out rfl rfl rfl (by kernel_rfl) (fun _ _ _ h => h) ?_ ?_ ?_ | refine sg_ (v := ?_) (a' := ?_) HT_.out rfl rfl (by kernel_rfl) (fun _ _ _ h => h) (by rfl) ?_ ?_ ?_); rotate_left; (· intro w'; go_simp; with_reducible rfl); rotate_left; (· simp only [Act.put, List.setIfInBounds_toArray, List.set_cons_zero, List.set_cons_succ, i64_w, i32_w]; rfl))
  refine rend_ ?_
  refine take_ (i := 2) (N := some 17) (v := ?_) (a' := ?_) (bt 16 7) rfl rfl (take_ofW HT_.out HW_.out (by kernel_rfl)) (fun _ _ _ h => h) (Or.inl ⟨by rfl, ?_⟩) hHeld ?_ ?_
  rotate_left
  · rintro w' h1_
    obtain ⟨⟨_, _, _, _⟩, _, _⟩ := box4 h1_
    go_simp
    with_reducible rfl
  rotate_left
  · simp only [Act.put, List.setIfInBounds_toArray, List.set_cons_zero, List.set_cons_succ, i64_w, i32_w]
    rfl
  refine run_ [(3, 18), (4, 19)] ?_
  iterate 2 ((first | refine sp_ (v := ?_) (a' := ?_) HT_.out rfl rfl rfl (by kernel_rfl) (fun _ _ _ h => h) ?_ ?_ ?_ | refine sg_ (v := ?_) (a' := ?_) HT_.out rfl rfl (by kernel_rfl) (fun _ _ _ h => h) (by rfl) ?_ ?_ ?_); rotate_left; (· intro w'; go_simp; with_reducible rfl); rotate_left; (· simp only [Act.put, List.setIfInBounds_toArray, List.set_cons_zero, List.set_cons_succ, i64_w, i32_w]; rfl))
  refine rend_ ?_
  refine take_ (i := 5) (N := some 20) (v := ?_) (a' := ?_) (bt 16 63) rfl rfl (take_ofW HT_.out HW_.out (by kernel_rfl)) (fun _ _ _ h => h) (Or.inl ⟨by rfl, ?_⟩) hHeld ?_ ?_
  rotate_left
  · rintro w' h1_
    obtain ⟨⟨_, _, _, _⟩, _, _⟩ := box4 h1_
    go_simp
    with_reducible rfl
  rotate_left
  · simp only [Act.put, List.setIfInBounds_toArray, List.set_cons_zero, List.set_cons_succ, i64_w, i32_w]
    rfl
  refine run_ [(6, 21)] ?_
  iterate 1 ((first | refine sp_ (v := ?_) (a' := ?_) HT_.out rfl rfl rfl (by kernel_rfl) (fun _ _ _ h => h) ?_ ?_ ?_ | refine sg_ (v := ?_) (a' := ?_) HT_.out rfl rfl (by kernel_rfl) (fun _ _ _ h => h) (by rfl) ?_ ?_ ?_); rotate_left; (· intro w'; go_simp; with_reducible rfl); rotate_left; (· simp only [Act.put, List.setIfInBounds_toArray, List.set_cons_zero, List.set_cons_succ, i64_w, i32_w]; rfl))
  refine rend_ ?_
  refine take_ (i := 7) (N := some 22) (v := ?_) (a' := ?_) (bt 16 255) rfl rfl (take_ofW HT_.out HW_.out (by kernel_rfl)) (fun _ _ _ h => h) (Or.inl ⟨by rfl, ?_⟩) hHeld ?_ ?_
  rotate_left
  · rintro w' h1_
    obtain ⟨⟨_, _, _, _⟩, _, _⟩ := box4 h1_
    go_simp
    with_reducible rfl
  rotate_left
  · simp only [Act.put, List.setIfInBounds_toArray, List.set_cons_zero, List.set_cons_succ, i64_w, i32_w]
    rfl
  refine run_ [(8, 23), (9, 24)] ?_
  iterate 2 ((first | refine sp_ (v := ?_) (a' := ?_) HT_.out rfl rfl rfl (by kernel_rfl) (fun _ _ _ h => h) ?_ ?_ ?_ | refine sg_ (v := ?_) (a' := ?_) HT_.out rfl rfl (by kernel_rfl) (fun _ _ _ h => h) (by rfl) ?_ ?_ ?_); rotate_left; (· intro w'; go_simp; with_reducible rfl); rotate_left; (· simp only [Act.put, List.setIfInBounds_toArray, List.set_cons_zero, List.set_cons_succ, i64_w, i32_w]; rfl))
  refine rend_ ?_
  refine take_ (i := 10) (N := some 25) (v := ?_) (a' := ?_) (bt 16 2047) rfl rfl (take_ofW HT_.out HW_.out (by kernel_rfl)) (fun _ _ _ h => h) (Or.inl ⟨by rfl, ?_⟩) hHeld ?_ ?_
  rotate_left
  · rintro w' h1_
    obtain ⟨⟨_, _, _, _⟩, _, _⟩ := box4 h1_
    go_simp
    with_reducible rfl
  rotate_left
  · simp only [Act.put, List.setIfInBounds_toArray, List.set_cons_zero, List.set_cons_succ, i64_w, i32_w]
    rfl
  refine run_ [(11, 26), (12, 27), (13, 28), (14, 4), (15, 5)] ?_
  iterate 5 ((first | refine sp_ (v := ?_) (a' := ?_) HT_.out rfl rfl rfl (by kernel_rfl) (fun _ _ _ h => h) ?_ ?_ ?_ | refine sg_ (v := ?_) (a' := ?_) HT_.out rfl rfl (by kernel_rfl) (fun _ _ _ h => h) (by rfl) ?_ ?_ ?_); rotate_left; (· intro w'; go_simp; with_reducible rfl); rotate_left; (· simp only [Act.put, List.setIfInBounds_toArray, List.set_cons_zero, List.set_cons_succ, i64_w, i32_w]; rfl))
  refine rend_ ?_
  refine done_ (done_of HT_.out (by kernel_rfl)) ?_
  clear HT_ HW_ hHeld
  go_wp2
  · refine bodyPost_ret (v := .tuple #[.int .i64 p, .int .i64 q]) (by simp [results, Tryd.results90, go_sem]) rfl ⟨⟨p, q, rfl⟩, unhide BD⟩
  · refine bodyPost_ret (v := .tuple #[.int .i64 p, .int .i64 4]) (by simp [results, Tryd.results90, go_sem]) rfl ⟨⟨p, 4, rfl⟩, unhide BD⟩
end Go.Proofs.YtgoephcembgmcaaDoor.Bl
namespace Go.Proofs.YtgoephcembgmcaaDoor.Bl
open Go.RowKit Go.Proofs.YtgoephcembgmcaaDoorW.PrintWords Go.Proofs.YtgoephcembgmcaaDoorW.PrintLast Wk Fr Sh Rg
/-! Blocks compared: some answer. -/
theorem part5 (xs : List Int) (W : World) (i : Nat) (hi : i < xs.length) : (part 5 (bys xs) i).run Tryd.prog W = .ok (.int .u8 (rd xs (i : Int))) W := by
  have ha : (isAgg 5).run Tryd.prog W = .ok false W := by
    have h5 := Tryd.underlying5
    unfold isAgg
    rw [Sem.run_bind, run_underlying h5 W]
    rfl
  simp [part, ha, bys_get xs i hi]
theorem eqItems_any (xs ys : List Int) (d : Nat) : ∀ is : List Nat, (∀ i ∈ is, i < xs.length ∧ i < ys.length) → ∃ b, ∀ W, (Op.eqItems (d + 1) 5 1 (bys xs) (bys ys) is).run Tryd.prog W = .ok b W
  | [], _ => ⟨true, fun W => by simp [Op.eqItems]⟩
  | i :: is, h => by
    have h5 := Tryd.underlying5
    have he : ∀ W, (Op.equalIn (d + 1) 5 (.int .u8 (rd xs (i : Int))) (.int .u8 (rd ys (i : Int)))).run Tryd.prog W = .ok (rd xs (i : Int) == rd ys (i : Int)) W := by
      intro W
      simp [Op.equalIn, run_underlying h5]
    obtain ⟨b, hb⟩ := eqItems_any xs ys d is (fun j hj => h j (by simp [hj]))
    obtain ⟨h1, h2⟩ := h i (by simp)
    by_cases hx : (rd xs (i : Int) == rd ys (i : Int)) = true
    · refine ⟨b, fun W => ?_⟩
      simp only [Op.eqItems, Sem.run_bind, Nat.mul_one, part5 xs W i h1, part5 ys W i h2, Result.andThen_ok, he, hx, Bool.not_true, Bool.false_eq_true, if_false]
      exact hb W
    · refine ⟨false, fun W => ?_⟩
      have hx' : (rd xs (i : Int) == rd ys (i : Int)) = false := by simpa using hx
      simp only [Op.eqItems, Sem.run_bind, Nat.mul_one, part5 xs W i h1, part5 ys W i h2, Result.andThen_ok, he, hx', Bool.not_false, if_true]
      rfl
theorem cells5 : Tryd.prog.cellsOf 5 = 1 := by kernel_rfl
theorem equal28_any (xs ys : List Int) (hx : xs.length = 32) (hy : ys.length = 32) (d : Nat) : ∃ b, ∀ W, (Op.equalIn (d + 2) 28 (.agg (bys xs)) (.agg (bys ys))).run Tryd.prog W = .ok b W := by
  obtain ⟨i0, hi, _⟩ := info_parts info5
  obtain ⟨b, hb⟩ := eqItems_any xs ys d (List.range 32) (fun i hi => by have := List.mem_range.1 hi; omega)
  refine ⟨b, fun W => ?_⟩
  rw [run_equalIn_array (P := Tryd.prog) W (d + 1) (bys xs) (bys ys) Tryd.underlying28 hi, cells5]
  exact hb W
theorem part28_ (v a0 a1 a2 a3 a4 a5 a6 a7 a8 a9 a10 a11 a12 a13 a14 a15 a16 a17 a18 a19 a20 a21 a22 a23 a24 a25 a26 a27 a28 a29 a30 a31 : Int) (W : World) : (part 28 (bk v [a0, a1, a2, a3, a4, a5, a6, a7, a8, a9, a10, a11, a12, a13, a14, a15, a16, a17, a18, a19, a20, a21, a22, a23, a24, a25, a26, a27, a28, a29, a30, a31]).toArray 1).run Tryd.prog W = .ok (.agg (bys [a0, a1, a2, a3, a4, a5, a6, a7, a8, a9, a10, a11, a12, a13, a14, a15, a16, a17, a18, a19, a20, a21, a22, a23, a24, a25, a26, a27, a28, a29, a30, a31])) W := by kernel_rfl
theorem part28 (v : Int) (s : List Int) (h : s.length = 32) (W : World) : (part 28 (bk v s).toArray 1).run Tryd.prog W = .ok (.agg (bys s)) W := by
  match s, h with
  | [a0, a1, a2, a3, a4, a5, a6, a7, a8, a9, a10, a11, a12, a13, a14, a15, a16, a17, a18, a19, a20, a21, a22, a23, a24, a25, a26, a27, a28, a29, a30, a31], _ => exact part28_ v a0 a1 a2 a3 a4 a5 a6 a7 a8 a9 a10 a11 a12 a13 a14 a15 a16 a17 a18 a19 a20 a21 a22 a23 a24 a25 a26 a27 a28 a29 a30 a31 W
theorem part84 (v : Int) (s : List Int) (W : World) : (part 84 (bk v s).toArray 0).run Tryd.prog W = .ok (.int .u32 v) W := by
  have h5 := Tryd.underlying84
  have ha : (isAgg 84).run Tryd.prog W = .ok false W := by
    unfold isAgg
    rw [Sem.run_bind, run_underlying h5 W]
    rfl
  simp [part, ha, bk]
theorem eq84 (d : Nat) (a b : Int) (W : World) : (Op.equalIn (d + 1) 84 (.int .u32 a) (.int .u32 b)).run Tryd.prog W = .ok (a == b) W := by
  have h5 := Tryd.underlying84
  simp [Op.equalIn, run_underlying h5]
theorem equal86_any (v v' : Int) (s s' : List Int) (hx : s.length = 32) (hy : s'.length = 32) (d : Nat) : ∃ b, ∀ W, (Op.equalIn (d + 3) 86 (.agg (bk v s).toArray) (.agg (bk v' s').toArray)).run Tryd.prog W = .ok b W := by
  obtain ⟨b, hb⟩ := equal28_any s s' hx hy d
  refine ⟨(v == v') && b, fun W => ?_⟩
  refine eqA_of Tryd.underlying86 (by kernel_rfl) ?_
  refine eqf_cons (by rfl) (part84 v s W) (part84 v' s' W) (eq84 _ _ _ _) ?_
  exact eqf_last (by rfl) (part28 v s hx W) (part28 v' s' hy W) (hb W)
theorem exec_eq86 {xs ys : Array Value} {b : Bool} (hb : ∀ W, (Op.equalIn 10000 86 (.agg xs) (.agg ys)).run Tryd.prog W = .ok b W) (o : Oper) (ev : Operand → Value) (x y : Operand) (ho : o.op = .binOp .eql 86 x y 86) (h1 : ev x = .agg xs) (h2 : ev y = .agg ys) (W : World) :
    (execOp ev o).run Tryd.prog W = .ok (.value (.bool b)) W := by
  unfold execOp
  rw [ho]
  simp only [h1, h2, Sem.run_map, Sem.run_bind, run_eqGuard_agg (P := Tryd.prog) W .eql 86 x y xs ys (by kernel_rfl), run_eql_struct, Result.andThen_ok, hb W]
  rfl
theorem range_bys {W : World} {p t : Nat} {s : List Int} (h : W.heap[p]? = some (.cells (bys s) t (0, 0))) : W.rangeAt p 0 (s.map (Value.int .u8)) := fun j v hv => by
  rw [Nat.zero_add]
  exact (blk_cell h j).trans (by unfold bys; rw [List.getElem?_toArray]; exact hv)
theorem exec_build86 (v : Int) (s : List Int) (h : s.length = 32) (o : Oper) (ev : Operand → Value) (x y : Operand) (ho : o.op = .build 86 #[(0, x), (1, y)]) (h1 : ev x = .int .u32 v) (h2 : ev y = .agg (bys s)) (W : World) :
    (execOp ev o).run Tryd.prog W = .ok (.value (.agg (bk v s).toArray)) W := by
  unfold execOp
  rw [ho]
  simp only [List.map_toArray, List.map_cons, List.map_nil, h1, h2, Sem.run_map, Sem.run_bind, run_build (P := Tryd.prog) W 86 _ _ (built86 v s h), Result.andThen_ok]
  rfl
theorem exec_load_mid {P : Program} (ty : TypeId) (x : Operand) (o : Oper) (ev : Operand → Value) (W : World) (ho : o.op = .load ty x) (b k : Nat) (hx : ev x = .pointer (some ⟨b, k, none⟩)) (cs : List Value) (d : TypeDesc) (hc : W.rangeAt b k cs)
    (hu : P.underlying ty = some d) (hd : d.isRow = true) (hi : (P.info? ty).map (·.size) = some cs.length) : (execOp ev o).run P W = .ok (.value (.agg cs.toArray)) W := by
  unfold execOp
  simp only [ho, hx, Instr.loadAt, Instr.sureAddr, Sem.run_bind, Sem.run_pure, Result.andThen_ok, run_loadVar_mid W b k ty cs d hc hu hd hi]
end Go.Proofs.YtgoephcembgmcaaDoor.Bl
namespace Go.Proofs.YtgoephcembgmcaaDoor.Bl
open Go.RowKit Go.Proofs.YtgoephcembgmcaaDoorW.PrintWords Go.Proofs.YtgoephcembgmcaaDoorW.PrintLast Wk FrM Fr Sh Rg
open WkM (w64 Bytes val)
open Go.Maps Go.MapKept
def T65_9 : Bool × List (List Nat × List Nat) := (true, [([], []), ([], []), ([1], [1]), ([0, 2], [0, 2]), ([3], [3]), ([4], [4]), ([5, 4], [4, 5]), ([6, 4], [4, 6]), ([7, 4], [4, 7]), ([8, 4], [4, 8]), ([4], [4]), ([9, 10, 4], [4, 9, 10]), ([11, 4], [4, 11]), ([4], [4]), ([4], [4]), ([13, 14, 4], [4, 13, 14]), ([12, 15, 4], [4, 12, 15]), ([4, 16], [4, 16])])
def BT65_9 : List Nat := [0, 0, 2, 7, 15, 31, 63, 127, 255, 511, 31, 2047, 4095, 31, 31, 24607, 65535, 131071]
theorem tabT65_9 : rtab .any (opsOf Tryd.f65 9) = T65_9 := by kernel_rfl
theorem bitsT65_9 : waitsOk T65_9.2 BT65_9 = true := by kernel_rfl

theorem ints_C {w : World} {base : Nat} {v : Value} {zs : List Int} (h : w.ownsInts base 3 .i64 v zs) : ∃ A c, v = .slice A zs.length c ∧ Kd.C (Kd.int .i64) w A zs.length zs := by
  have h1 : (Kd.int .i64).R 3 w base (fun _ => True) v zs := Kd.R_of_own (enc := Value.int .i64) (by simpa [encs] using h.1) (fun _ _ => trivial)
  obtain ⟨A, c, rfl⟩ := Kd.R_slice h1
  exact ⟨A, c, rfl, (Kd.R_reads' h1).2.2⟩
set_option maxHeartbeats 4000000 in
set_option maxRecDepth 100000 in
/-- The number of a block there is, or none. -/
theorem find_any (tb mb n c wk c1 : Nat) (A A1 : Option Addr) (bs : List (Int × List Int)) (D : DataW Unit) (ys : List Int) (w : World) (hT : Tbl w tb n (.slice A bs.length c) mb) (hG : w.ownsGroups Tryd.prog 84 (mb + 1) 3 .i64 mb bs.length D) (hg : Good bs.length D) (hC : BkC w A bs) (hbs : ∀ b ∈ bs, Blk b) (hwk : wk < 4294967296)
    (hr : Kd.C (Kd.int .u8) w A1 ys.length ys) (hy : Bytes ys) (hyc : ys.length ≤ c1) (hyl : ys.length ≤ 100000) (hl : bs.length ≤ 200) (hn : n ≤ 500) :
    Calls Tryd.prog 65 #[.pointer (some ⟨tb, 0, none⟩), .int .u32 (wk : Int), .slice A1 ys.length c1] w fun e w' => (∃ (i : Nat) (ok : Bool), e = .returned (.tuple #[.int .i64 (i : Int), .bool ok]) ∧ i ≤ 200) ∧ Below w.heap.size w w' := by
  obtain ⟨v, zs, hlook, hat, hoi, hzl, -⟩ := look_all hG keyed84 Tryd.underlying181 zero184 (by simp only [maxLen]; omega) (key84 wk hwk)
  obtain ⟨A3, c3, rfl, hz3⟩ := ints_C hoi
  have hgz := hg.at hat hoi
  have hlk := hlook w rfl
  obtain ⟨m, hm⟩ : ∃ m, m = bs.length := ⟨_, rfl⟩
  obtain ⟨nz, hnz⟩ : ∃ nz, nz = zs.length := ⟨_, rfl⟩
  rw [← hm] at hT
  rw [← hnz] at hlk hz3
  have HT := hide hT
  have HGZ := hide hgz
  have HC := hide hC
  have HB := hide hbs
  have HR := hide hr
  have HY := hide hy
  have HYC := hide hyc
  have HYL := hide hyl
  have HL := hide hl
  have HN := hide hn
  have HM := hide hm
  have HZ3 := hide hz3
  have HZL := hide hzl
  have HNZ := hide hnz
  obtain ⟨⟨f0, f1, f2, f3, f4⟩, f5⟩ := box5 hT
  clear hT hG hg hC hbs hwk hr hy hyc hyl hl hn hlook hat hoi hgz hm hz3 hzl hnz
  by_cases h0 : nz = 0
  · subst h0
    go_enter Tryd.func65, Tryd.ntmps65
    go_wp2
    refine bodyPost_ret (v := .tuple #[.int .i64 0, .bool false]) (by simp [results, Tryd.results65, go_sem]) rfl ⟨⟨0, false, rfl, by decide⟩, Below.refl _ _⟩
  · have d0 : ¬ (nz : Int) = 0 := by omega
    have HNP := hide h0
    clear h0
    go_enter Tryd.func65, Tryd.ntmps65
    go_wp2_with fail
    refine (cut8_sum A1 c1 ys w (unhide HR) (unhide HY) (unhide HYC) (unhide HYL)).mono ?_
    rintro e w2 ⟨rfl, hb2⟩
    obtain ⟨s8, hs8⟩ : ∃ z, z = S8 ys := ⟨_, rfl⟩
    have h32 : s8.length = 32 := by rw [hs8]; exact S8_len ys
    rw [← hs8]
    have SZ : Hid ((Tryd.prog.info? 28).map (·.size) = some (bys s8).size) := by show _ = _; rw [bys_size, h32]; exact Wd.size28
    have SZL : Hid ((Tryd.prog.info? 28).map (·.size) = some (s8.map (Value.int .u8)).length) := by show _ = _; rw [List.length_map, h32]; exact Wd.size28
    have H32 := hide h32
    have B2 := hide hb2
    clear hb2 hs8 h32 hlk f0 f1 f2 f3 f4 f5
    go_wp2_with (refine wpList_store_row rfl 28 (.tmp 9) (.tmp 29) rfl w2.heap.size (bys s8) rfl rfl 28 _ (blk_new _ _) (unhide SZ) (by rw [bys_size, unhide H32]; rfl) (bys_one _) ?_; rw [World.setRow_alloc_new])
    obtain ⟨p9, hp9⟩ : ∃ z, z = w2.heap.size := ⟨_, rfl⟩
    have P3 : (w2.alloc (.cells (bys s8) 28)).heap[p9]? = some (.cells (bys s8) 28 (0, 0)) := by rw [hp9]; exact blk_new _ _
    have B3 := below_alloc (unhide B2) (.cells (bys s8) 28)
    have hpw : w.heap.size ≤ p9 := by rw [hp9]; exact (unhide B2).size
    rw [← hp9]
    generalize w2.alloc (.cells (bys s8) 28) = w3 at P3 B3 ⊢
    have P3 := hide P3
    have B3 := hide B3
    clear B2 hp9 hpw
    go_loopg [32] nz (fun kq v32 wr => ∃ j : Nat, v32 = .int .i64 (j : Int) ∧ Hid (j + kq = nz) ∧ Hid (wr.heap[p9]? = some (.cells (bys s8) 28 (0, 0))) ∧ Hid (Below w.heap.size w wr))
    case atStart => exact ⟨0, rfl, Nat.zero_add _, P3, B3⟩
    case round =>
      obtain ⟨j, rfl, HJ, P4, B4⟩ := hrel
      by_cases hj : j < nz
      · obtain ⟨z, hz⟩ : ∃ z, zs[j]? = some z := ⟨_, List.getElem?_eq_getElem (by have := unhide HNZ; omega)⟩
        have hzb := (unhide HGZ) z (List.mem_of_getElem? hz)
        obtain ⟨i, hi⟩ : ∃ i : Nat, i = z.toNat := ⟨_, rfl⟩
        have hzi : z = (i : Int) := by omega
        have him : i < bs.length := by omega
        obtain ⟨b, hb⟩ : ∃ b, bs[i]? = some b := ⟨_, List.getElem?_eq_getElem him⟩
        have hblen := ((unhide HB) b (List.mem_of_getElem? hb)).len
        obtain ⟨g, hgA, hrr⟩ := (unhide HC) (by omega)
        have hrA : ∀ w', Below w.heap.size w w' → w'.rangeAt g (i * 33) (bk b.1 b.2) := fun w' hbw => by
          obtain ⟨g', hgA', hr'⟩ := ((unhide HC).below hbw) (by omega)
          rw [hgA] at hgA'
          injection hgA' with hgA'
          injection hgA' with hgA'
          subst hgA'
          exact hr' i b hb
        subst hgA
        have HBLEN := hide hblen
        clear hrr hblen hb
        obtain ⟨ad, hA, hcell⟩ := Kd.at_int (Kd.C_below (unhide HZ3) (unhide B4)) (j : Int) (by omega) (by omega)
        have hrd : rd zs (j : Int) = (i : Int) := by unfold rd; rw [Int.toNat_natCast, List.getD_eq_getElem?_getD, hz]; exact hzi
        rw [hrd, Int.toNat_natCast] at hcell
        subst hA
        have T4 := blk_below (unhide HT) (unhide B4)
        obtain ⟨⟨f0, f1, f2, f3, f4⟩, f5⟩ := box5 T4
        have d1 : (j : Int) < (nz : Int) := by omega
        have HIM := hide him
        have HJL := hide hj
        have T4 := hide T4
        clear hz hzb hi hzi him hj hrd
        go_wp2_with fail
        refine (span_any (some ⟨g, 0, none⟩) c n m i wr (by have := unhide HIM; have := unhide HM; omega) (unhide HN) (by have := unhide HL; have := unhide HM; omega)).mono ?_
        rintro e w5 ⟨⟨x, y, rfl⟩, hb5⟩
        have T5 : Hid (Tbl w5 tb n (.slice (some ⟨g, 0, none⟩) m c) mb) := blk_below (unhide T4) hb5
        have P5 := hide (blk_below (unhide P4) hb5)
        have B5 := hide (below_step (unhide B4) hb5)
        clear hb5 f0 f1 f2 f3 f4 f5 T4 hcell
        have TD : Hid (Tbl w5.drew tb n (.slice (some ⟨g, 0, none⟩) m c) mb) := unhide T5
        have PD : Hid (w5.drew.heap[p9]? = some (.cells (bys s8) 28 (0, 0))) := unhide P5
        have BD := hide (below_drew (unhide B5))
        have RD := hide (hrA w5.drew (unhide BD))
        have HJ2 : Hid ((j : Int) < (nz : Int)) := d1
        clear d1
        by_cases hyy : y = (ys.length : Int)
        · subst hyy
          obtain ⟨bb, hbb⟩ := equal86_any b.1 (wk : Int) b.2 s8 (unhide HBLEN) (unhide H32) 9997
          have HBB := hide hbb
          have SZB : Hid ((Tryd.prog.info? 86).map (·.size) = some (bk b.1 b.2).length) := by show _ = _; rw [bk_len _ _ (unhide HBLEN)]; exact size86
          clear hbb
          have him2 : (i : Int) < (m : Int) := by have := unhide HIM; have := unhide HM; omega
          go_wp2
          refine start_ (n := 18) (S := fun w' => Tbl w' tb n (.slice (some ⟨g, 0, none⟩) m c) mb ∧ w'.heap[p9]? = some (.cells (bys s8) 28 (0, 0)) ∧ w'.rangeAt g (i * 33) (bk b.1 b.2)) (ds := []) (bt 18 0) (by kernel_rfl) rfl (by kernel_rfl) ⟨unhide TD, unhide PD, unhide RD⟩ (fun hHeld => ?_)
          refine with_tabW tabT65_9 bitsT65_9 (fun HT_ HW_ => ?_)
          refine run_ [(0, 45), (1, 46), (2, 47), (3, 48), (4, 49), (5, 50), (6, 51), (7, 52), (8, 53)] ?_
          iterate 9 ((first | refine sp_ (v := ?_) (a' := ?_) HT_.out rfl rfl rfl (by kernel_rfl) (fun _ _ _ h => h) ?_ ?_ ?_ | refine sg_ (v := ?_) (a' := ?_) HT_.out rfl rfl (by kernel_rfl) (fun _ _ _ h => h) (by rfl) ?_ ?_ ?_); rotate_left; (· intro w'; go_simp; with_reducible rfl); rotate_left; (· simp only [Act.put, List.setIfInBounds_toArray, List.set_cons_zero, List.set_cons_succ, i64_w, i32_w]; rfl))
          refine rend_ ?_
          refine take_ (i := 9) (N := some 54) (v := ?_) (a' := ?_) (bt 18 1023) rfl rfl (take_ofW HT_.out HW_.out (by kernel_rfl)) (fun _ _ _ h => h) (Or.inl ⟨by rfl, ?_⟩) hHeld ?_ ?_
          rotate_left
          · rintro w' ⟨h1_, h2_, h3_⟩
            obtain ⟨⟨_, _, _, _, _⟩, _⟩ := box5 h1_
            go_simp
            with_reducible rfl
          rotate_left
          · simp only [Act.put, List.setIfInBounds_toArray, List.set_cons_zero, List.set_cons_succ, i64_w, i32_w]
            rfl
          refine run_ [(10, 55), (11, 56)] ?_
          iterate 2 ((first | refine sp_ (v := ?_) (a' := ?_) HT_.out rfl rfl rfl (by kernel_rfl) (fun _ _ _ h => h) ?_ ?_ ?_ | refine sg_ (v := ?_) (a' := ?_) HT_.out rfl rfl (by kernel_rfl) (fun _ _ _ h => h) (by rfl) ?_ ?_ ?_); rotate_left; (· intro w'; go_simp; with_reducible rfl); rotate_left; (· simp only [Act.put, List.setIfInBounds_toArray, List.set_cons_zero, List.set_cons_succ, i64_w, i32_w]; rfl))
          refine rend_ ?_
          refine take_ (i := 12) (N := some 57) (v := ?_) (a' := ?_) (bt 18 8191) rfl rfl (take_ofW HT_.out HW_.out (by kernel_rfl)) (fun _ _ _ h => h) (Or.inl ⟨by rfl, ?_⟩) hHeld ?_ ?_
          rotate_left
          · rintro w' ⟨h1_, h2_, h3_⟩
            obtain ⟨⟨_, _, _, _, _⟩, _⟩ := box5 h1_
            refine exec_load_mid 86 (.tmp 56) _ _ w' ?_ g (i * 33) ?_ (bk b.1 b.2) _ h3_ Tryd.underlying86 rfl (unhide SZB)
            all_goals rfl
          rotate_left
          · simp only [Act.put, List.setIfInBounds_toArray, List.set_cons_zero, List.set_cons_succ, i64_w, i32_w]
            rfl
          refine run_ [(13, 58)] ?_
          iterate 1 ((first | refine sp_ (v := ?_) (a' := ?_) HT_.out rfl rfl rfl (by kernel_rfl) (fun _ _ _ h => h) ?_ ?_ ?_ | refine sg_ (v := ?_) (a' := ?_) HT_.out rfl rfl (by kernel_rfl) (fun _ _ _ h => h) (by rfl) ?_ ?_ ?_); rotate_left; (· intro w'; go_simp; with_reducible rfl); rotate_left; (· simp only [Act.put, List.setIfInBounds_toArray, List.set_cons_zero, List.set_cons_succ, i64_w, i32_w]; rfl))
          refine rend_ ?_
          refine take_ (i := 14) (N := some 59) (v := ?_) (a' := ?_) (bt 18 32767) rfl rfl (take_ofW HT_.out HW_.out (by kernel_rfl)) (fun _ _ _ h => h) (Or.inl ⟨by rfl, ?_⟩) hHeld ?_ ?_
          rotate_left
          · rintro w' ⟨h1_, h2_, h3_⟩
            obtain ⟨⟨_, _, _, _, _⟩, _⟩ := box5 h1_
            refine exec_load_mid 28 (.tmp 9) _ _ w' ?_ p9 0 ?_ (s8.map (Value.int .u8)) _ (range_bys h2_) Tryd.underlying28 rfl (unhide SZL)
            all_goals rfl
          rotate_left
          · simp only [Act.put, List.setIfInBounds_toArray, List.set_cons_zero, List.set_cons_succ, i64_w, i32_w]
            rfl
          refine take_ (i := 15) (N := some 60) (v := ?_) (a' := ?_) (bt 18 65535) rfl rfl (take_ofW HT_.out HW_.out (by kernel_rfl)) (fun _ _ _ h => h) (Or.inl ⟨by rfl, ?_⟩) hHeld ?_ ?_
          rotate_left
          · rintro w' ⟨h1_, h2_, h3_⟩
            obtain ⟨⟨_, _, _, _, _⟩, _⟩ := box5 h1_
            refine exec_build86 (wk : Int) s8 (unhide H32) _ _ (.tmp 58) (.tmp 59) ?_ ?_ ?_ w'
            all_goals rfl
          rotate_left
          · simp only [Act.put, List.setIfInBounds_toArray, List.set_cons_zero, List.set_cons_succ, i64_w, i32_w]
            rfl
          refine take_ (i := 16) (N := some 61) (v := ?_) (a' := ?_) (bt 18 131071) rfl rfl (take_ofW HT_.out HW_.out (by kernel_rfl)) (fun _ _ _ h => h) (Or.inl ⟨by rfl, ?_⟩) hHeld ?_ ?_
          rotate_left
          · rintro w' ⟨h1_, h2_, h3_⟩
            obtain ⟨⟨_, _, _, _, _⟩, _⟩ := box5 h1_
            refine exec_eq86 (unhide HBB) _ _ (.tmp 57) (.tmp 60) ?_ ?_ ?_ w'
            all_goals rfl
          rotate_left
          · simp only [Act.put, List.setIfInBounds_toArray, List.set_cons_zero, List.set_cons_succ, i64_w, i32_w]
            rfl
          refine run_ [(17, 62)] ?_
          iterate 1 ((first | refine sp_ (v := ?_) (a' := ?_) HT_.out rfl rfl rfl (by kernel_rfl) (fun _ _ _ h => h) ?_ ?_ ?_ | refine sg_ (v := ?_) (a' := ?_) HT_.out rfl rfl (by kernel_rfl) (fun _ _ _ h => h) (by rfl) ?_ ?_ ?_); rotate_left; (· intro w'; go_simp; with_reducible rfl); rotate_left; (· simp only [Act.put, List.setIfInBounds_toArray, List.set_cons_zero, List.set_cons_succ, i64_w, i32_w]; rfl))
          refine rend_ ?_
          refine done_ (done_of HT_.out (by kernel_rfl)) ?_
          clear HT_ HW_ hHeld
          have e1 : wrap64 ((j : Int) + 1) = ((j + 1 : Nat) : Int) := by have := unhide HJL; have := unhide HNZ; have := unhide HZL; have := unhide HL; rw [w64 _ (by omega) (by omega)]; omega
          have E1 := hide e1
          clear e1
          cases bb
          · go_wp2
            go_roundg (gk - 1)
            case measure => have := unhide HJ; have := unhide HJL; omega
            case rel => exact ⟨j + 1, by first | exact congrArg (Value.int .i64) (unhide E1) | exact congrArg (Value.int .i64) (by omega), by have := unhide HJ; have := unhide HJL; show _ = _; omega, PD, BD⟩
          · go_wp2
            refine bodyPost_ret (v := .tuple #[.int .i64 (i : Int), .bool true]) (by simp [results, Tryd.results65, go_sem]) rfl ⟨⟨i, true, rfl, by have := unhide HIM; have := unhide HL; omega⟩, unhide BD⟩
        · have hyb : (y == (ys.length : Int)) = false := by simpa using hyy
          have hyd : decide (y = (ys.length : Int)) = false := decide_eq_false hyy
          go_wp2
          refine start_ (n := 18) (S := fun w' => Tbl w' tb n (.slice (some ⟨g, 0, none⟩) m c) mb ∧ w'.heap[p9]? = some (.cells (bys s8) 28 (0, 0)) ∧ w'.rangeAt g (i * 33) (bk b.1 b.2)) (ds := []) (bt 18 0) (by kernel_rfl) rfl (by kernel_rfl) ⟨unhide TD, unhide PD, unhide RD⟩ (fun hHeld => ?_)
          refine with_tabW tabT65_9 bitsT65_9 (fun HT_ HW_ => ?_)
          refine run_ [(0, 45), (1, 46), (2, 47), (3, 48), (4, 49)] ?_
          iterate 5 ((first | refine sp_ (v := ?_) (a' := ?_) HT_.out rfl rfl rfl (by kernel_rfl) (fun _ _ _ h => h) ?_ ?_ ?_ | refine sg_ (v := ?_) (a' := ?_) HT_.out rfl rfl (by kernel_rfl) (fun _ _ _ h => h) (by rfl) ?_ ?_ ?_); rotate_left; (· intro w'; go_simp; with_reducible rfl); rotate_left; (· simp only [Act.put, List.setIfInBounds_toArray, List.set_cons_zero, List.set_cons_succ, i64_w, i32_w]; rfl))
          refine rend_ ?_
          refine pure_ (i := 5) (N := some 50) (v := undef) (a' := ?_) (bt 18 63) rfl rfl (any_of HT_.out (by kernel_rfl)) (fun _ _ _ h => h) (Or.inr ⟨by rfl, rfl⟩) ?_ ?_
          rotate_left
          · simp only [Act.put, List.setIfInBounds_toArray, List.set_cons_zero, List.set_cons_succ, i64_w, i32_w]
            rfl
          refine pure_ (i := 6) (N := some 51) (v := undef) (a' := ?_) (bt 18 127) rfl rfl (any_of HT_.out (by kernel_rfl)) (fun _ _ _ h => h) (Or.inr ⟨by rfl, rfl⟩) ?_ ?_
          rotate_left
          · simp only [Act.put, List.setIfInBounds_toArray, List.set_cons_zero, List.set_cons_succ, i64_w, i32_w]
            rfl
          refine pure_ (i := 7) (N := some 52) (v := undef) (a' := ?_) (bt 18 255) rfl rfl (any_of HT_.out (by kernel_rfl)) (fun _ _ _ h => h) (Or.inr ⟨by rfl, rfl⟩) ?_ ?_
          rotate_left
          · simp only [Act.put, List.setIfInBounds_toArray, List.set_cons_zero, List.set_cons_succ, i64_w, i32_w]
            rfl
          refine pure_ (i := 8) (N := some 53) (v := undef) (a' := ?_) (bt 18 511) rfl rfl (any_of HT_.out (by kernel_rfl)) (fun _ _ _ h => h) (Or.inr ⟨by rfl, rfl⟩) ?_ ?_
          rotate_left
          · simp only [Act.put, List.setIfInBounds_toArray, List.set_cons_zero, List.set_cons_succ, i64_w, i32_w]
            rfl
          refine pure_ (i := 9) (N := some 54) (v := undef) (a' := ?_) (bt 18 1023) rfl rfl (any_of HT_.out (by kernel_rfl)) (fun _ _ _ h => h) (Or.inr ⟨by rfl, rfl⟩) ?_ ?_
          rotate_left
          · simp only [Act.put, List.setIfInBounds_toArray, List.set_cons_zero, List.set_cons_succ, i64_w, i32_w]
            rfl
          refine pure_ (i := 10) (N := some 55) (v := undef) (a' := ?_) (bt 18 2047) rfl rfl (any_of HT_.out (by kernel_rfl)) (fun _ _ _ h => h) (Or.inr ⟨by rfl, rfl⟩) ?_ ?_
          rotate_left
          · simp only [Act.put, List.setIfInBounds_toArray, List.set_cons_zero, List.set_cons_succ, i64_w, i32_w]
            rfl
          refine pure_ (i := 11) (N := some 56) (v := undef) (a' := ?_) (bt 18 4095) rfl rfl (any_of HT_.out (by kernel_rfl)) (fun _ _ _ h => h) (Or.inr ⟨by rfl, rfl⟩) ?_ ?_
          rotate_left
          · simp only [Act.put, List.setIfInBounds_toArray, List.set_cons_zero, List.set_cons_succ, i64_w, i32_w]
            rfl
          refine pure_ (i := 12) (N := some 57) (v := undef) (a' := ?_) (bt 18 8191) rfl rfl (any_of HT_.out (by kernel_rfl)) (fun _ _ _ h => h) (Or.inr ⟨by rfl, rfl⟩) ?_ ?_
          rotate_left
          · simp only [Act.put, List.setIfInBounds_toArray, List.set_cons_zero, List.set_cons_succ, i64_w, i32_w]
            rfl
          refine pure_ (i := 13) (N := some 58) (v := undef) (a' := ?_) (bt 18 16383) rfl rfl (any_of HT_.out (by kernel_rfl)) (fun _ _ _ h => h) (Or.inr ⟨by rfl, rfl⟩) ?_ ?_
          rotate_left
          · simp only [Act.put, List.setIfInBounds_toArray, List.set_cons_zero, List.set_cons_succ, i64_w, i32_w]
            rfl
          refine pure_ (i := 14) (N := some 59) (v := undef) (a' := ?_) (bt 18 32767) rfl rfl (any_of HT_.out (by kernel_rfl)) (fun _ _ _ h => h) (Or.inr ⟨by rfl, rfl⟩) ?_ ?_
          rotate_left
          · simp only [Act.put, List.setIfInBounds_toArray, List.set_cons_zero, List.set_cons_succ, i64_w, i32_w]
            rfl
          refine pure_ (i := 15) (N := some 60) (v := undef) (a' := ?_) (bt 18 65535) rfl rfl (any_of HT_.out (by kernel_rfl)) (fun _ _ _ h => h) (Or.inr ⟨by rfl, rfl⟩) ?_ ?_
          rotate_left
          · simp only [Act.put, List.setIfInBounds_toArray, List.set_cons_zero, List.set_cons_succ, i64_w, i32_w]
            rfl
          refine pure_ (i := 16) (N := some 61) (v := undef) (a' := ?_) (bt 18 131071) rfl rfl (any_of HT_.out (by kernel_rfl)) (fun _ _ _ h => h) (Or.inr ⟨by rfl, rfl⟩) ?_ ?_
          rotate_left
          · simp only [Act.put, List.setIfInBounds_toArray, List.set_cons_zero, List.set_cons_succ, i64_w, i32_w]
            rfl
          refine run_ [(17, 62)] ?_
          iterate 1 ((first | refine sp_ (v := ?_) (a' := ?_) HT_.out rfl rfl rfl (by kernel_rfl) (fun _ _ _ h => h) ?_ ?_ ?_ | refine sg_ (v := ?_) (a' := ?_) HT_.out rfl rfl (by kernel_rfl) (fun _ _ _ h => h) (by rfl) ?_ ?_ ?_); rotate_left; (· intro w'; go_simp; with_reducible rfl); rotate_left; (· simp only [Act.put, List.setIfInBounds_toArray, List.set_cons_zero, List.set_cons_succ, i64_w, i32_w]; rfl))
          refine rend_ ?_
          refine done_ (done_of HT_.out (by kernel_rfl)) ?_
          clear HT_ HW_ hHeld
          have e1 : wrap64 ((j : Int) + 1) = ((j + 1 : Nat) : Int) := by have := unhide HJL; have := unhide HNZ; have := unhide HZL; have := unhide HL; rw [w64 _ (by omega) (by omega)]; omega
          have E1 := hide e1
          clear e1
          go_wp2
          go_roundg (gk - 1)
          case measure => have := unhide HJ; have := unhide HJL; omega
          case rel => exact ⟨j + 1, by first | exact congrArg (Value.int .i64) (unhide E1) | exact congrArg (Value.int .i64) (by omega), by have := unhide HJ; have := unhide HJL; show _ = _; omega, PD, BD⟩
      · have d1 : ¬ (j : Int) < (nz : Int) := by omega
        clear hj
        go_wp2
        refine bodyPost_ret (v := .tuple #[.int .i64 0, .bool false]) (by simp [results, Tryd.results65, go_sem]) rfl (by first | exact ⟨⟨0, false, rfl, by decide⟩, unhide B4⟩ | exact ⟨⟨0, .inl rfl, by decide⟩, unhide B4⟩)
end Go.Proofs.YtgoephcembgmcaaDoor.Bl
namespace Go.Proofs.YtgoephcembgmcaaDoor.Tk
open Go.RowKit Go.Proofs.YtgoephcembgmcaaDoorW.PrintWords Go.Proofs.YtgoephcembgmcaaDoorW.PrintLast Wk FrM Fr Bl Rg
open WkM (w64 Bytes)
theorem index_ok_m (A : Option Addr) (c n m : Nat) (bs : List (Int × List Int)) (w : World) (hm : m = bs.length) (hC : BkC w A bs) (hbs : ∀ b ∈ bs, Blk b) (hl : bs.length = (n + 3) / 4) (hn : n ≤ 500) :
    Calls Tryd.prog 61 #[sgV n (.slice A m c)] w fun e w' => ∃ (tb mb : Nat) (D : DataW Unit), e = .returned (.pointer (some ⟨tb, 0, none⟩)) ∧ Tbl w' tb n (.slice A bs.length c) mb ∧ w'.ownsGroups Tryd.prog 84 (mb + 1) 3 .i64 mb bs.length D ∧ Bl.Good bs.length D ∧ Below w.heap.size w w' := by
  subst hm
  exact index_ok A c n bs w hC hbs hl hn
theorem check_sig_m (A : Option Addr) (c n m : Nat) (bs : List (Int × List Int)) (w : World) (hm : m = bs.length) (hC : BkC w A bs) (hbs : ∀ b ∈ bs, Blk b) (hl : bs.length = (n + 3) / 4) (hn : n ≤ 500) :
    Calls Tryd.prog 60 #[sgV n (.slice A m c)] w fun e w' => e = .returned (.int .i64 0) ∧ Below w.heap.size w w' := by
  subst hm
  exact check_sig A c n bs w hC hbs hl hn
theorem size_any (a b : Int) (n : Nat) (w : World) (hn : n < 1000) : Calls Tryd.prog 62 #[.agg #[.int .u32 a, .int .u32 b, .int .u32 (n : Int)]] w fun e w' => e = .returned (.int .i64 (n : Int)) ∧ Below w.heap.size w w' := by
  have e1 : wrap64 (n : Int) = (n : Int) := w64 _ (by omega) (by omega)
  have hu := Tryd.underlying134
  go_enter Tryd.func62, Tryd.ntmps62
  go_wp2
  go_ret
  exact ⟨rfl, below_alloc (Below.refl _ _) _⟩
/-- A window of k bytes in block g. -/
def Wn (w : World) (g k : Nat) (a b : Int) : Prop := w.heap[g]? = some (.cells #[.int .u32 a, .int .u32 b, .int .u32 (k : Int)] 134 (0, 0)) ∧ (0 ≤ a ∧ a < 65536) ∧ (0 ≤ b ∧ b < 65536)
theorem tk134 : ∀ q, q ∈ 144 :: frK.E → q ≠ 134 := by
  intro q hq
  simp [frK, Kd.pair, Kd.slice, Kd.int, Kd.scalar] at hq
  omega
def T24_11 : Bool × List (List Nat × List Nat) := (true, [([], []), ([], []), ([], []), ([], []), ([3], [3]), ([2, 4], [2, 4]), ([1, 5], [1, 5]), ([6], [6]), ([0, 7, 4], [0, 7]), ([8, 8, 0, 1, 2, 3, 4, 5, 6, 7, 8], [8])])
def BT24_11 : List Nat := [0, 0, 0, 0, 8, 28, 62, 126, 255, 511]
theorem tabT24_11 : rtab .any (opsOf Tryd.f24 11) = T24_11 := by kernel_rfl
theorem bitsT24_11 : waitsOk T24_11.2 BT24_11 = true := by kernel_rfl
def T24_14 : Bool × List (List Nat × List Nat) := (true, [([], []), ([], []), ([1], [1]), ([], []), ([], []), ([], []), ([], []), ([5, 6], [5, 6]), ([3, 4, 7], [3, 4, 7]), ([0, 2, 8, 2], [0, 2, 8]), ([9], [9]), ([10], [10]), ([10], [10]), ([11, 9, 0, 1, 2, 3, 4, 5, 6, 7, 8, 9, 10, 11], [11]), ([12, 13, 0, 1, 2, 3, 4, 5, 6, 7, 8, 9, 10, 11, 12, 13], [12])])
def BT24_14 : List Nat := [0, 0, 2, 0, 0, 0, 0, 96, 248, 511, 1023, 2047, 2047, 4095, 16383]
theorem tabT24_14 : rtab .any (opsOf Tryd.f24 14) = T24_14 := by kernel_rfl
theorem bitsT24_14 : waitsOk T24_14.2 BT24_14 = true := by kernel_rfl
def T24_20 : Bool × List (List Nat × List Nat) := (true, [([], []), ([], []), ([], []), ([1, 2], [1, 2]), ([3], [3]), ([0, 4], [0, 4]), ([5, 5, 0, 1, 2, 3, 4, 5], [5])])
def BT24_20 : List Nat := [0, 0, 0, 6, 14, 31, 63]
theorem tabT24_20 : rtab .any (opsOf Tryd.f24 20) = T24_20 := by kernel_rfl
theorem bitsT24_20 : waitsOk T24_20.2 BT24_20 = true := by kernel_rfl

set_option maxHeartbeats 8000000 in
set_option maxRecDepth 100000 in
theorem dmake_ok (A : Option Addr) (c n : Nat) (bs : List (Int × List Int)) (ad : Addr) (c1 : Nat) (L : List Int) (w : World) (hC : BkC w A bs) (hbs : ∀ b ∈ bs, Blk b) (hl : bs.length = (n + 3) / 4) (hn : n ≤ 500)
    (hr : Kd.C (Kd.int .u8) w (some ad) L.length L) (hL : Bytes L) (hc : L.length ≤ c1) (hLn : L.length ≤ 501) :
    Calls Tryd.prog 24 #[sgV n (.slice A bs.length c), .slice (some ad) L.length c1] w fun e w' => ∃ (A2 : Option Addr) (c2 : Nat) (us : List (Int × Int × List Int)), e = .returned (.tuple #[.slice A2 us.length c2, .int .i64 0]) ∧ Kd.S frK 144 w' w.heap.size (fun _ => True) (.slice A2 us.length c2) us ∧ AllOk us ∧ tws us ≤ 501 ∧ Below w.heap.size w w' := by
  obtain ⟨m, hm⟩ : ∃ m, m = bs.length := ⟨_, rfl⟩
  obtain ⟨N, hN⟩ : ∃ N, N = L.length := ⟨_, rfl⟩
  have HM := hide hm
  have HNL := hide hN
  have HL := hide hl
  have HN := hide hn
  have HC := hide hC
  have HB := hide hbs
  have HR := hide hr
  have HY := hide hL
  have HCC := hide hc
  have HLN : Hid (N ≤ 501) := by show N ≤ 501; omega
  rw [← hm, ← hN]
  clear hm hl hn hC hbs hr hL hc hLn hN
  go_enter Tryd.func24, Tryd.ntmps24
  go_wp2_with fail
  have S0 : Sg (w.alloc (.cells #[.int .i64 4, .int .i64 8, .int .i64 (n : Int), .slice A m c] 33)) w.heap.size n (.slice A m c) := blk_new _ _
  have B0 : Below w.heap.size w (w.alloc (.cells #[.int .i64 4, .int .i64 8, .int .i64 (n : Int), .slice A m c] 33)) := below_alloc (Below.refl _ _) _
  have C0 : BkC (w.alloc (.cells #[.int .i64 4, .int .i64 8, .int .i64 (n : Int), .slice A m c] 33)) A bs := (unhide HC).alloc _
  show Calls _ _ _ (w.alloc (.cells #[.int .i64 4, .int .i64 8, .int .i64 (n : Int), .slice A m c] 33)) _
  generalize w.alloc (.cells #[.int .i64 4, .int .i64 8, .int .i64 (n : Int), .slice A m c] 33) = w1 at S0 B0 C0 ⊢
  refine (check_sig_m A c n m bs w1 (unhide HM) C0 (unhide HB) (unhide HL) (unhide HN)).mono ?_
  rintro e w2 ⟨rfl, hb2⟩
  have S2 := hide (blk_below S0 hb2)
  have B2 := hide (below_step B0 hb2)
  have C2 := hide (C0.below hb2)
  clear S0 B0 C0 hb2
  obtain ⟨⟨_, _, _, _⟩, ⟨_, _, _, _⟩, _⟩ := box4 (unhide S2)
  go_wp2_with fail
  refine (index_ok_m A c n m bs w2 (unhide HM) (unhide C2) (unhide HB) (unhide HL) (unhide HN)).mono ?_
  rintro e w3 ⟨tb, mb, D, rfl, hT3, hG3, hgood, hb3⟩
  have S3 := hide (blk_below (unhide S2) hb3)
  have B3 := hide (below_step (unhide B2) hb3)
  have C3 := hide ((unhide C2).below hb3)
  have T3 := hide hT3
  have G3 := hide hG3
  have GD := hide hgood
  have R3 := hide (Kd.C_below (unhide HR) (unhide B3))
  clear S2 B2 C2 hT3 hG3 hgood hb3
  go_wp2
  obtain ⟨B, hB⟩ : ∃ B, B = w3.heap.size := ⟨_, rfl⟩
  have W4 : Hid (Wn (w3.alloc (.cells #[.int .u32 0, .int .u32 0, .int .u32 0] 134)) B 0 0 0) := ⟨by rw [hB]; exact blk_new _ _, by decide, by decide⟩
  have I4 : Hid (Below B w3 (w3.alloc (.cells #[.int .u32 0, .int .u32 0, .int .u32 0] 134))) := by rw [hB]; exact below_alloc (Below.refl _ _) _
  have HBB := hide hB
  rw [← hB]
  clear hB
  generalize w3.alloc (.cells #[.int .u32 0, .int .u32 0, .int .u32 0] 134) = w4 at W4 I4 ⊢
  go_loopg [7, 9] N (fun kq v7 v9 wr => ∃ (a k : Nat) (A2 : Option Addr) (c2 : Nat) (us : List (Int × Int × List Int)) (x y : Int), v7 = .slice A2 us.length c2 ∧ v9 = .int .i64 (a : Int) ∧ Hid (a + kq = N) ∧ Hid (a + k ≤ N ∧ k ≤ 4) ∧ Hid (Wn wr B k x y) ∧ Hid (Kd.S frK 144 wr (B + 1) (fun _ => True) (.slice A2 us.length c2) us) ∧ Hid (AllOk us ∧ tws us ≤ a) ∧ Hid (Below B w3 wr))
  case atStart => exact ⟨0, 0, none, 0, [], 0, 0, rfl, rfl, Nat.zero_add _, ⟨Nat.zero_le _, by decide⟩, W4, Kd.S_nil _ _ _ _ _, ⟨fun t ht => (by cases ht), Nat.le_refl _⟩, I4⟩
  case round =>
    obtain ⟨a, k, A2, c2, us, x, y, rfl, rfl, HA, HK, W5, S5, HU, I5⟩ := hrel
    by_cases hlt : a < N
    · have d1 : (a : Int) < (N : Int) := by omega
      have hn501 := unhide HLN
      have hkk := unhide HK
      obtain ⟨r, hr⟩ : ∃ r, N = a + r := ⟨N - a, by omega⟩
      obtain ⟨z, hz⟩ : ∃ z, z = min 4 r := ⟨_, rfl⟩
      have hmin2 : (if (r : Int) < 4 then (r : Int) else 4) = (z : Int) := by split <;> omega
      have hmin3 : (if 4 < r then (4 : Int) else (r : Int)) = (z : Int) := by split <;> omega
      have hmin4 : (if (4 : Int) < (r : Int) then (4 : Int) else (r : Int)) = (z : Int) := by split <;> omega
      have hmin : (if r < 4 then (r : Int) else 4) = (z : Int) := by split <;> omega
      have HZ : Hid (k ≤ z ∧ 1 ≤ z ∧ z ≤ 4 ∧ a + z ≤ N) := by show _ ∧ _; omega
      have HLT := hide hlt
      have S6 := hide (blk_below (unhide S3) (by rw [← unhide HBB]; exact unhide I5))
      obtain ⟨⟨_, _, _, _⟩, ⟨_, _, _, _⟩, _⟩ := box4 (unhide S6)
      have HRR := hide hr
      have e1 : wrap64 ((N : Int) - (a : Int)) = (r : Int) := by rw [w64 _ (by omega) (by omega)]; omega
      clear hn501 hkk hr hz hlt
      go_wp2
      obtain ⟨gk1, h_⟩ : ∃ k, k = gk := ⟨_, rfl⟩
      subst h_
      obtain ⟨wr1, h_⟩ : ∃ k, k = wr := ⟨_, rfl⟩
      subst h_
      clear hmin hmin2 hmin3 hmin4 e1 d1
      have HSUB : Hid (k + (z - k) = z) := by have := unhide HZ; show _ = _; omega
      go_loopg [] (z - k) (fun kq wr => ∃ (q : Nat) (x y : Int), Hid (q + kq = z) ∧ Hid (Wn wr B q x y) ∧ Hid (Kd.S frK 144 wr (B + 1) (fun _ => True) (.slice A2 us.length c2) us) ∧ Hid (Below B w3 wr))
      case atStart => exact ⟨k, x, y, HSUB, W5, S5, I5⟩
      case round =>
        obtain ⟨q, x1, y1, HQ, W7, S7, I7⟩ := hrel
        obtain ⟨⟨_, _, _⟩, ⟨_, _, _⟩, _⟩ := box3 (unhide W7).1
        go_wp2_with fail
        refine (size_any x1 y1 q wr (by have := unhide HQ; have := unhide HZ; omega)).mono ?_
        rintro e w8 ⟨rfl, hb8⟩
        have W8 : Hid (Wn w8 B q x1 y1) := ⟨blk_below (unhide W7).1 hb8, (unhide W7).2⟩
        have S8 := hide (Kd.S_below (unhide S7) hb8)
        have I8 : Hid (Below B w3 w8) := (unhide I7).trans (hb8.mono (Nat.le_of_lt (blk_lt (unhide W7).1)))
        clear hb8 W7 S7 I7
        by_cases hq : q < z
        · have d2 : (q : Int) < (z : Int) := by omega
          obtain ⟨p, hp⟩ : ∃ p, p = a + q := ⟨_, rfl⟩
          have hzz := unhide HZ
          have hln := unhide HLN
          have d3 : (p : Int) < (N : Int) := by omega
          have hC8 := Kd.C_below (unhide R3) (show Below w3.heap.size w3 w8 by rw [← unhide HBB]; exact unhide I8)
          obtain ⟨ad', hA, hcell⟩ := Kd.at_int hC8 (p : Int) (by omega) (by have := unhide HNL; omega)
          injection hA with hA
          subst hA
          rw [Int.toNat_natCast] at hcell
          obtain ⟨b0, hb0⟩ : ∃ b0, b0 = rd L (p : Int) := ⟨_, rfl⟩
          have hby : 0 ≤ b0 ∧ b0 ≤ 255 := by
            have hpl : p < L.length := by have := unhide HNL; omega
            have hrd : rd L (p : Int) = L[p] := by unfold rd; rw [Int.toNat_natCast, List.getD_eq_getElem?_getD, List.getElem?_eq_getElem hpl]; rfl
            rw [hb0, hrd]
            exact (unhide HY) _ (List.getElem_mem hpl)
          rw [← hb0] at hcell
          have HCELL := hide hcell
          have HBY := hide hby
          have HQL := hide hq
          have hd3 := hide d3
          have e2 : wrap64 ((a : Int) + (q : Int)) = (p : Int) := by rw [w64 _ (by omega) (by omega)]; omega
          clear hp hzz hln hC8 hcell hb0 hby hq hd3
          go_wp2
          have WD : Hid (Wn w8.drew B q x1 y1) := unhide W8
          have SD := hide (Kd.S_drew (unhide S8))
          have ID := hide (below_drew (unhide I8))
          have CD : Hid (w8.drew.cell? (ad.add p) = some (.int .u8 b0)) := unhide HCELL
          clear W8 S8 I8 HCELL
          refine start_ (n := 10) (S := fun w' => w'.heap[B]? = some (.cells #[.int .u32 x1, .int .u32 y1, .int .u32 (q : Int)] 134 (0, 0)) ∧ w'.cell? (ad.add p) = some (.int .u8 b0)) (ds := [9]) (bt 10 0) (by kernel_rfl) rfl (by kernel_rfl) ⟨(unhide WD).1, unhide CD⟩ (fun hHeld => ?_)
          refine with_tabW tabT24_11 bitsT24_11 (fun HT_ HW_ => ?_)
          refine take_ (i := 0) (N := some 36) (v := ?_) (a' := ?_) (bt 10 1) rfl rfl (take_ofW HT_.out HW_.out (by kernel_rfl)) (fun _ _ _ h => h) (Or.inl ⟨by rfl, ?_⟩) hHeld ?_ ?_
          rotate_left
          · rintro w' ⟨h1_, h2_⟩
            obtain ⟨⟨_, _, _⟩, ⟨_, _, _⟩, _⟩ := box3 h1_
            go_simp
            with_reducible rfl
          rotate_left
          · simp only [Act.put, List.setIfInBounds_toArray, List.set_cons_zero, List.set_cons_succ, i64_w, i32_w]
            rfl
          refine run_ [(1, 37), (2, 38)] ?_
          iterate 2 ((first | refine sp_ (v := ?_) (a' := ?_) HT_.out rfl rfl rfl (by kernel_rfl) (fun _ _ _ h => h) ?_ ?_ ?_ | refine sg_ (v := ?_) (a' := ?_) HT_.out rfl rfl (by kernel_rfl) (fun _ _ _ h => h) (by rfl) ?_ ?_ ?_); rotate_left; (· intro w'; go_simp; with_reducible rfl); rotate_left; (· simp only [Act.put, List.setIfInBounds_toArray, List.set_cons_zero, List.set_cons_succ, i64_w, i32_w]; rfl))
          refine rend_ ?_
          refine take_ (i := 3) (N := some 39) (v := ?_) (a' := ?_) (bt 10 15) rfl rfl (take_ofW HT_.out HW_.out (by kernel_rfl)) (fun _ _ _ h => h) (Or.inl ⟨by rfl, ?_⟩) hHeld ?_ ?_
          rotate_left
          · rintro w' ⟨h1_, h2_⟩
            obtain ⟨⟨_, _, _⟩, ⟨_, _, _⟩, _⟩ := box3 h1_
            go_simp
            with_reducible rfl
          rotate_left
          · simp only [Act.put, List.setIfInBounds_toArray, List.set_cons_zero, List.set_cons_succ, i64_w, i32_w]
            rfl
          refine one_ (i := 4) (N := some 40) (bt 10 31) rfl rfl (one_of HT_.out (by kernel_rfl)) (by decide) (fun K hK => ?_)
          refine goes_ Tryd.func62 (by kernel_rfl) rfl #[.agg #[.int .u32 x1, .int .u32 y1, .int .u32 (q : Int)]] (by rfl) rfl rfl (by (try simp only [List.map_toArray, List.map_cons, List.map_nil]); first | done | rfl) ?_
          refine (size_any x1 y1 q _ (by have := unhide HQ; have := unhide HZ; omega)).mono ?_
          rintro e w9 ⟨rfl, hb9⟩
          refine ⟨_, rfl, ?_⟩
          have W9 : Hid (Wn w9 B q x1 y1) := ⟨blk_below (unhide WD).1 hb9, (unhide WD).2⟩
          have S9 := hide (Kd.S_below (unhide SD) hb9)
          have I9 : Hid (Below B w3 w9) := (unhide ID).trans (hb9.mono (Nat.le_of_lt (blk_lt (unhide WD).1)))
          have C9 : Hid (w9.cell? (ad.add p) = some (.int .u8 b0)) := pw_cell_below hb9 (unhide CD)
          clear hb9
          clear hHeld
          refine hK.out _ _ ⟨(unhide W9).1, unhide C9⟩ (fun hHeld => ?_)
          clear hK K
          refine norm_ (a' := ?_) ?_ ?_
          rotate_left
          · show Act.put _ (some 40) _ = _
            simp only [Act.put, List.setIfInBounds_toArray, List.set_cons_zero, List.set_cons_succ, i64_w, i32_w]
            rfl
          refine run_ [(5, 41), (6, 42)] ?_
          iterate 2 ((first | refine sp_ (v := ?_) (a' := ?_) HT_.out rfl rfl rfl (by kernel_rfl) (fun _ _ _ h => h) ?_ ?_ ?_ | refine sg_ (v := ?_) (a' := ?_) HT_.out rfl rfl (by kernel_rfl) (fun _ _ _ h => h) (by rfl) ?_ ?_ ?_); rotate_left; (· intro w'; go_simp; with_reducible rfl); rotate_left; (· simp only [Act.put, List.setIfInBounds_toArray, List.set_cons_zero, List.set_cons_succ, i64_w, i32_w]; rfl))
          refine rend_ ?_
          refine take_ (i := 7) (N := some 43) (v := ?_) (a' := ?_) (bt 10 255) rfl rfl (take_ofW HT_.out HW_.out (by kernel_rfl)) (fun _ _ _ h => h) (Or.inl ⟨by rfl, ?_⟩) hHeld ?_ ?_
          rotate_left
          · rintro w' ⟨h1_, h2_⟩
            obtain ⟨⟨_, _, _⟩, ⟨_, _, _⟩, _⟩ := box3 h1_
            go_simp
            with_reducible rfl
          rotate_left
          · simp only [Act.put, List.setIfInBounds_toArray, List.set_cons_zero, List.set_cons_succ, i64_w, i32_w]
            rfl
          refine one_ (i := 8) (N := some 44) (bt 10 511) rfl rfl (one_of HT_.out (by kernel_rfl)) (by decide) (fun K hK => ?_)
          refine goes_ Tryd.func63 (by kernel_rfl) rfl #[.agg #[.int .u32 x1, .int .u32 y1, .int .u32 (q : Int)], .int .u8 b0] (by rfl) rfl rfl (by (try simp only [List.map_toArray, List.map_cons, List.map_nil]); first | done | rfl) ?_
          refine (in_any x1 y1 (q : Int) b0 _ (unhide HBY)).mono ?_
          rintro e w10 ⟨rfl, hb10⟩
          refine ⟨_, rfl, ?_⟩
          have W10 : Hid (Wn w10 B q x1 y1) := ⟨blk_below (unhide W9).1 hb10, (unhide W9).2⟩
          have S10 := hide (Kd.S_below (unhide S9) hb10)
          have I10 : Hid (Below B w3 w10) := (unhide I9).trans (hb10.mono (Nat.le_of_lt (blk_lt (unhide W9).1)))
          have C10 : Hid (w10.cell? (ad.add p) = some (.int .u8 b0)) := pw_cell_below hb10 (unhide C9)
          clear hb10
          obtain ⟨x2, hx2⟩ : ∃ v, v = (x1 + b0) % 65536 := ⟨_, rfl⟩
          obtain ⟨y2, hy2⟩ : ∃ v, v = (y1 + x2) % 65536 := ⟨_, rfl⟩
          rw [← hx2, ← hy2]
          obtain ⟨q2, hqq⟩ : ∃ q2 : Nat, q2 = q + 1 := ⟨_, rfl⟩
          have hq2 : ((q : Int) + 1) % 4294967296 = (q2 : Int) := by have := unhide HQL; have := (unhide HZ).2.2.1; omega
          rw [hq2]
          have HQQ := hide hqq
          have XB : Hid ((0 ≤ x2 ∧ x2 < 65536) ∧ (0 ≤ y2 ∧ y2 < 65536)) := by show _ ∧ _; omega
          clear hx2 hy2 hq2 hqq
          clear hHeld
          refine hK.out _ _ ⟨(unhide W10).1, unhide C10⟩ (fun hHeld => ?_)
          clear hK K
          refine norm_ (a' := ?_) ?_ ?_
          rotate_left
          · show Act.put _ (some 44) _ = _
            simp only [Act.put, List.setIfInBounds_toArray, List.set_cons_zero, List.set_cons_succ, i64_w, i32_w]
            rfl
          refine last_ (i := 9) (N := none) (bt 10 1023) rfl rfl (one_of HT_.out (by kernel_rfl)) (by decide) (fun K hK => ?_)
          obtain ⟨⟨_, _, _⟩, ⟨_, _, _⟩, _⟩ := box3 (unhide W10).1
          refine skip_ (w1 := ?w11) (wanted_none rfl) rfl ?hrun ?_
          case hrun =>
            go_simp
            rfl
          refine hK.out _ _ ?_
          clear hK K
          refine done_ (done_of HT_.out (by kernel_rfl)) ?_
          clear HT_ HW_; (try clear hHeld)
          have wb := (unhide W10).1
          have wn : Wn (((w10.setCell ⟨B, 0, none⟩ (.int .u32 x2)).setCell ⟨B, 1, none⟩ (.int .u32 y2)).setCell ⟨B, 2, none⟩ (.int .u32 (q2 : Int))) B q2 x2 y2 := ⟨blk_put (blk_put (blk_put wb 0 _ rfl) 1 _ rfl) 2 _ rfl, (unhide XB)⟩
          have sn := Kd.S_set (Kd.S_set (Kd.S_set (unhide S10) wb tk134 0 (.int .u32 x2)) (blk_put wb 0 (.int .u32 x2) rfl) tk134 1 (.int .u32 y2)) (blk_put (blk_put wb 0 (.int .u32 x2) rfl) 1 (.int .u32 y2) rfl) tk134 2 (.int .u32 (q2 : Int))
          have sn : Kd.S frK 144 (((w10.setCell ⟨B, 0, none⟩ (.int .u32 x2)).setCell ⟨B, 1, none⟩ (.int .u32 y2)).setCell ⟨B, 2, none⟩ (.int .u32 (q2 : Int))) (B + 1) (fun _ => True) _ _ := Kd.S_mono sn (fun _ _ => trivial)
          have jn := (((unhide I10).setCell (p := ⟨B, 0, none⟩) (Nat.le_refl _) (.int .u32 x2)).setCell (p := ⟨B, 1, none⟩) (Nat.le_refl _) (.int .u32 y2)).setCell (p := ⟨B, 2, none⟩) (Nat.le_refl _) (.int .u32 (q2 : Int))
          generalize ((w10.setCell ⟨B, 0, none⟩ (.int .u32 x2)).setCell ⟨B, 1, none⟩ (.int .u32 y2)).setCell ⟨B, 2, none⟩ (.int .u32 (q2 : Int)) = w11 at wn sn jn ⊢
          have W11 := hide wn
          have S11 := hide sn
          have I11 := hide jn
          clear wb wn sn jn
          go_wp2
          go_roundg (gk - 1)
          case measure => have := unhide HQ; have := unhide HQL; omega
          case rel => exact ⟨q2, x2, y2, by have := unhide HQ; have := unhide HQL; have := unhide HQQ; show _ = _; omega, W11, S11, I11⟩
        · have d2 : ¬ (q : Int) < (z : Int) := by omega
          have hqz : q = z := by have := unhide HQ; omega
          subst hqz
          clear hq
          go_wp2
          clear d2
          go_loopg [] 0 (fun kq wr => Hid (Wn wr B q x1 y1) ∧ Hid (Kd.S frK 144 wr (B + 1) (fun _ => True) (.slice A2 us.length c2) us) ∧ Hid (Below B w3 wr))
          case atStart => exact ⟨W8, S8, I8⟩
          case round =>
            obtain ⟨W9, S9, I9⟩ := hrel
            obtain ⟨⟨_, _, _⟩, ⟨_, _, _⟩, _⟩ := box3 (unhide W9).1
            go_wp2_with fail
            refine (size_any x1 y1 q wr (by have := unhide HZ; omega)).mono ?_
            rintro e w10 ⟨rfl, hb10⟩
            have W10 : Hid (Wn w10 B q x1 y1) := ⟨blk_below (unhide W9).1 hb10, (unhide W9).2⟩
            have S10 := hide (Kd.S_below (unhide S9) hb10)
            have I10 : Hid (Below B w3 w10) := (unhide I9).trans (hb10.mono (Nat.le_of_lt (blk_lt (unhide W9).1)))
            clear hb10 W9 S9 I9
            go_wp2
            have hzz := unhide HZ
            have hln := unhide HLN
            obtain ⟨b, hb⟩ : ∃ b, b = a + q := ⟨_, rfl⟩
            obtain ⟨A4, hcut, hcr, hcl⟩ := mid_any (some ad) c1 L a b (unhide HCC) (by omega) (by have := unhide HNL; omega)
            obtain ⟨pc, hpc⟩ : ∃ pc, pc = (L.take b).drop a := ⟨_, rfl⟩
            rw [← hpc] at hcut hcr hcl
            have hpl : pc.length ≤ 100000 := by rw [hpc, List.length_drop, List.length_take]; omega
            have hby : Bytes pc := by rw [hpc]; exact ((unhide HY).take _).drop _
            rw [← unhide HNL] at hcut
            obtain ⟨wk, hwk⟩ : ∃ wk : Nat, y1 * 65536 + x1 = (wk : Int) := ⟨(y1 * 65536 + x1).toNat, by have := (unhide W10).2; omega⟩
            have hwk2 : wk < 4294967296 := by have := (unhide W10).2; omega
            have WD : Hid (Wn w10.drew B q x1 y1) := unhide W10
            have SD := hide (Kd.S_drew (unhide S10))
            have ID := hide (below_drew (unhide I10))
            have HWK := hide hwk
            have HWK2 := hide hwk2
            have HCR := hide hcr
            have HCL := hide hcl
            have HPL := hide hpl
            have HBY := hide hby
            have e3 : wrap64 ((a : Int) + (q : Int)) = (b : Int) := by rw [w64 _ (by omega) (by omega)]; omega
            have HBA := hide hb
            clear hzz hln hcr hcl hpl hby hwk hwk2 hpc hb W10 S10 I10
            refine start_ (n := 15) (S := fun w' => w'.heap[B]? = some (.cells #[.int .u32 x1, .int .u32 y1, .int .u32 (q : Int)] 134 (0, 0))) (ds := []) (bt 15 0) (by kernel_rfl) rfl (by kernel_rfl) (unhide WD).1 (fun hHeld => ?_)
            refine with_tabW tabT24_14 bitsT24_14 (fun HT_ HW_ => ?_)
            refine run_ [(0, 56)] ?_
            iterate 1 ((first | refine sp_ (v := ?_) (a' := ?_) HT_.out rfl rfl rfl (by kernel_rfl) (fun _ _ _ h => h) ?_ ?_ ?_ | refine sg_ (v := ?_) (a' := ?_) HT_.out rfl rfl (by kernel_rfl) (fun _ _ _ h => h) (by rfl) ?_ ?_ ?_); rotate_left; (· intro w'; go_simp; with_reducible rfl); rotate_left; (· simp only [Act.put, List.setIfInBounds_toArray, List.set_cons_zero, List.set_cons_succ, i64_w, i32_w]; rfl))
            refine rend_ ?_
            refine take_ (i := 1) (N := some 57) (v := ?_) (a' := ?_) (bt 15 3) rfl rfl (take_ofW HT_.out HW_.out (by kernel_rfl)) (fun _ _ _ h => h) (Or.inl ⟨by rfl, ?_⟩) hHeld ?_ ?_
            rotate_left
            · rintro w' h1_
              obtain ⟨⟨_, _, _⟩, ⟨_, _, _⟩, _⟩ := box3 h1_
              go_simp
              with_reducible rfl
            rotate_left
            · simp only [Act.put, List.setIfInBounds_toArray, List.set_cons_zero, List.set_cons_succ, i64_w, i32_w]
              rfl
            refine run_ [(3, 59), (4, 60), (5, 61), (6, 62), (7, 63), (8, 64)] ?_
            iterate 6 ((first | refine sp_ (v := ?_) (a' := ?_) HT_.out rfl rfl rfl (by kernel_rfl) (fun _ _ _ h => h) ?_ ?_ ?_ | refine sg_ (v := ?_) (a' := ?_) HT_.out rfl rfl (by kernel_rfl) (fun _ _ _ h => h) (by rfl) ?_ ?_ ?_); rotate_left; (· intro w'; go_simp; with_reducible rfl); rotate_left; (· simp only [Act.put, List.setIfInBounds_toArray, List.set_cons_zero, List.set_cons_succ, i64_w, i32_w]; rfl))
            refine rend_ ?_
            refine one_ (i := 2) (N := some 58) (bt 15 511) rfl rfl (one_of HT_.out (by kernel_rfl)) (by decide) (fun K hK => ?_)
            refine goes_ Tryd.func59 (by kernel_rfl) rfl #[.agg #[.int .u32 x1, .int .u32 y1, .int .u32 (q : Int)]] (by rfl) rfl rfl (by (try simp only [List.map_toArray, List.map_cons, List.map_nil]); first | done | rfl) ?_
            refine (value_any x1 y1 (q : Int) _ (unhide WD).2.1 (unhide WD).2.2).mono ?_
            rintro e w11 ⟨rfl, hb11⟩
            refine ⟨_, rfl, ?_⟩
            rw [unhide HWK]
            have W11 : Hid (Wn w11 B q x1 y1) := ⟨blk_below (unhide WD).1 hb11, (unhide WD).2⟩
            have S11 := hide (Kd.S_below (unhide SD) hb11)
            have I11 : Hid (Below B w3 w11) := (unhide ID).trans (hb11.mono (Nat.le_of_lt (blk_lt (unhide WD).1)))
            clear hb11
            clear hHeld
            refine hK.out _ _ (unhide W11).1 (fun hHeld => ?_)
            clear hK K
            refine norm_ (a' := ?_) ?_ ?_
            rotate_left
            · show Act.put _ (some 58) _ = _
              simp only [Act.put, List.setIfInBounds_toArray, List.set_cons_zero, List.set_cons_succ, i64_w, i32_w]
              rfl
            refine one_ (i := 9) (N := some 65) (bt 15 1023) rfl rfl (one_of HT_.out (by kernel_rfl)) (by decide) (fun K hK => ?_)
            refine goes_ Tryd.func65 (by kernel_rfl) rfl #[.pointer (some ⟨tb, 0, none⟩), .int .u32 (wk : Int), .slice A4 pc.length (c1 - a)] (by rfl) rfl rfl (by (try simp only [List.map_toArray, List.map_cons, List.map_nil]); first | done | rfl) ?_
            refine (find_any tb mb n c wk (c1 - a) A A4 bs D pc _ (blk_below (unhide T3) (show Below w3.heap.size w3 w11 by rw [← unhide HBB]; exact unhide I11)) (groups_below (unhide G3) (show Below w3.heap.size w3 w11 by rw [← unhide HBB]; exact unhide I11)) (unhide GD) ((unhide C3).below (show Below w3.heap.size w3 w11 by rw [← unhide HBB]; exact unhide I11)) (unhide HB) (unhide HWK2) ((unhide HCR) _ (Kd.C_below (unhide R3) (show Below w3.heap.size w3 w11 by rw [← unhide HBB]; exact unhide I11))) (unhide HBY) (unhide HCL) (unhide HPL) (by have := unhide HL; have := unhide HN; omega) (unhide HN)).mono ?_
            rintro e w12 ⟨⟨i, ok, rfl, hi200⟩, hb12⟩
            refine ⟨_, rfl, ?_⟩
            have W12 : Hid (Wn w12 B q x1 y1) := ⟨blk_below (unhide W11).1 hb12, (unhide W11).2⟩
            have S12 := hide (Kd.S_below (unhide S11) hb12)
            have I12 : Hid (Below B w3 w12) := (unhide I11).trans (hb12.mono (Nat.le_of_lt (blk_lt (unhide W11).1)))
            have HI2 := hide hi200
            clear hb12 hi200
            clear hHeld
            refine hK.out _ _ (unhide W12).1 (fun hHeld => ?_)
            clear hK K
            refine norm_ (a' := ?_) ?_ ?_
            rotate_left
            · show Act.put _ (some 65) _ = _
              simp only [Act.put, List.setIfInBounds_toArray, List.set_cons_zero, List.set_cons_succ, i64_w, i32_w]
              rfl
            refine run_ [(10, 55), (11, 66), (12, 67), (13, 12), (14, 13)] ?_
            iterate 5 ((first | refine sp_ (v := ?_) (a' := ?_) HT_.out rfl rfl rfl (by kernel_rfl) (fun _ _ _ h => h) ?_ ?_ ?_ | refine sg_ (v := ?_) (a' := ?_) HT_.out rfl rfl (by kernel_rfl) (fun _ _ _ h => h) (by rfl) ?_ ?_ ?_); rotate_left; (· intro w'; go_simp; with_reducible rfl); rotate_left; (· simp only [Act.put, List.setIfInBounds_toArray, List.set_cons_zero, List.set_cons_succ, i64_w, i32_w]; rfl))
            refine rend_ ?_
            refine done_ (done_of HT_.out (by kernel_rfl)) ?_
            clear HT_ HW_ hHeld
            have E3 := hide e3
            clear hcut
            cases ok
            · clear e3
              obtain ⟨x0, hx0⟩ : ∃ x0, L[a]? = some x0 := ⟨_, List.getElem?_eq_getElem (by have := unhide HLT; have := unhide HNL; omega)⟩
              have hone : (L.take (a + 1)).drop a = [x0] := by
                obtain ⟨h1, h2⟩ := List.getElem?_eq_some_iff.1 hx0
                rw [List.take_add_one, hx0, List.drop_append_of_le_length (by rw [List.length_take]; omega), List.drop_of_length_le (by rw [List.length_take]; omega)]
                rfl
              have hbx : 0 ≤ x0 ∧ x0 ≤ 255 := (unhide HY) _ (List.mem_of_getElem? hx0)
              obtain ⟨b1, hb1⟩ : ∃ b1, b1 = a + 1 := ⟨_, rfl⟩
              obtain ⟨A6, hcut, hcr, -⟩ := mid_any (some ad) c1 L a b1 (unhide HCC) (by omega) (by have := unhide HLT; have := unhide HNL; omega)
              rw [hb1, hone, ← hb1, ← unhide HNL] at hcut
              rw [hb1, hone] at hcr
              have hC6 := hcr _ (Kd.C_below (unhide R3) (show Below w3.heap.size w3 w12 by rw [← unhide HBB]; exact unhide I12))
              obtain ⟨ad6, hA6, -⟩ := hC6.2.2 (by simp)
              subst hA6
              have HCR6 := hide hcr
              have hcut' : ∀ W : World, (Instr.slice 22 (.slice (some ad) N c1) (some (.int .i64 (a : Int))) (some (.int .i64 (b1 : Int))) none).run Tryd.prog W = .ok (.slice (some ad6) 1 (c1 - a)) W := hcut
              have HBX := hide hbx
              have HB1 := hide hb1
              have HX0 := hide hx0
              have e4 : wrap64 ((a : Int) + 1) = (b1 : Int) := by have := unhide HLT; have := unhide HLN; rw [w64 _ (by omega) (by omega)]; omega
              have E4 := hide e4
              clear hx0 hone hbx hb1 hcr hC6 hcut
              go_wp2_with fail
              clear hcut' e4
              refine (add_byte (B + 1) x0 ad6 (c1 - a) _ us w12 (unhide S12) (unhide HU).1 (fun w' hw' => (unhide HCR6) _ (Kd.C_below (unhide R3) (show Below w3.heap.size w3 w' by rw [← unhide HBB]; exact (unhide I12).trans (hw'.mono (Nat.le_succ B))))) (blk_lt (unhide W12).1) (by have := (unhide HU).2; have := unhide HLT; have := unhide HLN; omega)).mono ?_
              rintro e w13 ⟨A5, c5, vs, rfl, hS13, hok13, htw13, hB13⟩
              have W13 : Hid (Wn w13 B q x1 y1) := ⟨(hB13.block B (Nat.lt_succ_self B)).trans (unhide W12).1, (unhide W12).2⟩
              have I13 : Hid (Below B w3 w13) := (unhide I12).trans (hB13.mono (Nat.le_succ B))
              have S13 := hide hS13
              have HU13 : Hid (AllOk vs ∧ tws vs ≤ b1) := ⟨hok13, by have := (unhide HU).2; have := unhide HB1; omega⟩
              clear hS13 hok13 htw13 hB13
              have hC13 := Kd.C_below (unhide R3) (show Below w3.heap.size w3 w13 by rw [← unhide HBB]; exact unhide I13)
              obtain ⟨ad', hA, hcell⟩ := Kd.at_int hC13 (a : Int) (by omega) (by have := unhide HLT; have := unhide HNL; omega)
              injection hA with hA
              subst hA
              have hrd : rd L (a : Int) = x0 := by unfold rd; rw [Int.toNat_natCast, List.getD_eq_getElem?_getD, unhide HX0]; rfl
              rw [Int.toNat_natCast, hrd] at hcell
              have CD : Hid (w13.drew.cell? (ad.add a) = some (.int .u8 x0)) := hcell
              have WD : Hid (Wn w13.drew B q x1 y1) := unhide W13
              have SD := hide (Kd.S_drew (unhide S13))
              have ID := hide (below_drew (unhide I13))
              have d5 : (a : Int) < (N : Int) := by have := unhide HLT; omega
              clear hC13 hcell hrd W13 S13 I13
              go_wp2
              refine start_ (n := 7) (S := fun w' => w'.heap[B]? = some (.cells #[.int .u32 x1, .int .u32 y1, .int .u32 (q : Int)] 134 (0, 0)) ∧ w'.cell? (ad.add a) = some (.int .u8 x0)) (ds := [6]) (bt 7 0) (by kernel_rfl) rfl (by kernel_rfl) ⟨(unhide WD).1, unhide CD⟩ (fun hHeld => ?_)
              refine with_tabW tabT24_20 bitsT24_20 (fun HT_ HW_ => ?_)
              refine take_ (i := 0) (N := some 85) (v := ?_) (a' := ?_) (bt 7 1) rfl rfl (take_ofW HT_.out HW_.out (by kernel_rfl)) (fun _ _ _ h => h) (Or.inl ⟨by rfl, ?_⟩) hHeld ?_ ?_
              rotate_left
              · rintro w' ⟨h1_, h2_⟩
                obtain ⟨⟨_, _, _⟩, ⟨_, _, _⟩, _⟩ := box3 h1_
                go_simp
                with_reducible rfl
              rotate_left
              · simp only [Act.put, List.setIfInBounds_toArray, List.set_cons_zero, List.set_cons_succ, i64_w, i32_w]
                rfl
              refine run_ [(1, 86), (2, 87), (3, 88)] ?_
              iterate 3 ((first | refine sp_ (v := ?_) (a' := ?_) HT_.out rfl rfl rfl (by kernel_rfl) (fun _ _ _ h => h) ?_ ?_ ?_ | refine sg_ (v := ?_) (a' := ?_) HT_.out rfl rfl (by kernel_rfl) (fun _ _ _ h => h) (by rfl) ?_ ?_ ?_); rotate_left; (· intro w'; go_simp; with_reducible rfl); rotate_left; (· simp only [Act.put, List.setIfInBounds_toArray, List.set_cons_zero, List.set_cons_succ, i64_w, i32_w]; rfl))
              refine rend_ ?_
              refine take_ (i := 4) (N := some 89) (v := ?_) (a' := ?_) (bt 7 31) rfl rfl (take_ofW HT_.out HW_.out (by kernel_rfl)) (fun _ _ _ h => h) (Or.inl ⟨by rfl, ?_⟩) hHeld ?_ ?_
              rotate_left
              · rintro w' ⟨h1_, h2_⟩
                obtain ⟨⟨_, _, _⟩, ⟨_, _, _⟩, _⟩ := box3 h1_
                go_simp
                with_reducible rfl
              rotate_left
              · simp only [Act.put, List.setIfInBounds_toArray, List.set_cons_zero, List.set_cons_succ, i64_w, i32_w]
                rfl
              refine one_ (i := 5) (N := some 90) (bt 7 63) rfl rfl (one_of HT_.out (by kernel_rfl)) (by decide) (fun K hK => ?_)
              refine goes_ Tryd.func64 (by kernel_rfl) rfl #[.agg #[.int .u32 x1, .int .u32 y1, .int .u32 (q : Int)], .int .u8 x0] (by rfl) rfl rfl (by (try simp only [List.map_toArray, List.map_cons, List.map_nil]); first | done | rfl) ?_
              refine (out_any x1 y1 (q : Int) x0 _ (unhide HBX) (by have := (unhide HZ); omega)).mono ?_
              rintro e w14 ⟨rfl, hb14⟩
              refine ⟨_, rfl, ?_⟩
              have W14 : Hid (Wn w14 B q x1 y1) := ⟨blk_below (unhide WD).1 hb14, (unhide WD).2⟩
              have S14 := hide (Kd.S_below (unhide SD) hb14)
              have I14 : Hid (Below B w3 w14) := (unhide ID).trans (hb14.mono (Nat.le_of_lt (blk_lt (unhide WD).1)))
              have C14 : Hid (w14.cell? (ad.add a) = some (.int .u8 x0)) := pw_cell_below hb14 (unhide CD)
              clear hb14
              obtain ⟨x2, hx2⟩ : ∃ v, v = (x1 - x0) % 65536 := ⟨_, rfl⟩
              obtain ⟨y2, hy2⟩ : ∃ v, v = (y1 - (q : Int) * x0) % 65536 := ⟨_, rfl⟩
              rw [← hx2, ← hy2]
              obtain ⟨q2, hqq⟩ : ∃ q2 : Nat, q2 = q - 1 := ⟨_, rfl⟩
              have hq2 : (q : Int) - 1 = (q2 : Int) := by have := unhide HZ; omega
              rw [hq2]
              have HQQ := hide hqq
              have XB : Hid ((0 ≤ x2 ∧ x2 < 65536) ∧ (0 ≤ y2 ∧ y2 < 65536)) := by show _ ∧ _; exact ⟨by omega, by rw [hy2]; exact ⟨Int.emod_nonneg _ (by decide), Int.emod_lt_of_pos _ (by decide)⟩⟩
              clear hx2 hy2 hq2 hqq
              clear hHeld
              refine hK.out _ _ ⟨(unhide W14).1, unhide C14⟩ (fun hHeld => ?_)
              clear hK K
              refine norm_ (a' := ?_) ?_ ?_
              rotate_left
              · show Act.put _ (some 90) _ = _
                simp only [Act.put, List.setIfInBounds_toArray, List.set_cons_zero, List.set_cons_succ, i64_w, i32_w]
                rfl
              refine last_ (i := 6) (N := none) (bt 7 127) rfl rfl (one_of HT_.out (by kernel_rfl)) (by decide) (fun K hK => ?_)
              obtain ⟨⟨_, _, _⟩, ⟨_, _, _⟩, _⟩ := box3 (unhide W14).1
              refine skip_ (w1 := ?w15) (wanted_none rfl) rfl ?hrun ?_
              case hrun =>
                go_simp
                rfl
              refine hK.out _ _ ?_
              clear hK K
              refine done_ (done_of HT_.out (by kernel_rfl)) ?_
              clear HT_ HW_; (try clear hHeld)
              have wb := (unhide W14).1
              have wn : Wn (((w14.setCell ⟨B, 0, none⟩ (.int .u32 x2)).setCell ⟨B, 1, none⟩ (.int .u32 y2)).setCell ⟨B, 2, none⟩ (.int .u32 (q2 : Int))) B q2 x2 y2 := ⟨blk_put (blk_put (blk_put wb 0 _ rfl) 1 _ rfl) 2 _ rfl, (unhide XB)⟩
              have sn := Kd.S_set (Kd.S_set (Kd.S_set (unhide S14) wb tk134 0 (.int .u32 x2)) (blk_put wb 0 (.int .u32 x2) rfl) tk134 1 (.int .u32 y2)) (blk_put (blk_put wb 0 (.int .u32 x2) rfl) 1 (.int .u32 y2) rfl) tk134 2 (.int .u32 (q2 : Int))
              have sn : Kd.S frK 144 (((w14.setCell ⟨B, 0, none⟩ (.int .u32 x2)).setCell ⟨B, 1, none⟩ (.int .u32 y2)).setCell ⟨B, 2, none⟩ (.int .u32 (q2 : Int))) (B + 1) (fun _ => True) _ _ := Kd.S_mono sn (fun _ _ => trivial)
              have jn := (((unhide I14).setCell (p := ⟨B, 0, none⟩) (Nat.le_refl _) (.int .u32 x2)).setCell (p := ⟨B, 1, none⟩) (Nat.le_refl _) (.int .u32 y2)).setCell (p := ⟨B, 2, none⟩) (Nat.le_refl _) (.int .u32 (q2 : Int))
              generalize ((w14.setCell ⟨B, 0, none⟩ (.int .u32 x2)).setCell ⟨B, 1, none⟩ (.int .u32 y2)).setCell ⟨B, 2, none⟩ (.int .u32 (q2 : Int)) = w15 at wn sn jn ⊢
              have W15 := hide wn
              have S15 := hide sn
              have I15 := hide jn
              clear wb wn sn jn
              have e4 := unhide E4
              go_wp2
              clear e4
              go_roundg (gk1 - 1)
              case measure => have := unhide HA; have := unhide HLT; omega
              case rel => exact ⟨b1, q2, A5, c5, vs, x2, y2, rfl, (by first | rfl | exact congrArg (Value.int .i64) (unhide E4)), (by have := unhide HA; have := unhide HLT; have := unhide HB1; show _ = _; omega), (by have := unhide HZ; have := unhide HB1; have := unhide HQQ; show _ ∧ _; omega), W15, S15, HU13, I15⟩
            · go_wp2_with fail
              clear e3
              refine (add_block (B + 1) i _ us w12 (unhide S12) (unhide HU).1 (by have := unhide HI2; omega) (blk_lt (unhide W12).1) (by have := (unhide HU).2; have := unhide HLT; have := unhide HLN; omega)).mono ?_
              rintro e w13 ⟨A5, c5, vs, rfl, hS13, hok13, htw13, hB13⟩
              have W13 : Hid (Wn w13 B q x1 y1) := ⟨(hB13.block B (Nat.lt_succ_self B)).trans (unhide W12).1, (unhide W12).2⟩
              have I13 : Hid (Below B w3 w13) := (unhide I12).trans (hB13.mono (Nat.le_succ B))
              have S13 := hide hS13
              have HU13 : Hid (AllOk vs ∧ tws vs ≤ b) := ⟨hok13, by have := (unhide HU).2; have := unhide HBA; have := unhide HZ; omega⟩
              clear hS13 hok13 htw13 hB13
              obtain ⟨⟨_, _, _⟩, ⟨_, _, _⟩, _⟩ := box3 (unhide W13).1
              have e3 := unhide E3
              go_wp2
              clear e3
              have wb := (unhide W13).1
              have wn : Wn (((w13.setCell ⟨B, 0, none⟩ (.int .u32 0)).setCell ⟨B, 1, none⟩ (.int .u32 0)).setCell ⟨B, 2, none⟩ (.int .u32 0)) B 0 0 0 := ⟨blk_put (blk_put (blk_put wb 0 _ rfl) 1 _ rfl) 2 _ rfl, ⟨by decide, by decide⟩⟩
              have sn := Kd.S_set (Kd.S_set (Kd.S_set (unhide S13) wb tk134 0 (.int .u32 0)) (blk_put wb 0 (.int .u32 0) rfl) tk134 1 (.int .u32 0)) (blk_put (blk_put wb 0 (.int .u32 0) rfl) 1 (.int .u32 0) rfl) tk134 2 (.int .u32 0)
              have sn : Kd.S frK 144 (((w13.setCell ⟨B, 0, none⟩ (.int .u32 0)).setCell ⟨B, 1, none⟩ (.int .u32 0)).setCell ⟨B, 2, none⟩ (.int .u32 0)) (B + 1) (fun _ => True) _ _ := Kd.S_mono sn (fun _ _ => trivial)
              have jn := (((unhide I13).setCell (p := ⟨B, 0, none⟩) (Nat.le_refl _) (.int .u32 0)).setCell (p := ⟨B, 1, none⟩) (Nat.le_refl _) (.int .u32 0)).setCell (p := ⟨B, 2, none⟩) (Nat.le_refl _) (.int .u32 0)
              generalize ((w13.setCell ⟨B, 0, none⟩ (.int .u32 0)).setCell ⟨B, 1, none⟩ (.int .u32 0)).setCell ⟨B, 2, none⟩ (.int .u32 0) = w14 at wn sn jn ⊢
              have W14 := hide wn
              have S14 := hide sn
              have I14 := hide jn
              clear wb wn sn jn
              go_roundg (gk1 - q)
              case measure => have := unhide HA; have := unhide HZ; omega
              case rel => exact ⟨b, 0, A5, c5, vs, 0, 0, rfl, (by first | rfl | exact congrArg (Value.int .i64) (unhide E3)), (by have := unhide HA; have := unhide HZ; have := unhide HBA; show _ = _; omega), (by have := unhide HZ; have := unhide HBA; show _ ∧ _; omega), W14, S14, HU13, I14⟩
    · have d1 : ¬ (a : Int) < (N : Int) := by omega
      have haN : a = N := by have := unhide HA; omega
      have hul := len_tws (unhide HU).1
      have d6 : ¬ (8192 : Int) < (us.length : Int) := by have := (unhide HU).2; have := unhide HLN; omega
      clear hlt
      go_wp2
      have SF := Kd.S_lower (unhide S5) (show w.heap.size ≤ B + 1 by have := (unhide B3).size; have := unhide HBB; omega)
      have hBF : Below w.heap.size w wr := (unhide B3).trans ((unhide I5).mono (by have := (unhide B3).size; have := unhide HBB; omega))
      refine bodyPost_ret (v := .tuple #[.slice A2 us.length c2, .int .i64 0]) (by simp [results, Tryd.results24, go_sem]) rfl ⟨A2, c2, us, rfl, SF, (unhide HU).1, by have := (unhide HU).2; have := unhide HLN; omega, hBF⟩
end Go.Proofs.YtgoephcembgmcaaDoor.Tk
