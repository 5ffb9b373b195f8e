import Derived.Test.YtgoephcembgmcaaDoorQ12
import Derived.ChangeKeysEq
import Derived.ArgAppend
import Derived.Lib.SlBytesConst
set_option linter.unusedSimpArgs false
set_option linter.unusedVariables false
namespace Go.Proofs.YtgoephcembgmcaaDoor.Wd
open Go.RowKit Go.Proofs.YtgoephcembgmcaaDoorW.PrintWords Go.Proofs.YtgoephcembgmcaaDoorW.PrintLast Wk FrM Fr Bl Tk Sh Er Rg
open WkM (w64 Bytes)

/-! Sums compared. -/
theorem part5 (xs : List Int) (W : World) (i : Nat) (hi : i < xs.length) : (part 5 (bys xs) i).run Tryd.prog W = .ok (.int .u8 (rd xs (i : Int))) W := by
  have ha : (isAgg 5).run Tryd.prog W = .ok false W := by
    have h5 := Tryd.underlying5
    unfold isAgg
    rw [Sem.run_bind, run_underlying h5 W]
    rfl
  simp [part, ha, bys_get xs i hi]
theorem eqItems_same (xs : List Int) (W : World) (d : Nat) : ∀ is : List Nat, (∀ i ∈ is, i < xs.length) → (Op.eqItems (d + 1) 5 1 (bys xs) (bys xs) is).run Tryd.prog W = .ok true W
  | [], _ => by simp [Op.eqItems]
  | i :: is, h => by
    have h5 := Tryd.underlying5
    have he : (Op.equalIn (d + 1) 5 (.int .u8 (rd xs (i : Int))) (.int .u8 (rd xs (i : Int)))).run Tryd.prog W = .ok true W := by
      simp [Op.equalIn, run_underlying h5]
    simp only [Op.eqItems, Sem.run_bind, Nat.mul_one, part5 xs W i (h i (by simp)), Result.andThen_ok, he, Bool.not_true, Bool.false_eq_true, if_false]
    exact eqItems_same xs W d is (fun j hj => h j (by simp [hj]))
theorem cells5 : Tryd.prog.cellsOf 5 = 1 := by kernel_rfl
theorem equal28 (xs : List Int) (hx : xs.length = 32) (W : World) (d : Nat) : (Op.equalIn (d + 2) 28 (.agg (bys xs)) (.agg (bys xs))).run Tryd.prog W = .ok true W := by
  obtain ⟨i0, hi, _⟩ := info_parts info5
  rw [run_equalIn_array (P := Tryd.prog) W (d + 1) (bys xs) (bys xs) Tryd.underlying28 hi, cells5]
  exact eqItems_same xs W d (List.range 32) (fun i hi => by have := List.mem_range.1 hi; omega)
theorem neq28 (xs : List Int) (hx : xs.length = 32) (W : World) : (binOp .neq 28 (.agg (bys xs)) (.agg (bys xs))).run Tryd.prog W = .ok (.bool false) W := by
  simp only [binOp]
  simp [Op.equal, Op.maxDepth, equal28 xs hx W 9998]
/-- A row of literal bytes, behind its conversion. -/
theorem lit_C (W : World) (xs : List Int) (fr : Nat × Nat) (hx : xs.length ≤ 1000) : Kd.C (Kd.int .u8) (W.alloc (.cells (bys xs) 5 fr)) (some ⟨W.heap.size, 0, none⟩) xs.length xs := by
  refine Kd.C_of_reads (d := (0 : Int)) (h1 := fun _ => rfl) ⟨rfl, by omega, fun hn => ⟨_, rfl, fun j hj => ?_⟩⟩
  have hadd : (⟨W.heap.size, 0, none⟩ : Addr).add j = ⟨W.heap.size, j, none⟩ := by unfold Addr.add; split <;> simp_all
  rw [hadd, cell_of_row _ _ j (bys xs) 5 fr (heap_alloc_new W _)]
  have := bys_get xs j hj
  rw [this]
  unfold rd
  rw [Int.toNat_natCast]
theorem cells_of_C {W : World} {ad : Addr} {l : List Int} (hC : Kd.C (Kd.int .u8) W (some ad) l.length l) : ∀ j u, (l.map (Value.int .u8))[j]? = some u → W.cell? (ad.add j) = some u := fun j u hj => by
  have hj2 : j < l.length := by
    have := (List.getElem?_eq_some_iff.1 hj).1
    rwa [List.length_map] at this
  obtain ⟨ad', ha, hc⟩ := Kd.at_int hC (j : Int) (by omega) (by omega)
  cases ha
  rw [Int.toNat_natCast] at hc
  rw [hc]
  rw [List.getElem?_map, List.getElem?_eq_getElem hj2] at hj
  rw [← hj]
  unfold rd
  rw [Int.toNat_natCast, List.getD_eq_getElem?_getD, List.getElem?_eq_getElem hj2]
  rfl
/-- append to a full row. -/
theorem app_run (W : World) (ad : Addr) (xs : List Int) (A : Option Addr) (c : Nat) (l : List Int) (hx : Kd.C (Kd.int .u8) W (some ad) xs.length xs) (hr : Kd.C (Kd.int .u8) W A l.length l) (h1 : xs.length ≤ 1000) (h2 : l.length ≤ 1000) :
    ∃ (ad1 : Addr) (c1 : Nat) (w1 : World), (Builtin.append_ #[22, 22] 22 #[.slice (some ad) xs.length xs.length, .slice A l.length c]).run Tryd.prog W = .ok (.slice (some ad1) (xs ++ l).length c1) w1 ∧ Kd.C (Kd.int .u8) w1 (some ad1) (xs ++ l).length (xs ++ l) ∧ (xs ++ l).length ≤ c1 ∧ Below W.heap.size W w1 := by
  obtain ⟨i0, hi, hz, hsz, hby⟩ := info_parts info5
  have h22 := Tryd.underlying22
  cases A with
  | none =>
    have h0 : l.length = 0 := by
      rcases Nat.eq_zero_or_pos l.length with h0 | h0
      · exact h0
      · obtain ⟨ad', h, _⟩ := hr.2.2 h0
        cases h
    obtain rfl : l = [] := List.eq_nil_of_length_eq_zero h0
    refine ⟨ad, xs.length, W, ?_, ?_, ?_, Below.refl _ _⟩
    · simp [Builtin.append_, run_underlying h22, sizeOf, typeInfo, hi, Builtin.lenOf, Builtin.firstCells, storeCells]
    · rw [List.append_nil]; exact hx
    · rw [List.append_nil]; exact Nat.le_refl _
  | some a =>
    by_cases h0 : l = []
    · subst h0
      refine ⟨ad, xs.length, W, ?_, ?_, ?_, Below.refl _ _⟩
      · simp [Builtin.append_, run_underlying h22, sizeOf, typeInfo, hi, Builtin.lenOf, Builtin.firstCells, loadCells, loadCellsFrom, storeCells]
      · rw [List.append_nil]; exact hx
      · rw [List.append_nil]; exact Nat.le_refl _
    · have hp := List.length_pos_iff.2 h0
      obtain ⟨v1, w1, hr1, ho, hg⟩ := run_append_arg_grows (P := Tryd.prog) (w := W) 22 22 5 i0 (.int .u8 0) 1 1 h22 hi hz hsz hby rfl (by decide) ad xs.length xs.length (xs.map (Value.int .u8)) (by rw [List.length_map, Nat.mul_one]) (cells_of_C hx)
        a l.length c (l.map (Value.int .u8)) (by rw [List.length_map, Nat.mul_one]) (cells_of_C hr) (by omega) (by simp only [maxLen]; omega) (by omega)
      have h3 : (Kd.int .u8).R 5 w1 W.heap.size (fun _ => True) v1 (xs ++ l) := Kd.R_of_own (enc := Value.int .u8) (xs := xs ++ l) (by rw [List.length_append]; simpa [encs] using ho) (fun k hk => trivial)
      obtain ⟨g, cap, rfl, _, _, _⟩ := Kd.R_form h3 (by rw [List.length_append]; omega)
      obtain ⟨h4, h5, h6⟩ := Kd.R_reads' h3
      exact ⟨⟨g, 0, none⟩, cap, w1, hr1, h6, h5, ⟨hg.os, hg.tape, hg.output, hg.size, fun k hk => hg.block k hk (by simp)⟩⟩
theorem exec_append {P : Program} {ev : Operand → Value} {o : Oper} {s x : Operand} {v u v1 : Value} {W w1 : World} (ho : o.op = .call { callee := .builtin .append, args := #[s, x], argTypes := #[22, 22] }) (hty : o.type = 22) (hs : ev s = v) (hx : ev x = u)
    (hrun : (Builtin.append_ #[22, 22] 22 #[v, u]).run P W = .ok v1 w1) : (execOp ev o).run P W = .ok (.value v1) w1 := by
  unfold execOp
  simp only [ho, resolve, invoke, builtin, Sem.run_bind, Sem.run_pure, Result.andThen_ok, List.map_toArray, List.map_cons, List.map_nil, hs, hx, hty, hrun]
theorem js11 : encs1 (js [w11]) = [88, 0] := by
  show enc1 11 [] ++ [] = _
  unfold enc1
  rw [List.length_nil, vnum_small (by decide)]
  rfl
theorem str_88 : strOfNums [88, 0] = { data := #[88, 0] } := by rfl
theorem wds1 (W : World) : WdC (W.alloc (.cells w11.1.toArray 38)) (some ⟨W.heap.size, 0, none⟩) [w11] := fun _ => ⟨W.heap.size, rfl, fun i x hi => by
  have hi0 : i = 0 := by
    rcases i with _ | i
    · rfl
    · simp at hi
  subst hi0
  simp only [List.getElem?_cons_zero, Option.some.injEq] at hi
  subst hi
  refine ⟨fun j v hv => ?_, w11_ok⟩
  rw [Nat.zero_mul, Nat.zero_add]
  exact cell_wcl (blk_new W _) j hv⟩
theorem built38_11' : Tryd.prog.built 38 [(0, .int .i64 11)] = some w11.1.toArray := by kernel_rfl
set_option maxRecDepth 100000 in
theorem make_ok_m (A : Option Addr) (c N : Nat) (l : List Int) (w : World) (hN : N = l.length) (hr : Kd.C (Kd.int .u8) w A l.length l) (hl : Bytes l) (hc : l.length ≤ c) (hn : N ≤ 500) :
    Calls Tryd.prog 6 #[.slice A N c, .int .i64 4, .int .i64 8] w fun e w' => ∃ (A1 : Option Addr) (c1 m : Nat) (bs : List (Int × List Int)), e = .returned (.tuple #[.agg #[.int .i64 4, .int .i64 8, .int .i64 (N : Int), .slice A1 m c1], .int .i64 0]) ∧ BkC w' A1 bs ∧ (∀ b ∈ bs, Blk b) ∧ bs.length = m ∧ m = (N + 3) / 4 ∧ Below w.heap.size w w' := by
  subst hN
  refine (make_ok A c l w hr hl hc hn).mono ?_
  rintro e w' ⟨A1, c1, rfl, h1, h2⟩
  exact ⟨A1, c1, _, _, rfl, BkC.of_R h1, blk_bls _ _, bls_len _ _, rfl, h2⟩
set_option maxRecDepth 100000 in
theorem tell_ok_m (A : Option Addr) (c n m N1 : Nat) (bs : List (Int × List Int)) (ad : Addr) (c1 : Nat) (L : List Int) (w : World) (hm : bs.length = m) (hN : L.length = N1) (hC : BkC w A bs) (hbs : ∀ b ∈ bs, Blk b) (hl : m = (n + 3) / 4) (hn : n ≤ 500)
    (hr : Kd.C (Kd.int .u8) w (some ad) L.length L) (hL : Bytes L) (hc : L.length ≤ c1) (hLn : N1 ≤ 501) :
    Calls Tryd.prog 7 #[sgV n (.slice A m c), .slice (some ad) N1 c1, .int .i64 32] w fun e w' => ∃ (A2 : Option Addr) (c2 K : Nat) (us : List (Int × Int × List Int)) (sm : List Int), e = .returned (.tuple #[.agg (tcl (.slice A2 K c2) 32 sm).toArray, .int .i64 0]) ∧ us.length = K ∧ sm.length = 32 ∧ Kd.S frK 144 w' w.heap.size (fun _ => True) (.slice A2 K c2) us ∧ AllOk us ∧ tws us ≤ 501 ∧ Below w.heap.size w w' := by
  subst hm hN
  refine (tell_ok A c n bs ad c1 L w hC hbs hl hn hr hL hc hLn).mono ?_
  rintro e w' ⟨A2, c2, us, rfl, h1, h2, h3, h4⟩
  exact ⟨A2, c2, _, us, S L, rfl, rfl, S_len L, h1, h2, h3, h4⟩
theorem exec_conv22 {ev : Operand → Value} {o : Oper} {x : Operand} {v u : Value} {W w1 : World} (ho : o.op = .convert 22 22 x) (hx : ev x = v) (hrun : (convert 22 22 v).run Tryd.prog W = .ok u w1) : (execOp ev o).run Tryd.prog W = .ok (.value u) w1 := by
  unfold execOp
  simp [ho, hx, hrun, Result.andThen]
/-- The conversion of a literal to its own type marks its row, wherever it lies. -/
theorem conv_at (w : World) (g : Nat) (C : Array Value) (n c : Nat) (hg : w.heap[g]? = some (.cells C 5)) :
    ∃ w1, (convert 22 22 (.slice (some ⟨g, 0, none⟩) n c)).run Tryd.prog w = .ok (.slice (some ⟨g, 0, none⟩) n c) w1 ∧ w1.heap[g]? = some (.cells C 5 (C.size, C.size + 1)) ∧ (∀ B, B ≤ g → Below B w w1) ∧ ∀ k, k ≠ g → w1.heap[k]? = w.heap[k]? := by
  have hsh : w.shape? g = some (5, C.size) := by
    unfold World.shape?
    rw [hg]
  refine ⟨w.freeze ⟨g, C.size, none⟩ 1, ?_, ?_, fun B hB => ?_, fun i hi => ?_⟩
  · simp [convert, run_underlying Tryd.underlying22, run_underlying Tryd.underlying5, markStringish, hsh]
  · unfold World.freeze
    rw [if_neg (by decide)]
    show (w.heap.modify g _)[g]? = _
    rw [Array.getElem?_modify, if_pos rfl, hg]
    rfl
  · unfold World.freeze
    rw [if_neg (by decide)]
    refine ⟨rfl, rfl, rfl, by show w.heap.size ≤ (w.heap.modify g _).size; rw [Array.size_modify]; exact Nat.le_refl _, fun i hi => ?_⟩
    show (w.heap.modify g _)[i]? = _
    rw [Array.getElem?_modify, if_neg (show ¬ g = i by omega)]
  · unfold World.freeze
    rw [if_neg (by decide)]
    show (w.heap.modify g _)[i]? = _
    rw [Array.getElem?_modify, if_neg (fun e => hi e.symm)]
theorem types_ne {w : World} {g k t1 t2 : Nat} {c1 c2 : Array Value} {f1 f2 : Nat × Nat} (h1 : w.heap[g]? = some (.cells c1 t1 f1)) (h2 : w.heap[k]? = some (.cells c2 t2 f2)) (ht : t1 ≠ t2) : k ≠ g := by
  rintro rfl
  rw [h1] at h2
  injection h2 with h2
  injection h2 with _ h2
  exact ht h2
theorem row_C {W : World} {g : Nat} {xs : List Int} {fr : Nat × Nat} (h : W.heap[g]? = some (.cells (bys xs) 5 fr)) (hx : xs.length ≤ 1000) : Kd.C (Kd.int .u8) W (some ⟨g, 0, none⟩) xs.length xs := by
  refine Kd.C_of_reads (d := (0 : Int)) (h1 := fun _ => rfl) ⟨rfl, by omega, fun hn => ⟨_, rfl, fun j hj => ?_⟩⟩
  have hadd : (⟨g, 0, none⟩ : Addr).add j = ⟨g, j, none⟩ := by unfold Addr.add; split <;> simp_all
  rw [hadd, cell_of_row _ _ j (bys xs) 5 fr h]
  have := bys_get xs j hj
  rw [this]
  unfold rd
  rw [Int.toNat_natCast]
theorem exec_store_row {P : Program} {ev : Operand → Value} {o : Oper} {ty : TypeId} {x y : Operand} {W : World} (ho : o.op = .store ty x y) (g : Nat) (cells : Array Value) (hx : ev x = .pointer (some ⟨g, 0, none⟩)) (hy : ev y = .agg cells)
    (t : TypeId) (old : Array Value) (hg : W.heap[g]? = some (.cells old t (0, 0))) (hi : (P.info? ty).map (·.size) = some cells.size) (hold : old.size = cells.size) (h1 : cells.all (·.oneCell') = true) : (execOp ev o).run P W = .ok .skip (W.setRow g cells) := by
  unfold execOp
  simp only [ho, hx, hy, Instr.storeAt, Instr.sureAddr, Sem.run_bind, Sem.run_pure, Result.andThen_ok, run_storeVar_row W g t ty old cells hg hi hold h1]
theorem box4f {w : World} {g : Nat} {n : Nat} {v : Value} (h : Sg w g n v) : (w.cell? ⟨g, 0, none⟩ = some (.int .i64 4) ∧ w.cell? ⟨g, 1, none⟩ = some (.int .i64 8) ∧ w.cell? ⟨g, 2, none⟩ = some (.int .i64 (n : Int)) ∧ w.cell? ⟨g, 3, none⟩ = some v) := (box4 h).1
/-- What the region of patch.Tell leaves, in whatever order its variable is made. -/
def Told (wb w' : World) (A5 : Option Addr) (c5 K5 : Nat) (us : List (Int × Int × List Int)) (sm : List Int) (gt : Nat) : Prop :=
  Below wb.heap.size wb w' ∧ Kd.S frK 144 w' wb.heap.size (fun _ => True) (.slice A5 K5 c5) us ∧ AllOk us ∧ tws us ≤ 501 ∧ us.length = K5 ∧ sm.length = 32 ∧ w'.heap[gt]? = some (.cells (tcl (.slice none 0 0) 0 (List.replicate 32 0)).toArray 36 (0, 0)) ∧ wb.heap.size ≤ gt
theorem lit_R (W : World) (base : Nat) (x y z : Wdt) (h0 : x.1.length = 91) (h1 : y.1.length = 91) (h2 : z.1.length = 91) (k0 : ∀ u ∈ x.1, u.oneCell' = true) (k1 : ∀ u ∈ y.1, u.oneCell' = true) (k2 : ∀ u ∈ z.1, u.oneCell' = true) (hb : base ≤ W.heap.size) :
    wdK.R 38 (W.alloc (.cells (x.1 ++ y.1 ++ z.1).toArray 38)) base (fun _ => True) (.slice (some ⟨W.heap.size, 0, none⟩) 3 3) [x, y, z] := by
  refine ⟨fun _ _ => trivial, x.1 ++ y.1 ++ z.1, ?_, reps3 x y z _ (wdK_M x h0 k0) (wdK_M y h1 k1) (wdK_M z h2 k2) h0 h1 h2⟩
  have h := World.ownsRow_lit (base := base) (e := 38) (size := 91) W (x.1 ++ y.1 ++ z.1).toArray 3 hb (by simp [maxLen]) (by simp [h0, h1, h2])
  show (W.alloc _).ownsRow base 38 91 _ 3 _
  simpa using h
theorem words_len (n : Nat) (A1 : Option Addr) (c1 : Nat) (bs : List (Int × List Int)) (A2 : Option Addr) (c2 : Nat) (us : List (Int × Int × List Int)) (sm : List Int) (A : Option Addr) (c : Nat) (l : List Int) (ns : List ByteArray) : (words n A1 c1 bs A2 c2 us sm A c l ns).length = 3 + ns.length := by
  unfold words
  rw [List.length_append, List.length_map]
  rfl
theorem words_snoc (n : Nat) (A1 : Option Addr) (c1 : Nat) (bs : List (Int × List Int)) (A2 : Option Addr) (c2 : Nat) (us : List (Int × Int × List Int)) (sm : List Int) (A : Option Addr) (c : Nat) (l : List Int) {ns : List ByteArray} {i : Nat} {s : ByteArray} (h : ns[i]? = some s) :
    words n A1 c1 bs A2 c2 us sm A c l (ns.take i) ++ [w7 s] = words n A1 c1 bs A2 c2 us sm A c l (ns.take (i + 1)) := by
  unfold words
  rw [List.take_add_one, h, List.map_append, List.append_assoc]
  rfl
theorem wpList_lit38_3 {ops : Array Oper} {rest : List Oper} {o : Oper} {a : Act} {w : World} {Q : Exit → Act → World → Prop} (hg : o.guard = none) (x y z : Operand) (ho : o.op = .buildSlice 43 3 #[(0, x), (1, y), (2, z)]) (c0 c1 c2 : List Value) (h0 : c0.length = 91) (h1 : c1.length = 91) (h2 : c2.length = 91) (hx : a.eval x = .agg c0.toArray) (hy : a.eval y = .agg c1.toArray) (hz : a.eval z = .agg c2.toArray)
    (h : wpList Tryd.prog ops Q rest (a.put o.dst (.slice (some ⟨w.heap.size, 0, none⟩) 3 3)) (w.alloc (.cells (c0 ++ c1 ++ c2).toArray 38))) : wpList Tryd.prog ops Q (o :: rest) a w :=
  wpList_plain hg fun _ hK => by
    unfold Oper.wp
    rw [lit38_3 c0 c1 c2 h0 h1 h2 w o a.eval x y z ho hx hy hz]
    exact hK _ _ h
theorem wbytes_ok_m (A : Option Addr) (c N : Nat) (ws : List Wdt) (w : World) (hN : ws.length = N) (hC : WdC w A ws) (hF : ∀ x ∈ ws, FrameAt w x.1 x.2.1 x.2.2) (hk : ∀ x ∈ js ws, FrOk x) (hl : (encs1 (js ws)).length ≤ 60000) (hn : N ≤ 100) :
    Calls Tryd.prog 5 #[.slice A N c] w fun e w' => ∃ A1 c1 NB, e = .returned (.tuple #[.slice A1 NB c1, .int .i64 0]) ∧ NB = (encs1 (js ws)).length ∧ NB ≤ c1 ∧ Kd.C (Kd.int .u8) w' A1 (encs1 (js ws)).length (encs1 (js ws)) ∧ Below w.heap.size w w' := by
  subst hN
  refine (wbytes_ok A c ws w hC hF hk hl hn).mono ?_
  rintro e w' ⟨A1, c1, rfl, h1, h2⟩
  obtain ⟨h3, h4, h5⟩ := Kd.R_reads' h1
  exact ⟨A1, c1, _, rfl, rfl, h4, h5, h2⟩
theorem TkC.of_R {w : World} {base n c : Nat} {ok : Nat → Prop} {A : Option Addr} {us : List (Int × Int × List Int)} (hR : frK.R 51 w base ok (.slice A n c) us) : TkC w A us := fun h0 => by
  have hr := Kd.R_reads' hR
  obtain ⟨ad, hA, _⟩ := hr.2.2.2.2 h0
  subst hA
  obtain ⟨g, rfl⟩ := Kd.R_head hR
  refine ⟨g, rfl, fun i t ht => ?_⟩
  have hi := (List.getElem?_eq_some_iff.1 ht).1
  obtain ⟨ad, cs, hA, hcl, hK, hcc⟩ := Kd.C_get hr.2.2 (0, 0, []) (i : Int) (by omega) (by omega)
  injection hA with hA
  subst hA
  rw [Int.toNat_natCast, List.getD_eq_getElem?_getD, ht] at hK
  obtain ⟨A1, c1, rfl, hl, hC⟩ := frK_K (k := t.1) (s := t.2.1) (xs := t.2.2) hK
  have hsz : frK.sz = 3 := rfl
  simp only [Int.toNat_natCast, hsz, Addr.add_mid, Nat.zero_add] at hcc
  exact ⟨A1, c1, hl, ⟨hcc 0 _ rfl, hcc 1 _ rfl, hcc 2 _ rfl⟩, hC⟩
/-- Add, over the frames that come whole. -/
theorem add_ok_m (g base : Nat) (A : Option Addr) (n c : Nat) (hs C : List Int) (A0 : Option Addr) (n0 c0 : Nat) (r : Int) (js : List (Nat × List Int)) (m : Nat) (rest : List Int) (w : World) (hm : js.length = m) (hf : Fr.Fd w g (.slice A0 n0 c0) r) (ho : Own w base (.slice A0 n0 c0) hs)
    (hr : Kd.C (Kd.int .u8) w A n C) (hcat : hs ++ C = encs1 js ++ rest) (hj : ∀ j ∈ js, FrOk j) (hrest : Begin rest) (hn : (hs ++ C).length ≤ 100000) (hjl : js.length ≤ 1000) (hbase : base ≤ g) (hnc : n ≤ c) :
    Calls Tryd.prog 8 #[.pointer (some ⟨g, 0, none⟩), .slice A n c] w fun e w' => ∃ A1 c1, e = .returned (.slice A1 m c1) ∧ TkC w' A1 (js.map frv) ∧ (∃ A2 n2 c2 r2, Fr.Fd w' g (.slice A2 n2 c2) r2 ∧ Own w' base (.slice A2 n2 c2) rest) ∧ Below base w w' := by
  subst hm
  refine (add_ok g base A n c hs C A0 n0 c0 r js rest w hf ho hr hcat hj hrest hn hjl hbase hnc).mono ?_
  rintro e w' ⟨A1, c1, rfl, h1, h2, h3⟩
  exact ⟨A1, c1, rfl, TkC.of_R h1, h2, h3⟩
theorem encs_pos {ws : List Wdt} (h : 0 < ws.length) : encs1 (js ws) ≠ [] := by
  cases ws with
  | nil => exact absurd h (Nat.lt_irrefl 0)
  | cons x t => show enc1 x.2.1 x.2.2 ++ _ ≠ []; unfold enc1; simp
/-- One more piece: what is held and what comes are frames and a beginning. -/
theorem piece_cut {L : List (Nat × List Int)} {rest b : List Int} {at_ q : Nat} (hL : ∀ j ∈ L, FrOk j) (h : encs1 L = rest ++ b.drop at_) (haq : at_ ≤ q) :
    ∃ m rest', m ≤ L.length ∧ rest ++ (b.take q).drop at_ = encs1 (L.take m) ++ rest' ∧ Begin rest' ∧ encs1 (L.drop m) = rest' ++ b.drop q ∧ (b.drop q = [] → m = L.length ∧ rest' = []) := by
  have hb : b.drop at_ = (b.take q).drop at_ ++ b.drop q := by
    rw [List.drop_take, show b.drop q = (b.drop at_).drop (q - at_) by rw [List.drop_drop]; congr 1; omega, List.take_append_drop]
  rw [hb, ← List.append_assoc] at h
  obtain ⟨k, r, h1, h2, h3, h4, h5⟩ := cut_encs L _ _ hL h
  exact ⟨k, r, h1, h2, h3, h4, h5⟩
theorem exec_load_mid {P : Program} {ev : Operand → Value} {o : Oper} {ty : TypeId} {x : Operand} {W : World} (ho : o.op = .load ty x) (b k : Nat) (hx : ev x = .pointer (some ⟨b, k, none⟩)) (cs : List Value) (d : TypeDesc) (hc : W.rangeAt b k cs)
    (hu : P.underlying ty = some d) (hd : d.isRow = true) (hi : (P.info? ty).map (·.size) = some cs.length) : (execOp ev o).run P W = .ok (.value (.agg cs.toArray)) W := by
  unfold execOp
  simp only [ho, hx, Sem.run_bind, run_loadAt_mid W b k ty cs d hc hu hd hi, Result.andThen_ok, Sem.run_pure]
theorem heard_m {w0 : World} {x : Wdt} (h : Heard w0 x) (A : Option Addr) (c k ll : Nat) (w : World) (hk : x.2.1 = k) (hll : ll = x.2.2.length) (hb : Below w0.heap.size w0 w) (hC : Kd.C (Kd.int .u8) w A x.2.2.length x.2.2) (hc : ll ≤ c) :
    Calls Tryd.prog 9 #[.agg #[.int .i64 (k : Int), .int .i64 0, .slice A ll c]] w fun e w' => ∃ cs' : List Value, e = .returned (.tuple #[.agg cs'.toArray, .nilIface]) ∧ Like w' x.1 cs' ∧ cs'.length = 91 ∧ (∀ u ∈ cs', u.oneCell' = true) ∧ Below w.heap.size w w' := by
  subst hk hll
  exact h A c x.2.2 w hb rfl hC hc
/-- The cells that the law compares: here (at g, from o on) and in the list. -/
structure Cmp (w : World) (g G o : Nat) : Prop where
  out : ∃ (k n : Int) (name : ByteArray) (A1 A1' A2 A2' A3 A3' : Option Addr) (n1 c1 c1' c2 c2' n3 c3 c3' : Nat) (ys sm : List Int), sm.length = 32 ∧ Kd.C (Kd.int .u8) w A2 ys.length ys ∧ Kd.C (Kd.int .u8) w A2' ys.length ys ∧
    (w.cell? ⟨g, 0, none⟩ = some (.int .i64 k) ∧ w.cell? ⟨g, 1, none⟩ = some (.int .i64 n) ∧ w.cell? ⟨g, 2, none⟩ = some (.string name) ∧ w.cell? ⟨g, 3, none⟩ = some (.slice A1' n1 c1') ∧ w.cell? ⟨g, 52, none⟩ = some (.slice A2' ys.length c2') ∧ w.cell? ⟨g, 56, none⟩ = some (.slice A3' n3 c3') ∧ w.rangeAt g 59 (sm.map (Value.int .u8))) ∧
    (w.cell? ⟨G, o, none⟩ = some (.int .i64 k) ∧ w.cell? ⟨G, o + 1, none⟩ = some (.int .i64 n) ∧ w.cell? ⟨G, o + 2, none⟩ = some (.string name) ∧ w.cell? ⟨G, o + 3, none⟩ = some (.slice A1 n1 c1) ∧ w.cell? ⟨G, o + 52, none⟩ = some (.slice A2 ys.length c2) ∧ w.cell? ⟨G, o + 56, none⟩ = some (.slice A3 n3 c3) ∧ w.rangeAt G (o + 59) (sm.map (Value.int .u8)))
theorem cmp_of {w : World} {g G o : Nat} {cs cs' : List Value} (hl : Like w cs cs') (hg : w.heap[g]? = some (.cells cs'.toArray 38 (0, 0))) (hG : w.rangeAt G o cs) : Cmp w g G o := by
  obtain ⟨k, n, name, A1, A1', A2, A2', A3, A3', A4, A4', n1, c1, c1', c2, c2', n3, c3, c3', n4, c4, n4', c4', ys, s0, s1, s2, cut, sm, rfl, rfl, hs, hc1, hc2⟩ := hl.out
  have hr : ∀ (u v w1 x : List Value), u.length = 59 → ((u ++ v).drop 59).take v.length = v := fun u v _ _ h => by rw [List.drop_append_of_le_length (by omega), List.drop_of_length_le (by omega), List.nil_append, List.take_length]
  refine ⟨⟨k, n, name, A1, A1', A2, A2', A3, A3', n1, c1, c1', c2, c2', n3, c3, c3', ys, sm, hs, hc1, hc2, ⟨cell_wcl hg 0 rfl, cell_wcl hg 1 rfl, cell_wcl hg 2 rfl, cell_wcl hg 3 rfl, cell_wcl hg 52 rfl, cell_wcl hg 56 rfl, wcl_range hg 59 _ ?_⟩, ⟨hG 0 _ rfl, hG 1 _ rfl, hG 2 _ rfl, hG 3 _ rfl, hG 52 _ rfl, hG 56 _ rfl, fun j v hv => ?_⟩⟩⟩
  · show ((sm.map (Value.int .u8)).take (sm.map (Value.int .u8)).length) = _
    rw [List.take_length]
  · rw [Nat.add_assoc]
    refine hG (59 + j) v ?_
    show (_ : List Value)[59 + j]? = _
    rw [← List.getElem?_drop]
    exact hv
theorem exec_geq_false {ev : Operand → Value} {o : Oper} {x y : Operand} {a b : Int} {W : World} (ho : o.op = .binOp .geq 3 x y 3) (hx : ev x = .int .i64 a) (hy : ev y = .int .i64 b) (h : a < b) : (execOp ev o).run Tryd.prog W = .ok (.value (.bool false)) W := by
  unfold execOp
  have h2 : ¬ b ≤ a := by omega
  simp [ho, hx, hy, go_sem, h2]
theorem js_bad : ([] ++ [88, 1, 120] : List Int) = encs1 [(11, [120])] ++ [] := by
  show _ = (enc1 11 [120] ++ []) ++ []
  unfold enc1
  rw [List.length_singleton, vnum_small (by decide)]
  rfl
/-- A signature lies in block g. -/
theorem sg_of {W : World} {n : Nat} {A : Option Addr} {m c : Nat} : Sg (W.alloc (.cells #[.int .i64 4, .int .i64 8, .int .i64 (n : Int), .slice A m c] 33)) W.heap.size n (.slice A m c) := blk_new _ _
end Go.Proofs.YtgoephcembgmcaaDoor.Wd
