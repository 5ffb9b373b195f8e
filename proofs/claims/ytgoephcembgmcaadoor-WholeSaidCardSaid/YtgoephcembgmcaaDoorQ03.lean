import Derived.Test.YtgoephcembgmcaaDoorQ02
import Derived.Test.YtgoephcembgmcaaDoorProg
import Derived.WalkKit
import Derived.LaidEql
import Derived.Stop.Asserts
import Derived.RowKitTokens
import Derived.Laws.CopyRow
import Derived.Laws.CopyOwn
import Derived.Deep.WholeRow
set_option linter.unusedSimpArgs false
set_option linter.unusedVariables false
namespace Go.Proofs.YtgoephcembgmcaaDoor.Fr
open Go.RowKit Go.Proofs.YtgoephcembgmcaaDoorW.PrintWords Go.Proofs.YtgoephcembgmcaaDoorW.PrintLast Wk FrM Rg
open WkM (w64)
/-- What frame.Read answers with an error. -/
abbrev readErr (f : Nat) : Value := .tuple #[.agg #[.int .i64 0, .int .i64 0, .slice none 0 0], .int .i64 0, fe f]
theorem Flt.alloc {w : World} {f : Nat} {a n : Int} (h : Flt w f a n) (o : Obj) : Flt (w.alloc o) f a n := blk_alloc h o
/-- Where Head answers with an error, so does Read. -/
theorem fread_of_head (A : Option Addr) (n c : Nat) (w : World)
    (hh : ∀ w1, Below w.heap.size w w1 → Calls Tryd.prog 68 #[.slice A n c] w1 fun e w' => (∃ f a, e = .returned (headErr f) ∧ Flt w' f a 30 ∧ w1.heap.size ≤ f) ∧ Below w1.heap.size w1 w') :
    Calls Tryd.prog 26 #[.slice A n c] w fun e w' => (∃ f a, e = .returned (readErr f) ∧ Flt w' f a 30 ∧ w.heap.size ≤ f) ∧ Below w.heap.size w w' := by
  have hu := Tryd.underlying51
  have HH := hide hh
  clear hh
  go_enter Tryd.func26, Tryd.ntmps26
  go_wp2_with fail
  have f0 : Frm (w.alloc (.cells #[.int .i64 0, .int .i64 0, .slice none 0 0] 51)) w.heap.size 0 0 (.slice none 0 0) := blk_new _ _
  have b0 : Below w.heap.size w (w.alloc (.cells #[.int .i64 0, .int .i64 0, .slice none 0 0] 51)) := below_alloc (Below.refl _ _) _
  generalize w.alloc (.cells #[.int .i64 0, .int .i64 0, .slice none 0 0] 51) = w1 at f0 b0 ⊢
  refine (unhide HH w1 b0).mono ?_
  rintro e w2 ⟨⟨f, a, rfl, hT, hf⟩, hb2⟩
  have NF : Hid (w.heap.size < f) := Nat.lt_of_lt_of_le (blk_lt f0) hf
  have F2 := hide (blk_alloc (f0.below hb2) (.cells #[.int .i64 0, .int .i64 0, .slice none 0 0] 51))
  have B2 := hide (below_alloc (below_step b0 hb2) (.cells #[.int .i64 0, .int .i64 0, .slice none 0 0] 51))
  have T2 := hide (hT.alloc (.cells #[.int .i64 0, .int .i64 0, .slice none 0 0] 51))
  clear f0 b0 hb2 hT hf HH
  obtain ⟨⟨f0, f1, f2⟩, ⟨f3, f4, f5⟩, f6⟩ := (show Frm _ _ 0 0 (.slice none 0 0) from unhide F2).cells
  go_wp2
  have F9 : Frm ((((w2.alloc (.cells #[.int .i64 0, .int .i64 0, .slice none 0 0] 51)).setCell ⟨w.heap.size, 0, none⟩ (.int .i64 0)).setCell ⟨w.heap.size, 1, none⟩ (.int .i64 0)).setCell ⟨w.heap.size, 2, none⟩ (.slice none 0 0)) w.heap.size 0 0 (.slice none 0 0) := blk_put (blk_put (blk_put (unhide F2) 0 _ rfl) 1 _ rfl) 2 _ rfl
  have B9 : Below w.heap.size w ((((w2.alloc (.cells #[.int .i64 0, .int .i64 0, .slice none 0 0] 51)).setCell ⟨w.heap.size, 0, none⟩ (.int .i64 0)).setCell ⟨w.heap.size, 1, none⟩ (.int .i64 0)).setCell ⟨w.heap.size, 2, none⟩ (.slice none 0 0)) := below_set (below_set (below_set (unhide B2) (Nat.le_refl _)) (Nat.le_refl _)) (Nat.le_refl _)
  have T9 : Flt ((((w2.alloc (.cells #[.int .i64 0, .int .i64 0, .slice none 0 0] 51)).setCell ⟨w.heap.size, 0, none⟩ (.int .i64 0)).setCell ⟨w.heap.size, 1, none⟩ (.int .i64 0)).setCell ⟨w.heap.size, 2, none⟩ (.slice none 0 0)) f a 30 := (((unhide T2).far (by have := unhide NF; simp; omega) _).far (by have := unhide NF; simp; omega) _).far (by have := unhide NF; simp; omega) _
  clear f0 f1 f2 f3 f4 f5 f6
  generalize (((w2.alloc (.cells #[.int .i64 0, .int .i64 0, .slice none 0 0] 51)).setCell ⟨w.heap.size, 0, none⟩ (.int .i64 0)).setCell ⟨w.heap.size, 1, none⟩ (.int .i64 0)).setCell ⟨w.heap.size, 2, none⟩ (.slice none 0 0) = w9 at F9 B9 T9 ⊢
  obtain ⟨⟨f0, f1, f2⟩, _, _⟩ := F9.cells
  refine bodyPost_ret (v := readErr f) (by simp [results, Tryd.results26, go_sem, f0, f1, f2, hu]) rfl ⟨⟨f, a, rfl, T9, Nat.le_of_lt (unhide NF)⟩, B9⟩
set_option maxHeartbeats 2000000 in
set_option maxRecDepth 100000 in
/-- Bytes that are a frame's head, and not all of its data. -/
theorem fread_short (ad : Addr) (n c k m : Nat) (L q : List Int) (w : World) (hC : Kd.C (Kd.int .u8) w (some ad) n L) (hL : L = ((8 * k : Nat) : Int) :: (vnum m ++ q)) (hk : 1 ≤ k ∧ k ≤ 31) (hm : m ≤ 16384) (hq : q.length < m) (hn : n ≤ 1000000) :
    Calls Tryd.prog 26 #[.slice (some ad) n c] w fun e w' => (∃ f a, e = .returned (readErr f) ∧ Flt w' f a 30 ∧ w.heap.size ≤ f) ∧ Below w.heap.size w w' := by
  have hu := Tryd.underlying51
  obtain ⟨k1, hk1⟩ : ∃ q, q = 1 + (vnum m).length := ⟨_, rfl⟩
  have hnl : n = k1 + q.length := by rw [← hC.1, hL, List.length_cons, List.length_append]; omega
  obtain ⟨lf, hlf⟩ : ∃ x, x = q.length := ⟨_, rfl⟩
  have E1 : Hid (wrap64 ((n : Int) - (k1 : Int)) = (lf : Int)) := by show _ = _; rw [w64 _ (by omega) (by omega)]; omega
  have D1 : Hid ((lf : Int) < (m : Int)) := by show _ < _; omega
  have HC := hide hC
  have HL := hide hL
  have HK1 := hide hk1
  have HM := hide hm
  clear hC hL hk1 hnl hlf hm hq
  go_enter Tryd.func26, Tryd.ntmps26
  go_wp2_with fail
  have f0 : Frm (w.alloc (.cells #[.int .i64 0, .int .i64 0, .slice none 0 0] 51)) w.heap.size 0 0 (.slice none 0 0) := blk_new _ _
  have b0 : Below w.heap.size w (w.alloc (.cells #[.int .i64 0, .int .i64 0, .slice none 0 0] 51)) := below_alloc (Below.refl _ _) _
  have c0 := Kd.C_below (unhide HC) b0
  generalize w.alloc (.cells #[.int .i64 0, .int .i64 0, .slice none 0 0] 51) = w1 at f0 b0 c0 ⊢
  refine (head_ok ad n c m k L q _ c0 (unhide HL) hk (unhide HM) hn).mono ?_
  rintro e w2 ⟨rfl, hb2⟩
  rw [← unhide HK1]
  have N2 : Hid (w.heap.size < w2.heap.size) := Nat.lt_of_lt_of_le (blk_lt f0) hb2.size
  have F2 := hide (blk_alloc (blk_alloc (f0.below hb2) (.cells #[.int .i64 (k : Int), .int .i64 0, .slice none 0 0] 51)) (.cells #[.int .i64 (n : Int), .int .i64 30] 98))
  have B2 := hide (below_alloc (below_alloc (below_step b0 hb2) (.cells #[.int .i64 (k : Int), .int .i64 0, .slice none 0 0] 51)) (.cells #[.int .i64 (n : Int), .int .i64 30] 98))
  have T2 : Hid (Flt ((w2.alloc (.cells #[.int .i64 (k : Int), .int .i64 0, .slice none 0 0] 51)).alloc (.cells #[.int .i64 (n : Int), .int .i64 30] 98)) (w2.heap.size + 1) (n : Int) 30) := by
    have h : Flt ((w2.alloc (.cells #[.int .i64 (k : Int), .int .i64 0, .slice none 0 0] 51)).alloc (.cells #[.int .i64 (n : Int), .int .i64 30] 98)) (w2.alloc (.cells #[.int .i64 (k : Int), .int .i64 0, .slice none 0 0] 51)).heap.size (n : Int) 30 := blk_new _ _
    rw [World.size_alloc] at h
    exact h
  clear f0 b0 c0 hb2
  have e1 := unhide E1
  have d1 := unhide D1
  obtain ⟨⟨f0, f1, f2⟩, ⟨f3, f4, f5⟩, f6⟩ := (show Frm _ _ 0 0 (.slice none 0 0) from unhide F2).cells
  go_wp2
  have F9 : Frm (((((w2.alloc (.cells #[.int .i64 (k : Int), .int .i64 0, .slice none 0 0] 51)).alloc (.cells #[.int .i64 (n : Int), .int .i64 30] 98)).setCell ⟨w.heap.size, 0, none⟩ (.int .i64 0)).setCell ⟨w.heap.size, 1, none⟩ (.int .i64 0)).setCell ⟨w.heap.size, 2, none⟩ (.slice none 0 0)) w.heap.size 0 0 (.slice none 0 0) := blk_put (blk_put (blk_put (unhide F2) 0 _ rfl) 1 _ rfl) 2 _ rfl
  have B9 : Below w.heap.size w (((((w2.alloc (.cells #[.int .i64 (k : Int), .int .i64 0, .slice none 0 0] 51)).alloc (.cells #[.int .i64 (n : Int), .int .i64 30] 98)).setCell ⟨w.heap.size, 0, none⟩ (.int .i64 0)).setCell ⟨w.heap.size, 1, none⟩ (.int .i64 0)).setCell ⟨w.heap.size, 2, none⟩ (.slice none 0 0)) := below_set (below_set (below_set (unhide B2) (Nat.le_refl _)) (Nat.le_refl _)) (Nat.le_refl _)
  have T9 : Flt (((((w2.alloc (.cells #[.int .i64 (k : Int), .int .i64 0, .slice none 0 0] 51)).alloc (.cells #[.int .i64 (n : Int), .int .i64 30] 98)).setCell ⟨w.heap.size, 0, none⟩ (.int .i64 0)).setCell ⟨w.heap.size, 1, none⟩ (.int .i64 0)).setCell ⟨w.heap.size, 2, none⟩ (.slice none 0 0)) (w2.heap.size + 1) (n : Int) 30 := (((unhide T2).far (by have := unhide N2; simp; omega) _).far (by have := unhide N2; simp; omega) _).far (by have := unhide N2; simp; omega) _
  clear f0 f1 f2 f3 f4 f5 f6
  generalize ((((w2.alloc (.cells #[.int .i64 (k : Int), .int .i64 0, .slice none 0 0] 51)).alloc (.cells #[.int .i64 (n : Int), .int .i64 30] 98)).setCell ⟨w.heap.size, 0, none⟩ (.int .i64 0)).setCell ⟨w.heap.size, 1, none⟩ (.int .i64 0)).setCell ⟨w.heap.size, 2, none⟩ (.slice none 0 0) = w9 at F9 B9 T9 ⊢
  obtain ⟨⟨f0, f1, f2⟩, _, _⟩ := F9.cells
  refine bodyPost_ret (v := readErr (w2.heap.size + 1)) (by simp [results, Tryd.results26, go_sem, f0, f1, f2, hu]) rfl ⟨⟨w2.heap.size + 1, (n : Int), rfl, T9, by have := unhide N2; show w.heap.size ≤ w2.heap.size + 1; omega⟩, B9⟩
/-- A frame's beginning: the head, or less, or the head and not all of the data. -/
def Begin (L : List Int) : Prop := L = [] ∨ ∃ (k : Nat) (q : List Int), 1 ≤ k ∧ k ≤ 31 ∧ L = ((8 * k : Nat) : Int) :: q ∧ (Part q ∨ ∃ (m : Nat) (r : List Int), q = vnum m ++ r ∧ m ≤ 16384 ∧ r.length < m)
theorem fread_end (A : Option Addr) (n c : Nat) (L : List Int) (w : World) (hC : Kd.C (Kd.int .u8) w A n L) (hL : Begin L) (hn : n ≤ 1000000) :
    Calls Tryd.prog 26 #[.slice A n c] w fun e w' => (∃ f a, e = .returned (readErr f) ∧ Flt w' f a 30 ∧ w.heap.size ≤ f) ∧ Below w.heap.size w w' := by
  have hl := hC.1
  rcases hL with rfl | ⟨k, q, h1, h2, rfl, hq⟩
  · have h0 : n = 0 := by rw [← hl]; rfl
    subst h0
    exact fread_of_head A 0 c w fun w1 hb => (head_nil A c w1).mono fun e w' ⟨⟨f, he, hf, hs⟩, hb'⟩ => ⟨⟨f, 0, he, hf, hs⟩, hb'⟩
  · have h0 : 0 < n := by rw [← hl, List.length_cons]; omega
    cases A with
    | none => obtain ⟨ad, ha, _⟩ := Kd.at_int hC 0 (by omega) (by omega); cases ha
    | some ad =>
      rcases hq with hq | ⟨m, r, rfl, hm, hr⟩
      · exact fread_of_head (some ad) n c w fun w1 hb => (head_part ad n c k _ q w1 (Kd.C_below hC hb) rfl ⟨h1, h2⟩ hq).mono fun e w' ⟨⟨f, he, hf, hs⟩, hb'⟩ => ⟨⟨f, _, he, hf, hs⟩, hb'⟩
      · exact fread_short ad n c k m _ r w hC rfl ⟨h1, h2⟩ hm hr hn
end Go.Proofs.YtgoephcembgmcaaDoor.Fr
namespace Go.Proofs.YtgoephcembgmcaaDoor.Wd
open Go.RowKit Go.Proofs.YtgoephcembgmcaaDoorW.PrintWords Go.Proofs.YtgoephcembgmcaaDoorW.PrintLast Wk FrM Fr Rg
/-- n noughts of bytes. -/
def z8 (n : Nat) : List Value := List.replicate n (.int .u8 0)
/-- The cells of a word. -/
def wcl (k n : Int) (name : ByteArray) (ps ds : Value) (s0 s1 s2 : Int) (bl tk : Value) (cut : Int) (S : List Value) : List Value :=
  [.int .i64 k, .int .i64 n, .string name, ps] ++ z8 48 ++ [ds, .int .i64 s0, .int .i64 s1, .int .i64 s2, bl, tk, .int .i64 cut] ++ S
abbrev nl : Value := .slice none 0 0
theorem cell_wcl {w : World} {g : Nat} {cs : List Value} (h : w.heap[g]? = some (.cells cs.toArray 38 (0, 0))) (j : Nat) {v : Value} (hv : cs[j]? = some v) : w.cell? ⟨g, j, none⟩ = some v := by
  rw [cell_of_row w g j _ _ _ h]
  simpa using hv
theorem wcl_range {w : World} {g : Nat} {cs : List Value} (h : w.heap[g]? = some (.cells cs.toArray 38 (0, 0))) (o : Nat) (xs : List Value) (hx : (cs.drop o).take xs.length = xs) : w.rangeAt g o xs := fun j v hv => by
  refine cell_wcl h (o + j) ?_
  have hj : j < xs.length := (List.getElem?_eq_some_iff.1 hv).1
  rw [← hx, List.getElem?_take, if_pos hj, List.getElem?_drop] at hv
  exact hv
theorem size28 : (Tryd.prog.info? 28).map (·.size) = some 32 := by kernel_rfl
theorem size30 : (Tryd.prog.info? 30).map (·.size) = some 16 := by kernel_rfl
theorem size38 : (Tryd.prog.info? 38).map (·.size) = some 91 := by kernel_rfl
theorem eql28 (w : World) : (Op.equalIn 10000 28 (.agg (z8 32).toArray) (.agg #[.int .u8 0, .int .u8 0, .int .u8 0, .int .u8 0, .int .u8 0, .int .u8 0, .int .u8 0, .int .u8 0, .int .u8 0, .int .u8 0, .int .u8 0, .int .u8 0, .int .u8 0, .int .u8 0, .int .u8 0, .int .u8 0, .int .u8 0, .int .u8 0, .int .u8 0, .int .u8 0, .int .u8 0, .int .u8 0, .int .u8 0, .int .u8 0, .int .u8 0, .int .u8 0, .int .u8 0, .int .u8 0, .int .u8 0, .int .u8 0, .int .u8 0, .int .u8 0])).run Tryd.prog w = .ok true w := by kernel_rfl
theorem eql30 (w : World) : (Op.equalIn 10000 30 (.agg (z8 16).toArray) (.agg #[.int .u8 0, .int .u8 0, .int .u8 0, .int .u8 0, .int .u8 0, .int .u8 0, .int .u8 0, .int .u8 0, .int .u8 0, .int .u8 0, .int .u8 0, .int .u8 0, .int .u8 0, .int .u8 0, .int .u8 0, .int .u8 0])).run Tryd.prog w = .ok true w := by kernel_rfl
theorem wpList_load_midG {P : Program} {ops : Array Oper} {rest : List Oper} {op : Oper} {a : Act} {w : World} {Q : Exit → Act → World → Prop} (hw : Region.wanted op (yielded ops a.tmps) = true) (ty : TypeId) (x : Operand) (ho : op.op = .load ty x)
    (b o : Nat) (hx : a.eval x = .pointer (some ⟨b, o, none⟩)) (cs : List Value) (d : TypeDesc) (hc : w.rangeAt b o cs)
    (hu : P.underlying ty = some d) (hd : d.isRow = true) (hi : (P.info? ty).map (·.size) = some cs.length)
    (h : wpList P ops Q rest (a.put op.dst (.agg cs.toArray)) w) : wpList P ops Q (op :: rest) a w :=
  BigFrame.wpList_want hw fun _ hK => wp_load_mid ty x ho b o hx cs d hc hu hd hi (hK _ _ h)
set_option maxHeartbeats 4000000 in
set_option maxRecDepth 100000 in
theorem spare_11  (w : World) : Calls Tryd.prog 52 #[.agg (wcl 11 0 { data := #[] } nl nl 0 0 0 nl nl 0 (z8 32)).toArray, .string { data := #[] }] w fun e w' => e = .returned (.bool false) ∧ Below w.heap.size w w' := by
  go_enter Tryd.func52, Tryd.ntmps52
  simp only [List.append_eq, List.cons_append, List.nil_append]
  go_wp2_with fail
  have HB : (w.alloc (.cells (wcl 11 0 { data := #[] } nl nl 0 0 0 nl nl 0 (z8 32)).toArray 38)).heap[w.heap.size]? = some (.cells (wcl 11 0 { data := #[] } nl nl 0 0 0 nl nl 0 (z8 32)).toArray 38 (0, 0)) := blk_new _ _
  have BB : Below w.heap.size w (w.alloc (.cells (wcl 11 0 { data := #[] } nl nl 0 0 0 nl nl 0 (z8 32)).toArray 38)) := below_alloc (Below.refl _ _) _
  generalize w.alloc (.cells (wcl 11 0 { data := #[] } nl nl 0 0 0 nl nl 0 (z8 32)).toArray 38) = w1 at HB BB ⊢
  refine (has_11_n _).mono ?_
  intro e w' hh; rw [hh.1, hh.2]; clear hh
  have c1 : w1.cell? ⟨w.heap.size, 1, none⟩ = some (.int .i64 0) := cell_wcl HB 1 rfl
  go_wp2_with (fail)
  clear c1
  refine (has_11_t _).mono ?_
  intro e w' hh; rw [hh.1, hh.2]; clear hh
  have c2 : w1.cell? ⟨w.heap.size, 2, none⟩ = some (.string { data := #[] }) := cell_wcl HB 2 rfl
  go_wp2_with (fail)
  clear c2
  refine (has_11_p _).mono ?_
  intro e w' hh; rw [hh.1, hh.2]; clear hh
  have c3 : w1.cell? ⟨w.heap.size, 3, none⟩ = some (nl) := cell_wcl HB 3 rfl
  go_wp2_with (fail)
  clear c3
  refine (has_11_s _).mono ?_
  intro e w' hh; rw [hh.1, hh.2]; clear hh
  have q := eql28
  go_wp2_with (refine wpList_load_midG rfl 28 _ rfl w.heap.size 4 rfl (z8 32) _ (wcl_range HB 4 _ rfl) Tryd.underlying28 rfl size28 ?_)
  clear q
  refine (has_11_c _).mono ?_
  intro e w' hh; rw [hh.1, hh.2]; clear hh
  have q := eql30
  go_wp2_with (refine wpList_load_midG rfl 30 _ rfl w.heap.size 36 rfl (z8 16) _ (wcl_range HB 36 _ rfl) Tryd.underlying30 rfl size30 ?_)
  clear q
  refine (has_11_d _).mono ?_
  intro e w' hh; rw [hh.1, hh.2]; clear hh
  have c52 : w1.cell? ⟨w.heap.size, 52, none⟩ = some (nl) := cell_wcl HB 52 rfl
  go_wp2_with (fail)
  clear c52
  refine (has_11_b _).mono ?_
  intro e w' hh; rw [hh.1, hh.2]; clear hh
  have c53 : w1.cell? ⟨w.heap.size, 53, none⟩ = some (.int .i64 0) := cell_wcl HB 53 rfl
  have c54 : w1.cell? ⟨w.heap.size, 54, none⟩ = some (.int .i64 0) := cell_wcl HB 54 rfl
  have c55 : w1.cell? ⟨w.heap.size, 55, none⟩ = some (.int .i64 0) := cell_wcl HB 55 rfl
  have c56 : w1.cell? ⟨w.heap.size, 56, none⟩ = some (nl) := cell_wcl HB 56 rfl
  go_wp2_with (fail)
  clear c53 c54 c55 c56
  refine (has_11_f _).mono ?_
  intro e w' hh; rw [hh.1, hh.2]; clear hh
  have c57 : w1.cell? ⟨w.heap.size, 57, none⟩ = some (nl) := cell_wcl HB 57 rfl
  have c58 : w1.cell? ⟨w.heap.size, 58, none⟩ = some (.int .i64 0) := cell_wcl HB 58 rfl
  have q := eql28
  go_wp2_with (refine wpList_load_midG rfl 28 _ rfl w.heap.size 59 rfl (z8 32) _ (wcl_range HB 59 _ rfl) Tryd.underlying28 rfl size28 ?_)
  go_ret
  exact ⟨rfl, BB⟩
set_option maxHeartbeats 4000000 in
set_option maxRecDepth 100000 in
theorem spare_14 (s0 s1 s2 : Int) (A : Option Addr) (n c : Nat) (w : World) : Calls Tryd.prog 52 #[.agg (wcl 14 3 { data := #[] } nl nl s0 s1 s2 (.slice A n c) nl 0 (z8 32)).toArray, .string { data := #[110, 98] }] w fun e w' => e = .returned (.bool false) ∧ Below w.heap.size w w' := by
  go_enter Tryd.func52, Tryd.ntmps52
  simp only [List.append_eq, List.cons_append, List.nil_append]
  go_wp2_with fail
  have HB : (w.alloc (.cells (wcl 14 3 { data := #[] } nl nl s0 s1 s2 (.slice A n c) nl 0 (z8 32)).toArray 38)).heap[w.heap.size]? = some (.cells (wcl 14 3 { data := #[] } nl nl s0 s1 s2 (.slice A n c) nl 0 (z8 32)).toArray 38 (0, 0)) := blk_new _ _
  have BB : Below w.heap.size w (w.alloc (.cells (wcl 14 3 { data := #[] } nl nl s0 s1 s2 (.slice A n c) nl 0 (z8 32)).toArray 38)) := below_alloc (Below.refl _ _) _
  generalize w.alloc (.cells (wcl 14 3 { data := #[] } nl nl s0 s1 s2 (.slice A n c) nl 0 (z8 32)).toArray 38) = w1 at HB BB ⊢
  refine (has_14_n _).mono ?_
  intro e w' hh; rw [hh.1, hh.2]; clear hh
  go_wp2_with (fail)
  refine (has_14_t _).mono ?_
  intro e w' hh; rw [hh.1, hh.2]; clear hh
  have c2 : w1.cell? ⟨w.heap.size, 2, none⟩ = some (.string { data := #[] }) := cell_wcl HB 2 rfl
  go_wp2_with (fail)
  clear c2
  refine (has_14_p _).mono ?_
  intro e w' hh; rw [hh.1, hh.2]; clear hh
  have c3 : w1.cell? ⟨w.heap.size, 3, none⟩ = some (nl) := cell_wcl HB 3 rfl
  go_wp2_with (fail)
  clear c3
  refine (has_14_s _).mono ?_
  intro e w' hh; rw [hh.1, hh.2]; clear hh
  have q := eql28
  go_wp2_with (refine wpList_load_midG rfl 28 _ rfl w.heap.size 4 rfl (z8 32) _ (wcl_range HB 4 _ rfl) Tryd.underlying28 rfl size28 ?_)
  clear q
  refine (has_14_c _).mono ?_
  intro e w' hh; rw [hh.1, hh.2]; clear hh
  have q := eql30
  go_wp2_with (refine wpList_load_midG rfl 30 _ rfl w.heap.size 36 rfl (z8 16) _ (wcl_range HB 36 _ rfl) Tryd.underlying30 rfl size30 ?_)
  clear q
  refine (has_14_d _).mono ?_
  intro e w' hh; rw [hh.1, hh.2]; clear hh
  have c52 : w1.cell? ⟨w.heap.size, 52, none⟩ = some (nl) := cell_wcl HB 52 rfl
  go_wp2_with (fail)
  clear c52
  refine (has_14_b _).mono ?_
  intro e w' hh; rw [hh.1, hh.2]; clear hh
  go_wp2_with (fail)
  refine (has_14_f _).mono ?_
  intro e w' hh; rw [hh.1, hh.2]; clear hh
  have c57 : w1.cell? ⟨w.heap.size, 57, none⟩ = some (nl) := cell_wcl HB 57 rfl
  have c58 : w1.cell? ⟨w.heap.size, 58, none⟩ = some (.int .i64 0) := cell_wcl HB 58 rfl
  have q := eql28
  go_wp2_with (refine wpList_load_midG rfl 28 _ rfl w.heap.size 59 rfl (z8 32) _ (wcl_range HB 59 _ rfl) Tryd.underlying28 rfl size28 ?_)
  go_ret
  exact ⟨rfl, BB⟩
set_option maxHeartbeats 4000000 in
set_option maxRecDepth 100000 in
theorem spare_4 (cut : Int) (A : Option Addr) (n c : Nat) (S : List Value) (w : World) : Calls Tryd.prog 52 #[.agg (wcl 4 4 { data := #[] } nl nl 0 0 0 nl (.slice A n c) cut S).toArray, .string { data := #[110, 102] }] w fun e w' => e = .returned (.bool false) ∧ Below w.heap.size w w' := by
  go_enter Tryd.func52, Tryd.ntmps52
  simp only [List.append_eq, List.cons_append, List.nil_append]
  go_wp2_with fail
  have HB : (w.alloc (.cells (wcl 4 4 { data := #[] } nl nl 0 0 0 nl (.slice A n c) cut S).toArray 38)).heap[w.heap.size]? = some (.cells (wcl 4 4 { data := #[] } nl nl 0 0 0 nl (.slice A n c) cut S).toArray 38 (0, 0)) := blk_new _ _
  have BB : Below w.heap.size w (w.alloc (.cells (wcl 4 4 { data := #[] } nl nl 0 0 0 nl (.slice A n c) cut S).toArray 38)) := below_alloc (Below.refl _ _) _
  generalize w.alloc (.cells (wcl 4 4 { data := #[] } nl nl 0 0 0 nl (.slice A n c) cut S).toArray 38) = w1 at HB BB ⊢
  refine (has_4_n _).mono ?_
  intro e w' hh; rw [hh.1, hh.2]; clear hh
  go_wp2_with (fail)
  refine (has_4_t _).mono ?_
  intro e w' hh; rw [hh.1, hh.2]; clear hh
  have c2 : w1.cell? ⟨w.heap.size, 2, none⟩ = some (.string { data := #[] }) := cell_wcl HB 2 rfl
  go_wp2_with (fail)
  clear c2
  refine (has_4_p _).mono ?_
  intro e w' hh; rw [hh.1, hh.2]; clear hh
  have c3 : w1.cell? ⟨w.heap.size, 3, none⟩ = some (nl) := cell_wcl HB 3 rfl
  go_wp2_with (fail)
  clear c3
  refine (has_4_s _).mono ?_
  intro e w' hh; rw [hh.1, hh.2]; clear hh
  have q := eql28
  go_wp2_with (refine wpList_load_midG rfl 28 _ rfl w.heap.size 4 rfl (z8 32) _ (wcl_range HB 4 _ rfl) Tryd.underlying28 rfl size28 ?_)
  clear q
  refine (has_4_c _).mono ?_
  intro e w' hh; rw [hh.1, hh.2]; clear hh
  have q := eql30
  go_wp2_with (refine wpList_load_midG rfl 30 _ rfl w.heap.size 36 rfl (z8 16) _ (wcl_range HB 36 _ rfl) Tryd.underlying30 rfl size30 ?_)
  clear q
  refine (has_4_d _).mono ?_
  intro e w' hh; rw [hh.1, hh.2]; clear hh
  have c52 : w1.cell? ⟨w.heap.size, 52, none⟩ = some (nl) := cell_wcl HB 52 rfl
  go_wp2_with (fail)
  clear c52
  refine (has_4_b _).mono ?_
  intro e w' hh; rw [hh.1, hh.2]; clear hh
  have c53 : w1.cell? ⟨w.heap.size, 53, none⟩ = some (.int .i64 0) := cell_wcl HB 53 rfl
  have c54 : w1.cell? ⟨w.heap.size, 54, none⟩ = some (.int .i64 0) := cell_wcl HB 54 rfl
  have c55 : w1.cell? ⟨w.heap.size, 55, none⟩ = some (.int .i64 0) := cell_wcl HB 55 rfl
  have c56 : w1.cell? ⟨w.heap.size, 56, none⟩ = some (nl) := cell_wcl HB 56 rfl
  go_wp2_with (fail)
  clear c53 c54 c55 c56
  refine (has_4_f _).mono ?_
  intro e w' hh; rw [hh.1, hh.2]; clear hh
  go_wp2_with (fail)
  go_ret
  exact ⟨rfl, BB⟩
set_option maxHeartbeats 4000000 in
set_option maxRecDepth 100000 in
theorem spare_5 (A : Option Addr) (n c : Nat) (w : World) : Calls Tryd.prog 52 #[.agg (wcl 5 5 { data := #[] } nl (.slice A n c) 0 0 0 nl nl 0 (z8 32)).toArray, .string { data := #[110, 100] }] w fun e w' => e = .returned (.bool false) ∧ Below w.heap.size w w' := by
  go_enter Tryd.func52, Tryd.ntmps52
  simp only [List.append_eq, List.cons_append, List.nil_append]
  go_wp2_with fail
  have HB : (w.alloc (.cells (wcl 5 5 { data := #[] } nl (.slice A n c) 0 0 0 nl nl 0 (z8 32)).toArray 38)).heap[w.heap.size]? = some (.cells (wcl 5 5 { data := #[] } nl (.slice A n c) 0 0 0 nl nl 0 (z8 32)).toArray 38 (0, 0)) := blk_new _ _
  have BB : Below w.heap.size w (w.alloc (.cells (wcl 5 5 { data := #[] } nl (.slice A n c) 0 0 0 nl nl 0 (z8 32)).toArray 38)) := below_alloc (Below.refl _ _) _
  generalize w.alloc (.cells (wcl 5 5 { data := #[] } nl (.slice A n c) 0 0 0 nl nl 0 (z8 32)).toArray 38) = w1 at HB BB ⊢
  refine (has_5_n _).mono ?_
  intro e w' hh; rw [hh.1, hh.2]; clear hh
  go_wp2_with (fail)
  refine (has_5_t _).mono ?_
  intro e w' hh; rw [hh.1, hh.2]; clear hh
  have c2 : w1.cell? ⟨w.heap.size, 2, none⟩ = some (.string { data := #[] }) := cell_wcl HB 2 rfl
  go_wp2_with (fail)
  clear c2
  refine (has_5_p _).mono ?_
  intro e w' hh; rw [hh.1, hh.2]; clear hh
  have c3 : w1.cell? ⟨w.heap.size, 3, none⟩ = some (nl) := cell_wcl HB 3 rfl
  go_wp2_with (fail)
  clear c3
  refine (has_5_s _).mono ?_
  intro e w' hh; rw [hh.1, hh.2]; clear hh
  have q := eql28
  go_wp2_with (refine wpList_load_midG rfl 28 _ rfl w.heap.size 4 rfl (z8 32) _ (wcl_range HB 4 _ rfl) Tryd.underlying28 rfl size28 ?_)
  clear q
  refine (has_5_c _).mono ?_
  intro e w' hh; rw [hh.1, hh.2]; clear hh
  have q := eql30
  go_wp2_with (refine wpList_load_midG rfl 30 _ rfl w.heap.size 36 rfl (z8 16) _ (wcl_range HB 36 _ rfl) Tryd.underlying30 rfl size30 ?_)
  clear q
  refine (has_5_d _).mono ?_
  intro e w' hh; rw [hh.1, hh.2]; clear hh
  go_wp2_with (fail)
  refine (has_5_b _).mono ?_
  intro e w' hh; rw [hh.1, hh.2]; clear hh
  have c53 : w1.cell? ⟨w.heap.size, 53, none⟩ = some (.int .i64 0) := cell_wcl HB 53 rfl
  have c54 : w1.cell? ⟨w.heap.size, 54, none⟩ = some (.int .i64 0) := cell_wcl HB 54 rfl
  have c55 : w1.cell? ⟨w.heap.size, 55, none⟩ = some (.int .i64 0) := cell_wcl HB 55 rfl
  have c56 : w1.cell? ⟨w.heap.size, 56, none⟩ = some (nl) := cell_wcl HB 56 rfl
  go_wp2_with (fail)
  clear c53 c54 c55 c56
  refine (has_5_f _).mono ?_
  intro e w' hh; rw [hh.1, hh.2]; clear hh
  have c57 : w1.cell? ⟨w.heap.size, 57, none⟩ = some (nl) := cell_wcl HB 57 rfl
  have c58 : w1.cell? ⟨w.heap.size, 58, none⟩ = some (.int .i64 0) := cell_wcl HB 58 rfl
  have q := eql28
  go_wp2_with (refine wpList_load_midG rfl 28 _ rfl w.heap.size 59 rfl (z8 32) _ (wcl_range HB 59 _ rfl) Tryd.underlying28 rfl size28 ?_)
  go_ret
  exact ⟨rfl, BB⟩
set_option maxHeartbeats 4000000 in
set_option maxRecDepth 100000 in
theorem spare_7 (name : ByteArray) (w : World) : Calls Tryd.prog 52 #[.agg (wcl 7 0 name nl nl 0 0 0 nl nl 0 (z8 32)).toArray, .string { data := #[116] }] w fun e w' => e = .returned (.bool false) ∧ Below w.heap.size w w' := by
  go_enter Tryd.func52, Tryd.ntmps52
  simp only [List.append_eq, List.cons_append, List.nil_append]
  go_wp2_with fail
  have HB : (w.alloc (.cells (wcl 7 0 name nl nl 0 0 0 nl nl 0 (z8 32)).toArray 38)).heap[w.heap.size]? = some (.cells (wcl 7 0 name nl nl 0 0 0 nl nl 0 (z8 32)).toArray 38 (0, 0)) := blk_new _ _
  have BB : Below w.heap.size w (w.alloc (.cells (wcl 7 0 name nl nl 0 0 0 nl nl 0 (z8 32)).toArray 38)) := below_alloc (Below.refl _ _) _
  generalize w.alloc (.cells (wcl 7 0 name nl nl 0 0 0 nl nl 0 (z8 32)).toArray 38) = w1 at HB BB ⊢
  refine (has_7_n _).mono ?_
  intro e w' hh; rw [hh.1, hh.2]; clear hh
  have c1 : w1.cell? ⟨w.heap.size, 1, none⟩ = some (.int .i64 0) := cell_wcl HB 1 rfl
  go_wp2_with (fail)
  clear c1
  refine (has_7_t _).mono ?_
  intro e w' hh; rw [hh.1, hh.2]; clear hh
  go_wp2_with (fail)
  refine (has_7_p _).mono ?_
  intro e w' hh; rw [hh.1, hh.2]; clear hh
  have c3 : w1.cell? ⟨w.heap.size, 3, none⟩ = some (nl) := cell_wcl HB 3 rfl
  go_wp2_with (fail)
  clear c3
  refine (has_7_s _).mono ?_
  intro e w' hh; rw [hh.1, hh.2]; clear hh
  have q := eql28
  go_wp2_with (refine wpList_load_midG rfl 28 _ rfl w.heap.size 4 rfl (z8 32) _ (wcl_range HB 4 _ rfl) Tryd.underlying28 rfl size28 ?_)
  clear q
  refine (has_7_c _).mono ?_
  intro e w' hh; rw [hh.1, hh.2]; clear hh
  have q := eql30
  go_wp2_with (refine wpList_load_midG rfl 30 _ rfl w.heap.size 36 rfl (z8 16) _ (wcl_range HB 36 _ rfl) Tryd.underlying30 rfl size30 ?_)
  clear q
  refine (has_7_d _).mono ?_
  intro e w' hh; rw [hh.1, hh.2]; clear hh
  have c52 : w1.cell? ⟨w.heap.size, 52, none⟩ = some (nl) := cell_wcl HB 52 rfl
  go_wp2_with (fail)
  clear c52
  refine (has_7_b _).mono ?_
  intro e w' hh; rw [hh.1, hh.2]; clear hh
  have c53 : w1.cell? ⟨w.heap.size, 53, none⟩ = some (.int .i64 0) := cell_wcl HB 53 rfl
  have c54 : w1.cell? ⟨w.heap.size, 54, none⟩ = some (.int .i64 0) := cell_wcl HB 54 rfl
  have c55 : w1.cell? ⟨w.heap.size, 55, none⟩ = some (.int .i64 0) := cell_wcl HB 55 rfl
  have c56 : w1.cell? ⟨w.heap.size, 56, none⟩ = some (nl) := cell_wcl HB 56 rfl
  go_wp2_with (fail)
  clear c53 c54 c55 c56
  refine (has_7_f _).mono ?_
  intro e w' hh; rw [hh.1, hh.2]; clear hh
  have c57 : w1.cell? ⟨w.heap.size, 57, none⟩ = some (nl) := cell_wcl HB 57 rfl
  have c58 : w1.cell? ⟨w.heap.size, 58, none⟩ = some (.int .i64 0) := cell_wcl HB 58 rfl
  have q := eql28
  go_wp2_with (refine wpList_load_midG rfl 28 _ rfl w.heap.size 59 rfl (z8 32) _ (wcl_range HB 59 _ rfl) Tryd.underlying28 rfl size28 ?_)
  go_ret
  exact ⟨rfl, BB⟩
set_option maxHeartbeats 4000000 in
set_option maxRecDepth 100000 in
theorem spare_3 (A : Option Addr) (n c : Nat) (w : World) : Calls Tryd.prog 52 #[.agg (wcl 3 0 { data := #[] } (.slice A n c) nl 0 0 0 nl nl 0 (z8 32)).toArray, .string { data := #[112] }] w fun e w' => e = .returned (.bool false) ∧ Below w.heap.size w w' := by
  go_enter Tryd.func52, Tryd.ntmps52
  simp only [List.append_eq, List.cons_append, List.nil_append]
  go_wp2_with fail
  have HB : (w.alloc (.cells (wcl 3 0 { data := #[] } (.slice A n c) nl 0 0 0 nl nl 0 (z8 32)).toArray 38)).heap[w.heap.size]? = some (.cells (wcl 3 0 { data := #[] } (.slice A n c) nl 0 0 0 nl nl 0 (z8 32)).toArray 38 (0, 0)) := blk_new _ _
  have BB : Below w.heap.size w (w.alloc (.cells (wcl 3 0 { data := #[] } (.slice A n c) nl 0 0 0 nl nl 0 (z8 32)).toArray 38)) := below_alloc (Below.refl _ _) _
  generalize w.alloc (.cells (wcl 3 0 { data := #[] } (.slice A n c) nl 0 0 0 nl nl 0 (z8 32)).toArray 38) = w1 at HB BB ⊢
  refine (has_3_n _).mono ?_
  intro e w' hh; rw [hh.1, hh.2]; clear hh
  have c1 : w1.cell? ⟨w.heap.size, 1, none⟩ = some (.int .i64 0) := cell_wcl HB 1 rfl
  go_wp2_with (fail)
  clear c1
  refine (has_3_t _).mono ?_
  intro e w' hh; rw [hh.1, hh.2]; clear hh
  have c2 : w1.cell? ⟨w.heap.size, 2, none⟩ = some (.string { data := #[] }) := cell_wcl HB 2 rfl
  go_wp2_with (fail)
  clear c2
  refine (has_3_p _).mono ?_
  intro e w' hh; rw [hh.1, hh.2]; clear hh
  go_wp2_with (fail)
  refine (has_3_s _).mono ?_
  intro e w' hh; rw [hh.1, hh.2]; clear hh
  have q := eql28
  go_wp2_with (refine wpList_load_midG rfl 28 _ rfl w.heap.size 4 rfl (z8 32) _ (wcl_range HB 4 _ rfl) Tryd.underlying28 rfl size28 ?_)
  clear q
  refine (has_3_c _).mono ?_
  intro e w' hh; rw [hh.1, hh.2]; clear hh
  have q := eql30
  go_wp2_with (refine wpList_load_midG rfl 30 _ rfl w.heap.size 36 rfl (z8 16) _ (wcl_range HB 36 _ rfl) Tryd.underlying30 rfl size30 ?_)
  clear q
  refine (has_3_d _).mono ?_
  intro e w' hh; rw [hh.1, hh.2]; clear hh
  have c52 : w1.cell? ⟨w.heap.size, 52, none⟩ = some (nl) := cell_wcl HB 52 rfl
  go_wp2_with (fail)
  clear c52
  refine (has_3_b _).mono ?_
  intro e w' hh; rw [hh.1, hh.2]; clear hh
  have c53 : w1.cell? ⟨w.heap.size, 53, none⟩ = some (.int .i64 0) := cell_wcl HB 53 rfl
  have c54 : w1.cell? ⟨w.heap.size, 54, none⟩ = some (.int .i64 0) := cell_wcl HB 54 rfl
  have c55 : w1.cell? ⟨w.heap.size, 55, none⟩ = some (.int .i64 0) := cell_wcl HB 55 rfl
  have c56 : w1.cell? ⟨w.heap.size, 56, none⟩ = some (nl) := cell_wcl HB 56 rfl
  go_wp2_with (fail)
  clear c53 c54 c55 c56
  refine (has_3_f _).mono ?_
  intro e w' hh; rw [hh.1, hh.2]; clear hh
  have c57 : w1.cell? ⟨w.heap.size, 57, none⟩ = some (nl) := cell_wcl HB 57 rfl
  have c58 : w1.cell? ⟨w.heap.size, 58, none⟩ = some (.int .i64 0) := cell_wcl HB 58 rfl
  have q := eql28
  go_wp2_with (refine wpList_load_midG rfl 28 _ rfl w.heap.size 59 rfl (z8 32) _ (wcl_range HB 59 _ rfl) Tryd.underlying28 rfl size28 ?_)
  go_ret
  exact ⟨rfl, BB⟩
end Go.Proofs.YtgoephcembgmcaaDoor.Wd
namespace Go.Proofs.YtgoephcembgmcaaDoor.Er
open Go.RowKit Go.Extern.Stop Go.Stop Go.Extern Rg
theorem run_equalIn_iface_int {P : Program} (w : World) (d : Nat) {ti tn : TypeId} {ms : Array (String × TypeId)} {i : TypeInfo} {k : IntKind} (a b : Int)
    (hi : P.underlying ti = some (.interface ms)) (hn : P.underlying tn = some (.int k)) (hinfo : P.info? tn = some i) (hcomp : i.comparable = true) :
    (Op.equalIn (d + 2) ti (.iface tn (.int k a)) (.iface tn (.int k b))).run P w = .ok (a == b) w := by
  simp [Op.equalIn, run_underlying hi, run_underlying hn, typeInfo, hinfo, hcomp]
/-- Two errors of one integer type. -/
theorem run_eql_iface_int {P : Program} (w : World) {ti tn : TypeId} {ms : Array (String × TypeId)} {i : TypeInfo} {k : IntKind} (a b : Int)
    (hi : P.underlying ti = some (.interface ms)) (hn : P.underlying tn = some (.int k)) (hinfo : P.info? tn = some i) (hcomp : i.comparable = true) :
    (binOp .eql ti (.iface tn (.int k a)) (.iface tn (.int k b))).run P w = .ok (.bool (a == b)) w := by
  simp only [binOp]
  simp [Op.equal, Op.maxDepth, run_equalIn_iface_int w 9998 a b hi hn hinfo hcomp]
theorem tyOf24 (v : Value) (w : World) : (Extern.ReflectliteType.typeOf #[.iface 24 v]).run Tryd.prog w = .ok (.iface 197 (.agg #[.pointer (some ⟨9, 24, none⟩)])) w := by kernel_rfl
theorem call178 (w : World) : (callFunc 178 #[.agg #[.pointer (some ⟨9, 24, none⟩)]]).run Tryd.prog w = .ok (.value (.bool true)) w := by kernel_rfl
theorem call69 (v : Value) (w : World) : (callFunc 69 #[.iface 24 v]).run Tryd.prog w = .ok (.value (.iface 197 (.agg #[.pointer (some ⟨9, 24, none⟩)]))) w := by kernel_rfl
theorem methC (v : Value) (w : World) : (Go.method 389 197 v "Comparable").run Tryd.prog w = .ok (178, v) w := by kernel_rfl
theorem methU (v : Value) (w : World) : (Go.method 389 95 v "Unwrap").run Tryd.prog w = .ok (172, v) w := by kernel_rfl
theorem cmp24 : (Tryd.prog.info? 24).map (·.comparable) = some true := by kernel_rfl
theorem noIs95 (v : Value) (xT : TypeId) (w : World) : (Instr.typeAssert (.iface 95 v) xT 199 true).run Tryd.prog w = .ok (.tuple #[.nilIface, .bool false]) w := run_typeAssert_lacksB Tryd.underlying199 (by kernel_rfl) (by kernel_rfl) v xT w
theorem hasUnwrap95 (v : Value) (xT : TypeId) (w : World) : (Instr.typeAssert (.iface 95 v) xT 202 true).run Tryd.prog w = .ok (.tuple #[.iface 95 v, .bool true]) w := run_typeAssert_hasB Tryd.underlying202 (by kernel_rfl) v xT w
theorem is_nil (n : Int) (w : World) : Calls Tryd.prog 27 #[.nilIface, .iface 24 (.int .i64 n)] w fun e w' => e = .returned (.bool false) ∧ w' = w := by
  have hn := run_eql_iface_nil_left (P := Tryd.prog) w 24 (.int .i64 n) Tryd.underlying45
  go_enter Tryd.func27, Tryd.ntmps27
  go_wp2
  go_ret
  exact ⟨rfl, rfl⟩
set_option maxRecDepth 100000 in
theorem is_short (f : Nat) (at_ n : Int) (w : World) (hf : w.heap[f]? = some (.cells #[.int .i64 at_, .int .i64 n] 98 (0, 0))) :
    Calls Tryd.prog 27 #[.iface 95 (.pointer (some ⟨f, 0, none⟩)), .iface 24 (.int .i64 n)] w fun e w' => e = .returned (.bool true) ∧ w' = w := by
  have h69 := call69
  have h178 := call178
  have mC := methC
  have mU := methU
  have nI := noIs95
  have hU := hasUnwrap95
  obtain ⟨i, hi, hcmp⟩ := Option.map_eq_some_iff.1 cmp24
  have heq := run_eql_iface_int (P := Tryd.prog) w n n Tryd.underlying45 Tryd.underlying24 hi hcmp
  have hty := run_eql_iface_types (P := Tryd.prog) 95 24 (.pointer (some ⟨f, 0, none⟩)) (.int .i64 n) Tryd.underlying45 (by decide) w
  have hu98 := Tryd.underlying98
  have hc0 : w.cell? ⟨f, 0, none⟩ = some (.int .i64 at_) := cell_of_row w f 0 _ 98 (0, 0) hf
  have hc1 : w.cell? ⟨f, 1, none⟩ = some (.int .i64 n) := cell_of_row w f 1 _ 98 (0, 0) hf
  clear hf
  go_enter Tryd.func27, Tryd.ntmps27
  go_wp2
  refine wp_loop_rounds 2 ?_
  rw [rounds_succ]
  go_wp2
  rw [rounds_succ]
  go_wp2
  go_ret
  exact ⟨rfl, rfl⟩
end Go.Proofs.YtgoephcembgmcaaDoor.Er
namespace Go.Proofs.YtgoephcembgmcaaDoor.Fr
open Go.RowKit Go.Proofs.YtgoephcembgmcaaDoorW.PrintWords Go.Proofs.YtgoephcembgmcaaDoorW.PrintLast Wk FrM Rg
open WkM (w64)
/-- A feed at g: what it holds, how much it read. -/
def Fd (w : World) (g : Nat) (h : Value) (r : Int) : Prop := w.heap[g]? = some (.cells #[h, .int .i64 r, .nilIface] 47 (0, 0))
theorem Fd.cells {w : World} {g : Nat} {h : Value} {r : Int} (f : Fd w g h r) :
    (w.cell? ⟨g, 0, none⟩ = some h ∧ w.cell? ⟨g, 1, none⟩ = some (.int .i64 r) ∧ w.cell? ⟨g, 2, none⟩ = some .nilIface) ∧ (w.frozen? ⟨g, 0, none⟩ = false ∧ w.frozen? ⟨g, 1, none⟩ = false ∧ w.frozen? ⟨g, 2, none⟩ = false) ∧ g < w.heap.size := box3 f
theorem Fd.own {w : World} {g base : Nat} {h u : Value} {r : Int} {xs : List Int} (f : Fd w g h r) (ho : Own w base u xs) (j : Nat) (x : Value) : Own (w.setCell ⟨g, j, none⟩ x) base u xs :=
  Kd.R_set ho f (fun q hq => by simp [Kd.int, Kd.scalar] at hq; omega) j x
/-- Bytes cut from a place on. -/
theorem from_any (A0 : Option Addr) (c0 : Nat) (l : List Int) (a : Nat) (hc : l.length ≤ c0) (ha : a ≤ l.length) :
    ∃ A1 : Option Addr, (∀ W : World, (Instr.slice 22 (.slice A0 l.length c0) (some (.int .i64 (a : Int))) none none).run Tryd.prog W = .ok (.slice A1 (l.drop a).length (c0 - a)) W) ∧
    (∀ w : World, Kd.C (Kd.int .u8) w A0 l.length l → Kd.C (Kd.int .u8) w A1 (l.drop a).length (l.drop a)) ∧ (l.drop a).length ≤ c0 - a := by
  obtain ⟨i0, hi, _, hsz, _⟩ := info_parts info5
  have h1 := cut_from (P := Tryd.prog) 22 5 .i64 Tryd.underlying22 hi 1 hsz A0 l.length c0 (a : Int) (by omega) (by omega)
  simp only [Int.toNat_natCast] at h1
  have hd : (l.drop a).length = l.length - a := List.length_drop
  refine ⟨if c0 = a then A0 else A0.map (·.add (a * 1)), fun W => by rw [hd]; exact h1 W, fun w h => ?_, by omega⟩
  exact Kd.C_drop (c := c0) h ha hc
/-- A frame as a row's element. -/
def frK : Kd (Int × Int × List Int) := Kd.pair (Kd.int .i64) (Kd.pair (Kd.int .i64) (Kd.slice 5 (Kd.int .u8)))
theorem frK_M {w : World} {base : Nat} {ok : Nat → Prop} {k s : Int} {v : Value} {xs : List Int} (h : (Kd.int .u8).R 5 w base ok v xs) : frK.M w base ok (k, s, xs) [.int .i64 k, .int .i64 s, v] :=
  ⟨[.int .i64 k], [.int .i64 s, v], rfl, rfl, [.int .i64 s], [v], rfl, rfl, v, rfl, h⟩
theorem frK_K {w : World} {k s : Int} {xs : List Int} {cs : List Value} (h : frK.K w (k, s, xs) cs) : ∃ A c, cs = [.int .i64 k, .int .i64 s, .slice A xs.length c] ∧ xs.length ≤ c ∧ Kd.C (Kd.int .u8) w A xs.length xs := by
  obtain ⟨c0, c1, rfl, h0, c2, c3, rfl, h2, A, c, rfl, hl, hC⟩ := h
  have e0 : c0 = [.int .i64 k] := h0
  have e2 : c2 = [.int .i64 s] := h2
  subst e0 e2
  exact ⟨A, c, rfl, hl, hC⟩
/-- A frame's bytes; those of some. -/
def enc1 (k : Nat) (ys : List Int) : List Int := ((8 * k : Nat) : Int) :: (vnum ys.length ++ ys)
def encs1 : List (Nat × List Int) → List Int
  | [] => []
  | j :: js => enc1 j.1 j.2 ++ encs1 js
def frv (j : Nat × List Int) : Int × Int × List Int := ((j.1 : Int), 0, j.2)
def FrOk (j : Nat × List Int) : Prop := 1 ≤ j.1 ∧ j.1 ≤ 31 ∧ j.2.length ≤ 16384
theorem info51 : (Tryd.prog.info? 51).map (fun i => (i.zero, i.size, i.bytes)) = some (some (.agg #[.int .i64 0, .int .i64 0, .slice none 0 0]), 3, 40) := by kernel_rfl
end Go.Proofs.YtgoephcembgmcaaDoor.Fr
namespace Go.Proofs.YtgoephcembgmcaaDoor.Sh
open Go.RowKit Go.Proofs.YtgoephcembgmcaaDoorW.PrintWords Go.Proofs.YtgoephcembgmcaaDoorW.PrintLast Wk FrM Fr Rg
open WkM (w64)

/-! Arrays of words in a block of their own. -/
def wds (xs : List Int) : Array Value := (xs.map (Value.int .u32)).toArray
theorem wds_size (xs : List Int) : (wds xs).size = xs.length := by simp [wds]
theorem wds_get (xs : List Int) (i : Nat) (h : i < xs.length) : (wds xs)[i]? = some (.int .u32 (rd xs (i : Int))) := by
  unfold wds rd
  rw [List.getElem?_toArray, List.getElem?_map, List.getElem?_eq_getElem h, Int.toNat_natCast, List.getD_eq_getElem?_getD, List.getElem?_eq_getElem h]
  rfl
theorem wds_set (xs : List Int) (i : Nat) (x : Int) : (wds xs).setIfInBounds i (.int .u32 x) = wds (xs.set i x) := by
  unfold wds
  rw [List.setIfInBounds_toArray, List.map_set]
theorem wds_one (xs : List Int) : (wds xs).all (·.oneCell') = true := by
  unfold wds
  rw [Array.all_eq_true_iff_forall_mem]
  intro v hv
  simp only [List.mem_toArray, List.mem_map] at hv
  obtain ⟨x, _, rfl⟩ := hv
  rfl
/-- Block g holds the words xs, as an array of type t. -/
def Ws (w : World) (g t : Nat) (xs : List Int) : Prop := w.heap[g]? = some (.cells (wds xs) t (0, 0))
section
variable {w w1 : World} {g t : Nat} {xs : List Int}
theorem Ws.cell (h : Ws w g t xs) (i : Nat) (hi : i < xs.length) : w.cell? ⟨g, i, none⟩ = some (.int .u32 (rd xs (i : Int))) := (blk_cell h i).trans (wds_get xs i hi)
theorem Ws.frozen (h : Ws w g t xs) (i : Nat) : w.frozen? ⟨g, i, none⟩ = false := blk_frozen h i
theorem Ws.put (h : Ws w g t xs) (i : Nat) (x : Int) : Ws (w.setCell ⟨g, i, none⟩ (.int .u32 x)) g t (xs.set i x) := blk_put h i _ (wds_set xs i x)
theorem Ws.far (h : Ws w g t xs) {p : Addr} (hp : g ≠ p.block) (u : Value) : Ws (w.setCell p u) g t xs := blk_far h hp u
theorem Ws.below (h : Ws w g t xs) (hb : Below w.heap.size w w1) : Ws w1 g t xs := blk_below h hb
theorem Ws.alloc (h : Ws w g t xs) (o : Obj) : Ws (w.alloc o) g t xs := blk_alloc h o
theorem Ws.lt (h : Ws w g t xs) : g < w.heap.size := blk_lt h
end
/-- Words are of 32 bits. -/
def U32 (x : Int) : Prop := 0 ≤ x ∧ x < 4294967296
def Us (xs : List Int) : Prop := ∀ x ∈ xs, U32 x
theorem Us.rd_ {xs : List Int} (h : Us xs) (i : Int) : U32 (rd xs i) := by
  unfold rd
  rw [List.getD_eq_getElem?_getD]
  rcases Nat.lt_or_ge i.toNat xs.length with hi | hi
  · rw [List.getElem?_eq_getElem hi]
    exact h _ (List.getElem_mem hi)
  · rw [List.getElem?_eq_none hi]
    exact ⟨by decide, by decide⟩
theorem Us.set_ {xs : List Int} (h : Us xs) (i : Nat) {x : Int} (hx : U32 x) : Us (xs.set i x) := fun y hy => by
  rcases List.mem_or_eq_of_mem_set hy with hy | hy
  · exact h y hy
  · rw [hy]; exact hx
theorem bits_u32 (o : BinOp) (a b : Int) : U32 (bits o .u32 a b) := by
  unfold bits U32
  rw [IntKind.wrap_u32]
  exact ⟨Int.emod_nonneg _ (by decide), Int.emod_lt_of_pos _ (by decide)⟩
theorem rot_u32 (x : Int) (k : Nat) : U32 (rot x k) := bits_u32 _ _ _
theorem us_zero (n : Nat) : Us (List.replicate n 0) := fun x hx => by
  rw [List.eq_of_mem_replicate hx]
  exact ⟨by decide, by decide⟩
/-! The words of a block: sixteen out of its bytes, the others out of those. -/
def wnew4 (x0 x1 x2 x3 : Int) : Int := bits .or .u32 (bits .or .u32 (bits .or .u32 (IntKind.u32.wrap (IntKind.u32.wrap x0 * 16777216)) (IntKind.u32.wrap (IntKind.u32.wrap x1 * 65536))) (IntKind.u32.wrap (IntKind.u32.wrap x2 * 256))) (IntKind.u32.wrap x3)
def wexp (z x v y : Int) : Int := IntKind.u32.wrap (IntKind.u32.wrap (IntKind.u32.wrap (z + bits .xor .u32 (bits .xor .u32 (rot x 25) (rot x 14)) (x / 8)) + v) + bits .xor .u32 (bits .xor .u32 (rot y 15) (rot y 13)) (y / 1024))
def wone (b ws : List Int) (i : Nat) : Int := if i < 16 then wnew4 (rd b ((4 * i : Nat) : Int)) (rd b ((4 * i + 1 : Nat) : Int)) (rd b ((4 * i + 2 : Nat) : Int)) (rd b ((4 * i + 3 : Nat) : Int)) else wexp (rd ws ((i - 16 : Nat) : Int)) (rd ws ((i - 15 : Nat) : Int)) (rd ws ((i - 7 : Nat) : Int)) (rd ws ((i - 2 : Nat) : Int))
def wrow (b : List Int) : Nat → List Int
  | 0 => List.replicate 64 0
  | i + 1 => (wrow b i).set i (wone b (wrow b i) i)
theorem wrap_u (x : Int) : U32 (IntKind.u32.wrap x) := by
  unfold U32
  rw [IntKind.wrap_u32]
  exact ⟨Int.emod_nonneg _ (by decide), Int.emod_lt_of_pos _ (by decide)⟩
theorem wone_u (b ws : List Int) (i : Nat) : U32 (wone b ws i) := by
  unfold wone
  split
  · exact bits_u32 _ _ _
  · exact wrap_u _
theorem wrow_len (b : List Int) : ∀ i, (wrow b i).length = 64
  | 0 => List.length_replicate ..
  | i + 1 => by rw [wrow, List.length_set]; exact wrow_len b i
theorem wrow_u (b : List Int) : ∀ i, Us (wrow b i)
  | 0 => us_zero 64
  | i + 1 => (wrow_u b i).set_ i (wone_u _ _ _)
theorem list8 {vs : List Int} (h : vs.length = 8) : ∃ a0 a1 a2 a3 a4 a5 a6 a7, vs = [a0, a1, a2, a3, a4, a5, a6, a7] := by
  match vs, h with
  | [a0, a1, a2, a3, a4, a5, a6, a7], _ => exact ⟨a0, a1, a2, a3, a4, a5, a6, a7, rfl⟩
/-- One round. -/
def vt (k x e f g h : Int) : Int := IntKind.u32.wrap (IntKind.u32.wrap (IntKind.u32.wrap (IntKind.u32.wrap (h + bits .xor .u32 (bits .xor .u32 (rot e 26) (rot e 21)) (rot e 7)) + bits .xor .u32 (bits .and .u32 e f) (bits .and .u32 (bits .xor .u32 IntKind.u32.max e) g)) + k) + x)
def vu (a b c : Int) : Int := IntKind.u32.wrap (bits .xor .u32 (bits .xor .u32 (rot a 30) (rot a 19)) (rot a 10) + bits .xor .u32 (bits .xor .u32 (bits .and .u32 a b) (bits .and .u32 a c)) (bits .and .u32 b c))
def vstep (k x : Int) : List Int → List Int
  | [a, b, c, d, e, f, g, h] => [IntKind.u32.wrap (vt k x e f g h + vu a b c), a, b, c, IntKind.u32.wrap (d + vt k x e f g h), e, f, g]
  | l => l
def vrow (ks ws hs : List Int) : Nat → List Int
  | 0 => hs
  | i + 1 => vstep (rd ks (i : Int)) (rd ws (i : Int)) (vrow ks ws hs i)
theorem vrow_len (ks ws hs : List Int) : ∀ i, hs.length = 8 → (vrow ks ws hs i).length = 8
  | 0, h => h
  | i + 1, h => by
    obtain ⟨a0, a1, a2, a3, a4, a5, a6, a7, e⟩ := list8 (vrow_len ks ws hs i h)
    rw [vrow, e]
    rfl
theorem vstep_u (k x : Int) {vs : List Int} (h : Us vs) : Us (vstep k x vs) := by
  unfold vstep
  split
  · intro y hy
    simp only [List.mem_cons, List.not_mem_nil, or_false] at hy
    rcases hy with hy | hy | hy | hy | hy | hy | hy | hy
    · rw [hy]; exact wrap_u _
    · exact h y (by simp [hy])
    · exact h y (by simp [hy])
    · exact h y (by simp [hy])
    · rw [hy]; exact wrap_u _
    · exact h y (by simp [hy])
    · exact h y (by simp [hy])
    · exact h y (by simp [hy])
  · exact h
theorem vrow_u (ks ws hs : List Int) : ∀ i, Us hs → Us (vrow ks ws hs i)
  | 0, h => h
  | i + 1, h => vstep_u _ _ (vrow_u ks ws hs i h)
theorem idx64 (ws : List Int) (i : Nat) (hl : ws.length = 64) (hi : i < 64) (W : World) : (Instr.index 190 (.agg (wds ws)) (.int .i64 (i : Int))).run Tryd.prog W = .ok (.int .u32 (rd ws (i : Int))) W := by
  have h1 := wds_get ws i (by omega)
  have hu := Tryd.underlying190
  have d : (i : Int) < 64 := by omega
  have hz : (Tryd.prog.info? 84).map (·.size) = some 1 := by kernel_rfl
  have hs : (sizeOf 84).run Tryd.prog W = .ok 1 W := by
    cases hq : Tryd.prog.info? 84 with
    | none => simp [hq] at hz
    | some i => simp [sizeOf, typeInfo, hq] at hz ⊢; exact hz
  have ha : (isAgg 84).run Tryd.prog W = .ok false W := by
    have h27 := Tryd.underlying84
    unfold isAgg
    rw [Sem.run_bind, run_underlying h27 W]
    rfl
  simp [Instr.index, run_underlying hu, asIntOf, d, part, h1, hs, ha]
  omega
theorem size27 : (Tryd.prog.info? 84).map (·.size) = some 1 := by kernel_rfl
theorem Ws.row {W : World} {g t : Nat} {xs ys : List Int} (h : Ws W g t xs) : Ws (W.setRow g (wds ys)) g t ys := setRow_heap W g _ _ t _ h
theorem copy8 (W : World) (g : Nat) (a0 a1 a2 a3 a4 a5 a6 a7 : Int) (h : Ws W g 189 [a0, a1, a2, a3, a4, a5, a6, a7]) :
    (Builtin.copy_ #[221, 221] 3 #[.slice (some ⟨g, 1, none⟩) 7 7, .slice (some ⟨g, 0, none⟩) 7 8]).run Tryd.prog W = .ok (.int .i64 7) (W.setRow g (wds [a0, a0, a1, a2, a3, a4, a5, a6])) := by
  have h1 := run_copy_row Tryd.prog W 221 221 3 84 g 1 7 7 ⟨g, 0, none⟩ 7 8 (wds [a0, a1, a2, a3, a4, a5, a6, a7]) 189 ([a0, a1, a2, a3, a4, a5, a6].map (Value.int .u32)) Tryd.underlying221 size27 h rfl (fun j v hj => by
    have hj7 : j < 7 := by
      have := (List.getElem?_eq_some_iff.1 hj).1
      simpa using this
    have hadd : (⟨g, 0, none⟩ : Addr).add j = ⟨g, j, none⟩ := by unfold Addr.add; split <;> simp_all
    rw [hadd, cell_of_row W g j _ 189 (0, 0) h]
    have : j = 0 ∨ j = 1 ∨ j = 2 ∨ j = 3 ∨ j = 4 ∨ j = 5 ∨ j = 6 := by omega
    rcases this with e | e | e | e | e | e | e <;> (subst e; exact hj)) (by simp [wds]) (fun v hv => by
      obtain ⟨x, _, rfl⟩ := List.mem_map.1 hv
      rfl)
  exact h1
/-- What is added in the end. -/
def hrow (hs vs : List Int) : Nat → List Int
  | 0 => hs
  | i + 1 => (hrow hs vs i).set i (IntKind.u32.wrap (rd (hrow hs vs i) (i : Int) + rd vs (i : Int)))
theorem hrow_len (hs vs : List Int) : ∀ i, (hrow hs vs i).length = hs.length
  | 0 => rfl
  | i + 1 => by rw [hrow, List.length_set]; exact hrow_len hs vs i
theorem hrow_u (hs vs : List Int) (h : Us hs) : ∀ i, Us (hrow hs vs i)
  | 0 => h
  | i + 1 => (hrow_u hs vs h i).set_ i (wrap_u _)
/-- A block taken in. -/
def comp (ks hs b : List Int) : List Int := hrow hs (vrow ks (wrow b 64) hs 64) 8
theorem comp_len (ks hs b : List Int) : (comp ks hs b).length = hs.length := hrow_len _ _ _
theorem comp_u (ks hs b : List Int) (h : Us hs) : Us (comp ks hs b) := hrow_u _ _ h _
end Go.Proofs.YtgoephcembgmcaaDoor.Sh
namespace Go.Proofs.YtgoephcembgmcaaDoor.Sh
open Go.RowKit Go.Proofs.YtgoephcembgmcaaDoorW.PrintWords Go.Proofs.YtgoephcembgmcaaDoorW.PrintLast Wk Fr Rg

/-- The words that are mixed in. -/
def KK : List Int := [1116352408, 1899447441, 3049323471, 3921009573, 961987163, 1508970993, 2453635748, 2870763221, 3624381080, 310598401, 607225278, 1426881987, 1925078388, 2162078206, 2614888103, 3248222580, 3835390401, 4022224774, 264347078, 604807628, 770255983, 1249150122, 1555081692, 1996064986, 2554220882, 2821834349, 2952996808, 3210313671, 3336571891, 3584528711, 113926993, 338241895, 666307205, 773529912, 1294757372, 1396182291, 1695183700, 1986661051, 2177026350, 2456956037, 2730485921, 2820302411, 3259730800, 3345764771, 3516065817, 3600352804, 4094571909, 275423344, 430227734, 506948616, 659060556, 883997877, 958139571, 1322822218, 1537002063, 1747873779, 1955562222, 2024104815, 2227730452, 2361852424, 2428436474, 2756734187, 3204031479, 3329325298]
theorem KK_len : KK.length = 64 := by kernel_rfl
theorem size55 : (Tryd.prog.info? 190).map (·.size) = some 64 := by kernel_rfl
theorem built55 : Tryd.prog.built 190 [(0, .int .u32 1116352408), (1, .int .u32 1899447441), (2, .int .u32 3049323471), (3, .int .u32 3921009573), (4, .int .u32 961987163), (5, .int .u32 1508970993), (6, .int .u32 2453635748), (7, .int .u32 2870763221), (8, .int .u32 3624381080), (9, .int .u32 310598401), (10, .int .u32 607225278), (11, .int .u32 1426881987), (12, .int .u32 1925078388), (13, .int .u32 2162078206), (14, .int .u32 2614888103), (15, .int .u32 3248222580), (16, .int .u32 3835390401), (17, .int .u32 4022224774), (18, .int .u32 264347078), (19, .int .u32 604807628), (20, .int .u32 770255983), (21, .int .u32 1249150122), (22, .int .u32 1555081692), (23, .int .u32 1996064986), (24, .int .u32 2554220882), (25, .int .u32 2821834349), (26, .int .u32 2952996808), (27, .int .u32 3210313671), (28, .int .u32 3336571891), (29, .int .u32 3584528711), (30, .int .u32 113926993), (31, .int .u32 338241895), (32, .int .u32 666307205), (33, .int .u32 773529912), (34, .int .u32 1294757372), (35, .int .u32 1396182291), (36, .int .u32 1695183700), (37, .int .u32 1986661051), (38, .int .u32 2177026350), (39, .int .u32 2456956037), (40, .int .u32 2730485921), (41, .int .u32 2820302411), (42, .int .u32 3259730800), (43, .int .u32 3345764771), (44, .int .u32 3516065817), (45, .int .u32 3600352804), (46, .int .u32 4094571909), (47, .int .u32 275423344), (48, .int .u32 430227734), (49, .int .u32 506948616), (50, .int .u32 659060556), (51, .int .u32 883997877), (52, .int .u32 958139571), (53, .int .u32 1322822218), (54, .int .u32 1537002063), (55, .int .u32 1747873779), (56, .int .u32 1955562222), (57, .int .u32 2024104815), (58, .int .u32 2227730452), (59, .int .u32 2361852424), (60, .int .u32 2428436474), (61, .int .u32 2756734187), (62, .int .u32 3204031479), (63, .int .u32 3329325298)] = some (wds KK) := by kernel_rfl
theorem wpList_build_is {P : Program} {w : World} {ops : Array Oper} {rest : List Oper} {o : Oper} {a : Act} {Q : Exit → Act → World → Prop} (hg : o.guard = none) (t : TypeId) (parts : Array (Nat × Operand)) (ho : o.op = .build t parts) (cs : Array Value)
    (hb : P.built t (parts.map fun (i, x) => (i, a.eval x)).toList = some cs) (h : wpList P ops Q rest (a.put o.dst (.agg cs)) w) : wpList P ops Q (o :: rest) a w :=
  wpList_build hg t parts ho (by rw [hb]; rfl) (by rw [hb]; exact h)
set_option maxHeartbeats 2000000 in
set_option maxRecDepth 100000 in
theorem words_any (w : World) : Calls Tryd.prog 92 #[] w fun e w' => e = .returned (.agg (wds KK)) ∧ Below w.heap.size w w' := by
  go_enter Tryd.func92, Tryd.ntmps92
  go_wp2_with (first | refine wpList_build_is rfl 55 _ rfl (wds KK) (by simp only [List.map_toArray, List.map_cons, List.map_nil]; exact built55) ?_ | refine wpList_store_row rfl 190 _ _ rfl w.heap.size (wds KK) rfl rfl 190 _ (blk_new _ _) (by rw [wds_size, KK_len]; exact size55) (by rw [wds_size, KK_len]; rfl) (wds_one _) ?_)
  rw [World.setRow_alloc_new]
  refine bodyPost_ret (v := .agg (wds KK)) ?_ rfl ⟨rfl, below_alloc (Below.refl _ _) _⟩
  exact results_cell_row rfl _ _ w.heap.size 190 (wds KK) (0, 0) _ rfl (blk_new _ _) Tryd.underlying190 rfl (by rw [wds_size, KK_len]; exact size55)
end Go.Proofs.YtgoephcembgmcaaDoor.Sh
