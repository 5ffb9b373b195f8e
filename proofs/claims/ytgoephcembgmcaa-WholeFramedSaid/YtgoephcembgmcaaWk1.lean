import Derived.Test.YtgoephcembgmcaaProg
import Derived.Test.YtgoephcembgmcaaWkM
import Derived.Test.YtgoephcembgmcaaWTab
import Derived.Test.YtgoephcembgmcaaWEqStruct
import Derived.Test.YtgoephcembgmcaaWMore
import Derived.WalkKit
import Derived.Deep.LoopGhost
import Derived.Lib.Hide
namespace Go.Proofs.Ytgoephcembgmcaa.Wk
open Go.RowKit Go.Proofs.YtgoephcembgmcaaW.PrintWords Go.Proofs.YtgoephcembgmcaaW.PrintLast Go.Proofs.YtgoephcembgmcaaW.PrintMore Go.Proofs.Ytgoephcembgmcaa.WkM

theorem hide {p : Prop} (h : p) : Hid p := h
theorem unhide {p : Prop} (h : Hid p) : p := h

/-! The small functions of package weak, each once. -/
theorem in_any (a b n x : Int) (w : World) (hx : 0 ≤ x ∧ x ≤ 255) : Calls Try.prog 21 #[.agg #[.int .u32 a, .int .u32 b, .int .u32 n], .int .u8 x] w fun e w' =>
    e = .returned (.agg #[.int .u32 ((a + x) % 65536), .int .u32 ((b + (a + x) % 65536) % 65536), .int .u32 ((n + 1) % 4294967296)]) ∧ Below w.heap.size w w' := by
  have hu53 := Try.underlying29
  have m1 := mask_any (a + x)
  have m2 := mask_any (b + (a + x) % 65536)
  have ex : x % 4294967296 = x := by omega
  go_enter Try.func21, Try.ntmps21
  go_wp2
  refine bodyPost_ret (v := .agg #[.int .u32 ((a + x) % 65536), .int .u32 ((b + (a + x) % 65536) % 65536), .int .u32 ((n + 1) % 4294967296)]) (by simp [results, Try.results21, go_sem]) rfl ⟨rfl, ?_⟩
  exact ((Below.refl _ _).alloc (Nat.le_refl _) _).alloc (by simp) _


theorem value_any (a b n : Int) (w : World) (ha : 0 ≤ a ∧ a < 65536) (hb : 0 ≤ b ∧ b < 65536) : Calls Try.prog 7 #[.agg #[.int .u32 a, .int .u32 b, .int .u32 n]] w fun e w' => e = .returned (.int .u32 (b * 65536 + a)) ∧ Below w.heap.size w w' := by
  have hu53 := Try.underlying29
  have m1 := join_any b a hb.1 hb.2 ha.1 ha.2
  have e1 : b * 65536 % 4294967296 = b * 65536 := by omega
  rw [e1] at m1
  go_enter Try.func7, Try.ntmps7
  go_wp2
  go_ret
  exact ⟨rfl, (Below.refl _ _).alloc (Nat.le_refl _) _⟩

theorem out_any (a b n x : Int) (w : World) (hx : 0 ≤ x ∧ x ≤ 255) (hn : 0 < n ∧ n < 4294967296) : Calls Try.prog 26 #[.agg #[.int .u32 a, .int .u32 b, .int .u32 n], .int .u8 x] w fun e w' =>
    e = .returned (.agg #[.int .u32 ((a - x) % 65536), .int .u32 ((b - n * x) % 65536), .int .u32 (n - 1)]) ∧ Below w.heap.size w w' := by
  have hu53 := Try.underlying29
  have m1 := mask_any (a - x)
  have m2 := mask_any (b - n * x)
  have ex : x % 4294967296 = x := by omega
  have en : (n == 0) = false := by simp; omega
  have e1 : (n - 1) % 4294967296 = n - 1 := by omega
  go_enter Try.func26, Try.ntmps26
  go_wp2
  refine bodyPost_ret (v := .agg #[.int .u32 ((a - x) % 65536), .int .u32 ((b - n * x) % 65536), .int .u32 (n - 1)]) (by simp [results, Try.results26, go_sem]) rfl ⟨rfl, ?_⟩
  exact ((Below.refl _ _).alloc (Nat.le_refl _) _).alloc (by simp) _

theorem out_none (a b x : Int) (w : World) : Calls Try.prog 26 #[.agg #[.int .u32 a, .int .u32 b, .int .u32 0], .int .u8 x] w fun e w' =>
    e = .returned (.agg #[.int .u32 a, .int .u32 b, .int .u32 0]) ∧ Below w.heap.size w w' := by
  have hu53 := Try.underlying29
  go_enter Try.func26, Try.ntmps26
  go_wp2
  refine bodyPost_ret (v := .agg #[.int .u32 a, .int .u32 b, .int .u32 0]) (by simp [results, Try.results26, go_sem]) rfl ⟨rfl, ?_⟩
  exact ((Below.refl _ _).alloc (Nat.le_refl _) _).alloc (by simp) _

theorem roll_none (a b x y : Int) (w : World) : Calls Try.prog 18 #[.agg #[.int .u32 a, .int .u32 b, .int .u32 0], .int .u8 x, .int .u8 y] w fun e w' =>
    e = .returned (.agg #[.int .u32 a, .int .u32 b, .int .u32 0]) ∧ Below w.heap.size w w' := by
  have hu53 := Try.underlying29
  go_enter Try.func18, Try.ntmps18
  go_wp2
  refine bodyPost_ret (v := .agg #[.int .u32 a, .int .u32 b, .int .u32 0]) (by simp [results, Try.results18, go_sem]) rfl ⟨rfl, ?_⟩
  exact ((Below.refl _ _).alloc (Nat.le_refl _) _).alloc (by simp) _

theorem bcell {W w1 : World} (hb : Below W.heap.size W w1) : (∀ b o, b < W.heap.size → w1.cell? ⟨b, o, none⟩ = W.cell? ⟨b, o, none⟩) ∧ (∀ b o, b < W.heap.size → w1.frozen? ⟨b, o, none⟩ = W.frozen? ⟨b, o, none⟩) :=
  ⟨fun b o h => hb.cell (p := ⟨b, o, none⟩) h, fun b o h => hb.frozen (p := ⟨b, o, none⟩) h⟩

/-! The same, said of the sum of known bytes. -/
theorem St_bd (l : List Int) : (0 ≤ (St l).1 ∧ (St l).1 < 65536) ∧ (0 ≤ (St l).2.1 ∧ (St l).2.1 < 65536) ∧ (0 ≤ (St l).2.2 ∧ (St l).2.2 < 4294967296) := by
  unfold St; simp only []; omega
theorem in_St (l : List Int) (x : Int) (w : World) (hx : 0 ≤ x ∧ x ≤ 255) : Calls Try.prog 21 #[.agg #[.int .u32 (St l).1, .int .u32 (St l).2.1, .int .u32 (St l).2.2], .int .u8 x] w fun e w' =>
    e = .returned (.agg #[.int .u32 (St (l ++ [x])).1, .int .u32 (St (l ++ [x])).2.1, .int .u32 (St (l ++ [x])).2.2]) ∧ Below w.heap.size w w' := by
  have h := in_any (St l).1 (St l).2.1 (St l).2.2 x w hx
  rw [← St_snoc]
  exact h
theorem out_St (x : Int) (l : List Int) (w : World) (hx : 0 ≤ x ∧ x ≤ 255) (hn : l.length ≤ 100000) : Calls Try.prog 26 #[.agg #[.int .u32 (St (x :: l)).1, .int .u32 (St (x :: l)).2.1, .int .u32 (St (x :: l)).2.2], .int .u8 x] w fun e w' =>
    e = .returned (.agg #[.int .u32 (St l).1, .int .u32 (St l).2.1, .int .u32 (St l).2.2]) ∧ Below w.heap.size w w' := by
  have e2 : (St (x :: l)).2.2 = (l.length : Int) + 1 := by simp only [St, List.length_cons, Int.natCast_add]; omega
  have h := out_any (St (x :: l)).1 (St (x :: l)).2.1 (St (x :: l)).2.2 x w hx (by rw [e2]; omega)
  have f1 : ((St (x :: l)).1 - x) % 65536 = (St l).1 := by simp only [St, A]; omega
  have f2 : ((St (x :: l)).2.1 - (St (x :: l)).2.2 * x) % 65536 = (St l).2.1 := by
    rw [e2]
    simp only [St, B]
    generalize ((l.length : Int) + 1) * x = t
    omega
  have f3 : (St (x :: l)).2.2 - 1 = (St l).2.2 := by rw [e2]; simp only [St]; omega
  rw [f1, f2, f3] at h
  exact h
theorem value_St (l : List Int) (w : World) : Calls Try.prog 7 #[.agg #[.int .u32 (St l).1, .int .u32 (St l).2.1, .int .u32 (St l).2.2]] w fun e w' => e = .returned (.int .u32 (val l)) ∧ Below w.heap.size w w' :=
  value_any _ _ _ w (St_bd l).1 (St_bd l).2.1

theorem roll_St (x y : Int) (l : List Int) (w : World) (hx : 0 ≤ x ∧ x ≤ 255) (hy : 0 ≤ y ∧ y ≤ 255) (hn : l.length ≤ 100000) : Calls Try.prog 18 #[.agg #[.int .u32 (St (x :: l)).1, .int .u32 (St (x :: l)).2.1, .int .u32 (St (x :: l)).2.2], .int .u8 x, .int .u8 y] w fun e w' =>
    e = .returned (.agg #[.int .u32 (St (l ++ [y])).1, .int .u32 (St (l ++ [y])).2.1, .int .u32 (St (l ++ [y])).2.2]) ∧ Below w.heap.size w w' := by
  have hu53 := Try.underlying29
  have en : ((St (x :: l)).2.2 == 0) = false := by
    have e2 : (St (x :: l)).2.2 = (l.length : Int) + 1 := by simp only [St, List.length_cons, Int.natCast_add]; omega
    simp [e2]; omega
  go_enter Try.func18, Try.ntmps18
  go_wp2_with fail
  refine (out_St x l _ hx hn).mono ?_
  rintro e w1 ⟨rfl, hb⟩
  go_wp2_with fail
  refine (in_St l y _ hy).mono ?_
  rintro e w2 ⟨rfl, hb2⟩
  have HB := hb.trans (hb2.mono hb.size)
  obtain ⟨hc, hf⟩ := bcell HB
  go_wp2
  refine bodyPost_ret (v := .agg #[.int .u32 (St (l ++ [y])).1, .int .u32 (St (l ++ [y])).2.1, .int .u32 (St (l ++ [y])).2.2]) (by simp [results, Try.results18, go_sem, hc]) rfl ⟨rfl, ?_⟩
  exact below_set (below_set (below_set (below_step (below_alloc (below_alloc (Below.refl _ _) _) _) HB) (by simp)) (by simp)) (by simp)

theorem box3 {wr : World} {g t : Nat} {x y z : Value} (h : wr.heap[g]? = some (.cells #[x, y, z] t (0, 0))) :
    (wr.cell? ⟨g, 0, none⟩ = some x ∧ wr.cell? ⟨g, 1, none⟩ = some y ∧ wr.cell? ⟨g, 2, none⟩ = some z) ∧ (wr.frozen? ⟨g, 0, none⟩ = false ∧ wr.frozen? ⟨g, 1, none⟩ = false ∧ wr.frozen? ⟨g, 2, none⟩ = false) ∧ g < wr.heap.size :=
  ⟨⟨(blk_cell h 0).trans rfl, (blk_cell h 1).trans rfl, (blk_cell h 2).trans rfl⟩, ⟨blk_frozen h 0, blk_frozen h 1, blk_frozen h 2⟩, blk_lt h⟩
/-- The box of a sum at g, in world wr. -/
def Box (wr : World) (g : Nat) (s : Int × Int × Int) : Prop := wr.heap[g]? = some (.cells #[.int .u32 s.1, .int .u32 s.2.1, .int .u32 s.2.2] 29 (0, 0))
theorem Box.below {wr w1 : World} {g : Nat} {s : Int × Int × Int} (h : Box wr g s) (hb : Below wr.heap.size wr w1) : Box w1 g s := blk_below h hb
theorem Box.far {wr : World} {g : Nat} {s : Int × Int × Int} (h : Box wr g s) {p : Addr} (hp : g ≠ p.block) (u : Value) : Box (wr.setCell p u) g s := blk_far h hp u
theorem Box.put {wr : World} {g : Nat} {s : Int × Int × Int} (h : Box wr g s) (s' : Int × Int × Int) : Box (((wr.setCell ⟨g, 0, none⟩ (.int .u32 s'.1)).setCell ⟨g, 1, none⟩ (.int .u32 s'.2.1)).setCell ⟨g, 2, none⟩ (.int .u32 s'.2.2)) g s' :=
  blk_put (blk_put (blk_put h 0 _ rfl) 1 _ rfl) 2 _ rfl

/-- What holds at the head of the loop of Of: the result's box, the sum's box. -/
def OfRel (l : List Int) (w wr : World) (i : Nat) : Prop := Box wr w.heap.size (0, 0, 0) ∧ Box wr (w.heap.size + 1) (St (l.take i)) ∧ Below w.heap.size w wr

theorem of_any (A0 : Option Addr) (c0 : Nat) (l : List Int) (w : World) (hr0 : Kd.C (Kd.int .u8) w A0 l.length l) (_hc0 : l.length ≤ c0) (hl : Bytes l) (hn : l.length ≤ 100000) :
    Calls Try.prog 6 #[.slice A0 l.length c0] w fun e w' => e = .returned (.agg #[.int .u32 (St l).1, .int .u32 (St l).2.1, .int .u32 (St l).2.2]) ∧ Below w.heap.size w w' := by
  have hu53 := Try.underlying29
  have HR := hide hr0
  have HL := hide hl
  clear hr0 hl
  go_enter Try.func6, Try.ntmps6
  go_wp2
  go_loopg [8] l.length (fun kq v8 wr => ∃ (i : Nat), v8 = .int .i64 (i : Int) ∧ Hid (i + kq = l.length) ∧ Hid (OfRel l w wr i))
  case atStart =>
    refine ⟨0, rfl, Nat.zero_add _, blk_alloc (blk_new _ _) _, ?_, below_alloc (below_alloc (Below.refl _ _) _) _⟩
    rw [List.take_zero, St_nil]
    exact heap_alloc2_new _ _ _
  case round =>
    obtain ⟨i, rfl, HK, HREL⟩ := hrel
    obtain ⟨b0, b1, hbel⟩ := unhide HREL
    obtain ⟨⟨c10, c11, c12⟩, ⟨f10, f11, f12⟩, z1⟩ := box3 b1
    by_cases hlt : i < l.length
    · obtain ⟨ad, rfl, hx⟩ := Kd.at_int (unhide HR) (i : Int) (by omega) (by omega)
      replace hx := (hbel.cell (World.block_lt_of_cell? w _ hx)).trans hx
      rw [Int.toNat_natCast] at hx
      have B0 := hide b0
      have B1 := hide b1
      have HB := hide hbel
      clear b0 b1 hbel
      go_wp2_with fail
      refine (in_St (l.take i) (rd l (i : Int)) _ ((unhide HL).rd_ _)).mono ?_
      rintro e w1 ⟨rfl, hb⟩
      obtain ⟨⟨c10, c11, c12⟩, ⟨f10, f11, f12⟩, z1⟩ := box3 ((unhide B1).below hb)
      have N0 := hide ((unhide B0).below hb)
      have N1 := hide ((unhide B1).below hb)
      have NB := hide (below_step (unhide HB) hb)
      have HT := hide (take_snoc l i hlt)
      clear hb
      go_wp2
      go_roundg (gk - 1)
      case measure => have := unhide HK; omega
      case rel =>
        refine ⟨i + 1, by go_num, by have := unhide HK; show i + 1 + (gk - 1) = l.length; omega, ?_, ?_, below_set (below_set (below_set (unhide NB) (by omega)) (by omega)) (by omega)⟩
        · exact (((unhide N0).far (by simp) _).far (by simp) _).far (by simp) _
        · rw [unhide HT]
          exact (unhide N1).put _
    · obtain ⟨⟨c00, c01, c02⟩, ⟨f00, f01, f02⟩, z0⟩ := box3 b0
      have e : l.take i = l := List.take_of_length_le (by omega)
      have B0 := hide b0
      have HB := hide hbel
      have HE := hide e
      clear b0 b1 hbel e
      go_wp2
      refine bodyPost_ret (v := .agg #[.int .u32 (St (l.take i)).1, .int .u32 (St (l.take i)).2.1, .int .u32 (St (l.take i)).2.2]) (by simp [results, Try.results6, go_sem, c00, c01, c02]) rfl ⟨?_, ?_⟩
      · rw [unhide HE]
      · exact below_set (below_set (below_set (unhide HB) (by simp)) (by simp)) (by simp)

end Go.Proofs.Ytgoephcembgmcaa.Wk
