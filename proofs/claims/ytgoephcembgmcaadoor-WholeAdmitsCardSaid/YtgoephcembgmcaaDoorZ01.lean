/- Texts of the proof, merged: WkM Wk1 Wk2 Wk3 Wk4 FrM Fr1 Fr2 Fr3 Fr4 Fr5 Fr6. -/
import Derived.Test.YtgoephcembgmcaaDoorWWords
import Derived.Laws.BitsAllLaws
import Derived.Laws.BitsLemmas
import Derived.Test.YtgoephcembgmcaaDoorProg
import Derived.Test.YtgoephcembgmcaaDoorWTab
import Derived.Test.YtgoephcembgmcaaDoorWEqStruct
import Derived.Test.YtgoephcembgmcaaDoorWMore
import Derived.WalkKit
import Derived.Deep.LoopGhost
import Derived.Lib.Hide
import Derived.Test.YtgoephcembgmcaaDoorWGuard
import Derived.Lib.SlBytesConst
import Derived.Laws.Bits64b
import Derived.Laws.Shifts
set_option linter.unusedSimpArgs false
set_option linter.unusedVariables false
namespace Go.Proofs.YtgoephcembgmcaaDoor.WkM
open Go.RowKit Go.Proofs.YtgoephcembgmcaaDoorW.PrintWords

/-! The weak sum as numbers: A is the plain sum, B the weighted one. -/
def A : List Int → Int
  | [] => 0
  | x :: l => x + A l
def B : List Int → Int
  | [] => 0
  | x :: l => ((l.length : Int) + 1) * x + B l
def Bytes (l : List Int) : Prop := ∀ x ∈ l, 0 ≤ x ∧ x ≤ 255

theorem bytes_wf {l : List Int} (h : ∀ x ∈ l, (Lit.int .u8 x).wf = true) : Bytes l := by
  intro x hx
  have := h x hx
  simpa [Lit.wf, IntKind.min, IntKind.max, IntKind.bits, IntKind.signed] using this
theorem Bytes.take {l : List Int} (h : Bytes l) (n : Nat) : Bytes (l.take n) := fun x hx => h x (List.mem_of_mem_take hx)
theorem Bytes.drop {l : List Int} (h : Bytes l) (n : Nat) : Bytes (l.drop n) := fun x hx => h x (List.mem_of_mem_drop hx)
theorem Bytes.append {l r : List Int} (h : Bytes l) (k : Bytes r) : Bytes (l ++ r) := fun x hx => (List.mem_append.1 hx).elim (h x) (k x)
theorem Bytes.rd_ {l : List Int} (h : Bytes l) (i : Int) : 0 ≤ rd l i ∧ rd l i ≤ 255 := by
  unfold Go.Proofs.YtgoephcembgmcaaDoorW.PrintWords.rd
  rw [List.getD_eq_getElem?_getD]
  cases e : l[i.toNat]? with
  | none => simp
  | some x => simpa using h x (List.mem_of_getElem? e)

theorem A_append (l r : List Int) : A (l ++ r) = A l + A r := by
  induction l with
  | nil => simp [A]
  | cons x l ih => simp only [List.cons_append, A, ih]; omega
theorem B_append (l r : List Int) : B (l ++ r) = B l + (r.length : Int) * A l + B r := by
  induction l with
  | nil => simp [A, B]
  | cons x l ih => simp only [List.cons_append, A, B, ih, List.length_append, Int.natCast_add]; grind
theorem A_bd {l : List Int} (h : Bytes l) : 0 ≤ A l ∧ A l ≤ 255 * (l.length : Int) := by
  induction l with
  | nil => simp [A]
  | cons x l ih =>
    have h1 := h x (by simp)
    have h2 := ih (fun y hy => h y (by simp [hy]))
    simp only [A, List.length_cons, Int.natCast_add]
    omega
theorem B_bd (N : Nat) {l : List Int} (h : Bytes l) (hN : l.length ≤ N) : 0 ≤ B l ∧ B l ≤ 255 * (N : Int) * (l.length : Int) := by
  induction l with
  | nil => simp [B]
  | cons x l ih =>
    have h1 := h x (by simp)
    simp only [List.length_cons] at hN
    have h2 := ih (fun y hy => h y (by simp [hy])) (by omega)
    simp only [B, List.length_cons, Int.natCast_add]
    have h3 : 0 ≤ ((l.length : Int) + 1) * x := Int.mul_nonneg (by omega) h1.1
    have h4 : ((l.length : Int) + 1) * x ≤ (N : Int) * 255 := Int.mul_le_mul (by omega) h1.2 h1.1 (by omega)
    refine ⟨by omega, ?_⟩
    have e : 255 * (N : Int) * ((l.length : Int) + ((1 : Nat) : Int)) = 255 * (N : Int) * (l.length : Int) + 255 * (N : Int) := by
      rw [Int.mul_add]; simp
    omega

theorem take_snoc (l : List Int) (i : Nat) (h : i < l.length) : l.take (i + 1) = l.take i ++ [rd l (i : Int)] := by
  rw [List.take_succ_eq_append_getElem h]
  simp [Go.Proofs.YtgoephcembgmcaaDoorW.PrintWords.rd, List.getD_eq_getElem?_getD, List.getElem?_eq_getElem h]
theorem drop_cons (l : List Int) (i : Nat) (h : i < l.length) : l.drop i = rd l (i : Int) :: l.drop (i + 1) := by
  rw [List.drop_eq_getElem_cons h]
  simp [Go.Proofs.YtgoephcembgmcaaDoorW.PrintWords.rd, List.getD_eq_getElem?_getD, List.getElem?_eq_getElem h]
theorem A_snoc (l : List Int) (x : Int) : A (l ++ [x]) = A l + x := by simp [A_append, A]
theorem B_snoc (l : List Int) (x : Int) : B (l ++ [x]) = B l + A l + x := by simp [B_append, B]

/-! bits -/
theorem mask_any (y : Int) : bits .and .u32 (y % 4294967296) 65535 = y % 65536 := by
  have h := bits_mask .u32 32 (by decide) (fun n h0 h1 => by rw [IntKind.wrap_u32]; omega) 16 (by decide) (y % 4294967296) (by omega) (by omega)
  have e2 : ((2 : Int) ^ 16) = 65536 := by decide
  simp only [e2] at h
  simpa using h
theorem mask_in (y : Int) (h0 : 0 ≤ y) (h1 : y < 4294967296) : bits .and .u32 y 65535 = y % 65536 := by
  have h := mask_any y
  rwa [Int.emod_eq_of_lt h0 h1] at h
theorem join_any (b a : Int) (hb0 : 0 ≤ b) (hb1 : b < 65536) (ha0 : 0 ≤ a) (ha1 : a < 65536) : bits .or .u32 ((b * 65536) % 4294967296) a = b * 65536 + a := by
  have e : (b * 65536) % 4294967296 = b * 65536 := by omega
  rw [e]
  rw [u32_or _ _ (by omega) (by omega) ha0 (by omega)]
  have e2 : (b * 65536).toNat = b.toNat <<< 16 := by rw [Nat.shiftLeft_eq]; omega
  rw [e2, ← Nat.shiftLeft_add_eq_or_of_lt (by omega), Nat.shiftLeft_eq]
  omega

/-! the state of a sum -/
theorem w64 (n : Int) (h0 : -9223372036854775808 ≤ n) (h1 : n ≤ 9223372036854775807) : wrap64 n = n := by unfold wrap64; omega
theorem bt_nums {l : List Int} (h : Bytes l) (i : Int) : bt (strOfNums l) i = rd l i := by
  rw [← rd_bytesOf]
  unfold bytesOf strOfNums
  simp only [List.map_map]
  congr 1
  conv => rhs; rw [← List.map_id l]
  apply List.map_congr_left
  intro x hx
  have := h x hx
  simp
  omega
theorem tm (x : Int) (h : 0 ≤ x) : Int.tmod x 65536 = x % 65536 := Int.tmod_eq_emod_of_nonneg h


def St (l : List Int) : Int × Int × Int := (A l % 65536, B l % 65536, (l.length : Int) % 4294967296)
def val (l : List Int) : Int := (B l % 65536) * 65536 + A l % 65536

theorem St_nil : St [] = (0, 0, 0) := by simp [St, A, B]
theorem St_snoc (l : List Int) (x : Int) : ((A l % 65536 + x) % 65536, (B l % 65536 + (A l % 65536 + x) % 65536) % 65536, ((l.length : Int) % 4294967296 + 1) % 4294967296) = St (l ++ [x]) := by
  unfold St
  rw [A_snoc, B_snoc]
  simp only [List.length_append, List.length_cons, List.length_nil, Int.natCast_add, Prod.mk.injEq]
  refine ⟨by omega, by omega, by omega⟩

end Go.Proofs.YtgoephcembgmcaaDoor.WkM
namespace Go.Proofs.YtgoephcembgmcaaDoor.Wk
open Go.RowKit Go.Proofs.YtgoephcembgmcaaDoorW.PrintWords Go.Proofs.YtgoephcembgmcaaDoorW.PrintLast Go.Proofs.YtgoephcembgmcaaDoorW.PrintMore Go.Proofs.YtgoephcembgmcaaDoor.WkM

theorem hide {p : Prop} (h : p) : Hid p := h
theorem unhide {p : Prop} (h : Hid p) : p := h

/-! The small functions of package weak, each once. -/
theorem in_any (a b n x : Int) (w : World) (hx : 0 ≤ x ∧ x ≤ 255) : Calls Tryd.prog 63 #[.agg #[.int .u32 a, .int .u32 b, .int .u32 n], .int .u8 x] w fun e w' =>
    e = .returned (.agg #[.int .u32 ((a + x) % 65536), .int .u32 ((b + (a + x) % 65536) % 65536), .int .u32 ((n + 1) % 4294967296)]) ∧ Below w.heap.size w w' := by
  have hu53 := Tryd.underlying134
  have m1 := mask_any (a + x)
  have m2 := mask_any (b + (a + x) % 65536)
  have ex : x % 4294967296 = x := by omega
  go_enter Tryd.func63, Tryd.ntmps63
  go_wp2
  refine bodyPost_ret (v := .agg #[.int .u32 ((a + x) % 65536), .int .u32 ((b + (a + x) % 65536) % 65536), .int .u32 ((n + 1) % 4294967296)]) (by simp [results, Tryd.results63, go_sem]) rfl ⟨rfl, ?_⟩
  exact ((Below.refl _ _).alloc (Nat.le_refl _) _).alloc (by simp) _


theorem value_any (a b n : Int) (w : World) (ha : 0 ≤ a ∧ a < 65536) (hb : 0 ≤ b ∧ b < 65536) : Calls Tryd.prog 59 #[.agg #[.int .u32 a, .int .u32 b, .int .u32 n]] w fun e w' => e = .returned (.int .u32 (b * 65536 + a)) ∧ Below w.heap.size w w' := by
  have hu53 := Tryd.underlying134
  have m1 := join_any b a hb.1 hb.2 ha.1 ha.2
  have e1 : b * 65536 % 4294967296 = b * 65536 := by omega
  rw [e1] at m1
  go_enter Tryd.func59, Tryd.ntmps59
  go_wp2
  go_ret
  exact ⟨rfl, (Below.refl _ _).alloc (Nat.le_refl _) _⟩

theorem out_any (a b n x : Int) (w : World) (hx : 0 ≤ x ∧ x ≤ 255) (hn : 0 < n ∧ n < 4294967296) : Calls Tryd.prog 64 #[.agg #[.int .u32 a, .int .u32 b, .int .u32 n], .int .u8 x] w fun e w' =>
    e = .returned (.agg #[.int .u32 ((a - x) % 65536), .int .u32 ((b - n * x) % 65536), .int .u32 (n - 1)]) ∧ Below w.heap.size w w' := by
  have hu53 := Tryd.underlying134
  have m1 := mask_any (a - x)
  have m2 := mask_any (b - n * x)
  have ex : x % 4294967296 = x := by omega
  have en : (n == 0) = false := by simp; omega
  have e1 : (n - 1) % 4294967296 = n - 1 := by omega
  go_enter Tryd.func64, Tryd.ntmps64
  go_wp2
  refine bodyPost_ret (v := .agg #[.int .u32 ((a - x) % 65536), .int .u32 ((b - n * x) % 65536), .int .u32 (n - 1)]) (by simp [results, Tryd.results64, go_sem]) rfl ⟨rfl, ?_⟩
  exact ((Below.refl _ _).alloc (Nat.le_refl _) _).alloc (by simp) _

theorem out_none (a b x : Int) (w : World) : Calls Tryd.prog 64 #[.agg #[.int .u32 a, .int .u32 b, .int .u32 0], .int .u8 x] w fun e w' =>
    e = .returned (.agg #[.int .u32 a, .int .u32 b, .int .u32 0]) ∧ Below w.heap.size w w' := by
  have hu53 := Tryd.underlying134
  go_enter Tryd.func64, Tryd.ntmps64
  go_wp2
  refine bodyPost_ret (v := .agg #[.int .u32 a, .int .u32 b, .int .u32 0]) (by simp [results, Tryd.results64, go_sem]) rfl ⟨rfl, ?_⟩
  exact ((Below.refl _ _).alloc (Nat.le_refl _) _).alloc (by simp) _



theorem bcell {W w1 : World} (hb : Below W.heap.size W w1) : (∀ b o, b < W.heap.size → w1.cell? ⟨b, o, none⟩ = W.cell? ⟨b, o, none⟩) ∧ (∀ b o, b < W.heap.size → w1.frozen? ⟨b, o, none⟩ = W.frozen? ⟨b, o, none⟩) :=
  ⟨fun b o h => hb.cell (p := ⟨b, o, none⟩) h, fun b o h => hb.frozen (p := ⟨b, o, none⟩) h⟩

/-! The same, said of the sum of known bytes. -/
theorem St_bd (l : List Int) : (0 ≤ (St l).1 ∧ (St l).1 < 65536) ∧ (0 ≤ (St l).2.1 ∧ (St l).2.1 < 65536) ∧ (0 ≤ (St l).2.2 ∧ (St l).2.2 < 4294967296) := by
  unfold St; simp only []; omega
theorem in_St (l : List Int) (x : Int) (w : World) (hx : 0 ≤ x ∧ x ≤ 255) : Calls Tryd.prog 63 #[.agg #[.int .u32 (St l).1, .int .u32 (St l).2.1, .int .u32 (St l).2.2], .int .u8 x] w fun e w' =>
    e = .returned (.agg #[.int .u32 (St (l ++ [x])).1, .int .u32 (St (l ++ [x])).2.1, .int .u32 (St (l ++ [x])).2.2]) ∧ Below w.heap.size w w' := by
  have h := in_any (St l).1 (St l).2.1 (St l).2.2 x w hx
  rw [← St_snoc]
  exact h
theorem out_St (x : Int) (l : List Int) (w : World) (hx : 0 ≤ x ∧ x ≤ 255) (hn : l.length ≤ 100000) : Calls Tryd.prog 64 #[.agg #[.int .u32 (St (x :: l)).1, .int .u32 (St (x :: l)).2.1, .int .u32 (St (x :: l)).2.2], .int .u8 x] w fun e w' =>
    e = .returned (.agg #[.int .u32 (St l).1, .int .u32 (St l).2.1, .int .u32 (St l).2.2]) ∧ Below w.heap.size w w' := by
  have e2 : (St (x :: l)).2.2 = (l.length : Int) + 1 := by simp only [St, List.length_cons, Int.natCast_add]; omega
  have h := out_any (St (x :: l)).1 (St (x :: l)).2.1 (St (x :: l)).2.2 x w hx (by rw [e2]; omega)
  have f1 : ((St (x :: l)).1 - x) % 65536 = (St l).1 := by simp only [St, A]; omega
  have f2 : ((St (x :: l)).2.1 - (St (x :: l)).2.2 * x) % 65536 = (St l).2.1 := by
    rw [e2]
    simp only [St, B]
    generalize ((l.length : Int) + 1) * x = t
    omega
  have f3 : (St (x :: l)).2.2 - 1 = (St l).2.2 := by rw [e2]; simp only [St]; omega
  rw [f1, f2, f3] at h
  exact h
theorem value_St (l : List Int) (w : World) : Calls Tryd.prog 59 #[.agg #[.int .u32 (St l).1, .int .u32 (St l).2.1, .int .u32 (St l).2.2]] w fun e w' => e = .returned (.int .u32 (val l)) ∧ Below w.heap.size w w' :=
  value_any _ _ _ w (St_bd l).1 (St_bd l).2.1



theorem box3 {wr : World} {g t : Nat} {x y z : Value} (h : wr.heap[g]? = some (.cells #[x, y, z] t (0, 0))) :
    (wr.cell? ⟨g, 0, none⟩ = some x ∧ wr.cell? ⟨g, 1, none⟩ = some y ∧ wr.cell? ⟨g, 2, none⟩ = some z) ∧ (wr.frozen? ⟨g, 0, none⟩ = false ∧ wr.frozen? ⟨g, 1, none⟩ = false ∧ wr.frozen? ⟨g, 2, none⟩ = false) ∧ g < wr.heap.size :=
  ⟨⟨(blk_cell h 0).trans rfl, (blk_cell h 1).trans rfl, (blk_cell h 2).trans rfl⟩, ⟨blk_frozen h 0, blk_frozen h 1, blk_frozen h 2⟩, blk_lt h⟩
/-- The box of a sum at g, in world wr. -/
def Box (wr : World) (g : Nat) (s : Int × Int × Int) : Prop := wr.heap[g]? = some (.cells #[.int .u32 s.1, .int .u32 s.2.1, .int .u32 s.2.2] 134 (0, 0))
theorem Box.below {wr w1 : World} {g : Nat} {s : Int × Int × Int} (h : Box wr g s) (hb : Below wr.heap.size wr w1) : Box w1 g s := blk_below h hb
theorem Box.far {wr : World} {g : Nat} {s : Int × Int × Int} (h : Box wr g s) {p : Addr} (hp : g ≠ p.block) (u : Value) : Box (wr.setCell p u) g s := blk_far h hp u
theorem Box.put {wr : World} {g : Nat} {s : Int × Int × Int} (h : Box wr g s) (s' : Int × Int × Int) : Box (((wr.setCell ⟨g, 0, none⟩ (.int .u32 s'.1)).setCell ⟨g, 1, none⟩ (.int .u32 s'.2.1)).setCell ⟨g, 2, none⟩ (.int .u32 s'.2.2)) g s' :=
  blk_put (blk_put (blk_put h 0 _ rfl) 1 _ rfl) 2 _ rfl

/-- What holds at the head of the loop of Of: the result's box, the sum's box. -/
def OfRel (l : List Int) (w wr : World) (i : Nat) : Prop := Box wr w.heap.size (0, 0, 0) ∧ Box wr (w.heap.size + 1) (St (l.take i)) ∧ Below w.heap.size w wr

theorem of_any (A0 : Option Addr) (c0 : Nat) (l : List Int) (w : World) (hr0 : Kd.C (Kd.int .u8) w A0 l.length l) (_hc0 : l.length ≤ c0) (hl : Bytes l) (hn : l.length ≤ 100000) :
    Calls Tryd.prog 58 #[.slice A0 l.length c0] w fun e w' => e = .returned (.agg #[.int .u32 (St l).1, .int .u32 (St l).2.1, .int .u32 (St l).2.2]) ∧ Below w.heap.size w w' := by
  have hu53 := Tryd.underlying134
  have HR := hide hr0
  have HL := hide hl
  clear hr0 hl
  go_enter Tryd.func58, Tryd.ntmps58
  go_wp2
  go_loopg [8] l.length (fun kq v8 wr => ∃ (i : Nat), v8 = .int .i64 (i : Int) ∧ Hid (i + kq = l.length) ∧ Hid (OfRel l w wr i))
  case atStart =>
    refine ⟨0, rfl, Nat.zero_add _, blk_alloc (blk_new _ _) _, ?_, below_alloc (below_alloc (Below.refl _ _) _) _⟩
    rw [List.take_zero, St_nil]
    exact heap_alloc2_new _ _ _
  case round =>
    obtain ⟨i, rfl, HK, HREL⟩ := hrel
    obtain ⟨b0, b1, hbel⟩ := unhide HREL
    obtain ⟨⟨c10, c11, c12⟩, ⟨f10, f11, f12⟩, z1⟩ := box3 b1
    by_cases hlt : i < l.length
    · obtain ⟨ad, rfl, hx⟩ := Kd.at_int (unhide HR) (i : Int) (by omega) (by omega)
      replace hx := (hbel.cell (World.block_lt_of_cell? w _ hx)).trans hx
      rw [Int.toNat_natCast] at hx
      have B0 := hide b0
      have B1 := hide b1
      have HB := hide hbel
      clear b0 b1 hbel
      go_wp2_with fail
      refine (in_St (l.take i) (rd l (i : Int)) _ ((unhide HL).rd_ _)).mono ?_
      rintro e w1 ⟨rfl, hb⟩
      obtain ⟨⟨c10, c11, c12⟩, ⟨f10, f11, f12⟩, z1⟩ := box3 ((unhide B1).below hb)
      have N0 := hide ((unhide B0).below hb)
      have N1 := hide ((unhide B1).below hb)
      have NB := hide (below_step (unhide HB) hb)
      have HT := hide (take_snoc l i hlt)
      clear hb
      go_wp2
      go_roundg (gk - 1)
      case measure => have := unhide HK; omega
      case rel =>
        refine ⟨i + 1, by go_num, by have := unhide HK; show i + 1 + (gk - 1) = l.length; omega, ?_, ?_, below_set (below_set (below_set (unhide NB) (by omega)) (by omega)) (by omega)⟩
        · exact (((unhide N0).far (by simp) _).far (by simp) _).far (by simp) _
        · rw [unhide HT]
          exact (unhide N1).put _
    · obtain ⟨⟨c00, c01, c02⟩, ⟨f00, f01, f02⟩, z0⟩ := box3 b0
      have e : l.take i = l := List.take_of_length_le (by omega)
      have B0 := hide b0
      have HB := hide hbel
      have HE := hide e
      clear b0 b1 hbel e
      go_wp2
      refine bodyPost_ret (v := .agg #[.int .u32 (St (l.take i)).1, .int .u32 (St (l.take i)).2.1, .int .u32 (St (l.take i)).2.2]) (by simp [results, Tryd.results58, go_sem, c00, c01, c02]) rfl ⟨?_, ?_⟩
      · rw [unhide HE]
      · exact below_set (below_set (below_set (unhide HB) (by simp)) (by simp)) (by simp)

end Go.Proofs.YtgoephcembgmcaaDoor.Wk
namespace Go.Proofs.YtgoephcembgmcaaDoor.Wk
open Go.RowKit Go.Proofs.YtgoephcembgmcaaDoorW.PrintWords Go.Proofs.YtgoephcembgmcaaDoorW.PrintLast Go.Proofs.YtgoephcembgmcaaDoorW.PrintMore Go.Proofs.YtgoephcembgmcaaDoor.WkM

theorem bytesOf_bytes (s : ByteArray) : Bytes (bytesOf s) := by
  intro x hx
  unfold bytesOf at hx
  obtain ⟨b, _, rfl⟩ := List.mem_map.1 hx
  have := b.toNat_lt
  omega
theorem bytesOf_str {l : List Int} (h : Bytes l) : bytesOf (strOfNums l) = l := by
  unfold bytesOf strOfNums
  simp only [List.map_map]
  conv => rhs; rw [← List.map_id l]
  apply List.map_congr_left
  intro x hx
  have := h x hx
  simp
  omega

theorem eqA53 (d : Nat) (w : World) (x0 y0 : Int) (x1 y1 : Int) (x2 y2 : Int) :
    (Op.equalIn (d + 2) 134 (.agg #[.int .u32 x0, .int .u32 x1, .int .u32 x2]) (.agg #[.int .u32 y0, .int .u32 y1, .int .u32 y2])).run Tryd.prog w = .ok (x0 == y0 && (x1 == y1 && (x2 == y2))) w := by
  refine eqA_of Tryd.underlying134 (by kernel_rfl) ?_
  refine eqf_cons (by rfl) (by go_simp; rfl) (by go_simp; rfl) (by go_simp) ?_
  refine eqf_cons (by rfl) (by go_simp; rfl) (by go_simp; rfl) (by go_simp) ?_
  exact eqf_last (by rfl) (by go_simp; rfl) (by go_simp; rfl) (by go_simp)
/-- Two equal sums are equal. -/
theorem eq53 (w : World) (x0 x1 x2 : Int) : (binOp .eql 134 (.agg #[.int .u32 x0, .int .u32 x1, .int .u32 x2]) (.agg #[.int .u32 x0, .int .u32 x1, .int .u32 x2])).run Tryd.prog w = .ok (.bool true) w := by
  simp only [binOp]
  simp [Op.equal, Op.maxDepth, eqA53 9998 w]

/-- A row of three bytes that the call makes. -/
theorem row3 (W : World) (x y z : Int) : Kd.C (Kd.int .u8) (W.alloc (.cells #[.int .u8 x, .int .u8 y, .int .u8 z] 5 (3, 4))) (some ⟨W.heap.size, 0, none⟩) ([x, y, z] : List Int).length [x, y, z] := by
  refine Kd.C_of_reads (enc := Value.int .u8) (d := (0 : Int)) (h1 := fun _ => rfl) ⟨rfl, by simp, fun _ => ⟨_, rfl, fun j hj => ?_⟩⟩
  have h := blk_new W (.cells #[.int .u8 x, .int .u8 y, .int .u8 z] 5 (3, 4))
  match j, hj with
  | 0, _ => exact (cell_of_row _ _ 0 _ 5 (3, 4) h).trans rfl
  | 1, _ => exact (cell_of_row _ _ 1 _ 5 (3, 4) h).trans rfl
  | 2, _ => exact (cell_of_row _ _ 2 _ 5 (3, 4) h).trans rfl

end Go.Proofs.YtgoephcembgmcaaDoor.Wk
namespace Go.Proofs.YtgoephcembgmcaaDoor.Wk
open Go.RowKit Go.Proofs.YtgoephcembgmcaaDoorW.PrintWords Go.Proofs.YtgoephcembgmcaaDoorW.PrintLast Go.Proofs.YtgoephcembgmcaaDoorW.PrintMore Go.Proofs.YtgoephcembgmcaaDoor.WkM

/-! Cuts of a row of bytes. -/
theorem info5 : (Tryd.prog.info? 5).map (fun i => (i.zero, i.size, i.bytes)) = some (some (.int .u8 0), 1, 1) := by kernel_rfl
theorem take_any (A0 : Option Addr) (c0 : Nat) (l : List Int) (m : Nat) (hc : l.length ≤ c0) (hm : m ≤ l.length) :
    (∀ W : World, (Instr.slice 22 (.slice A0 l.length c0) none (some (.int .i64 (m : Int))) none).run Tryd.prog W = .ok (.slice A0 (l.take m).length c0) W) ∧
    (∀ w : World, Kd.C (Kd.int .u8) w A0 l.length l → Kd.C (Kd.int .u8) w A0 (l.take m).length (l.take m)) ∧ (l.take m).length ≤ c0 := by
  obtain ⟨i0, hi, _, hsz, _⟩ := info_parts info5
  obtain ⟨h1, h2, h3⟩ := print_take_of (P := Tryd.prog) (Value.int .u8) 0 22 5 .i64 Tryd.underlying22 hi hsz A0 c0 l (m : Int) (by omega) (by omega) hc
  rw [Int.toNat_natCast] at h1 h2 h3
  exact ⟨h1, fun w hr => Kd.C_of_reads (h1 := fun _ => rfl) (h2 _ (Kd.reads_of_C hr)), h3⟩
theorem drop_any (A0 : Option Addr) (c0 : Nat) (l : List Int) (m : Nat) (hc : l.length ≤ c0) (hm : m ≤ l.length) :
    ∃ A1 : Option Addr, (∀ W : World, (Instr.slice 22 (.slice A0 l.length c0) (some (.int .i64 (m : Int))) none none).run Tryd.prog W = .ok (.slice A1 (l.drop m).length (c0 - m)) W) ∧
    (∀ w : World, Kd.C (Kd.int .u8) w A0 l.length l → Kd.C (Kd.int .u8) w A1 (l.drop m).length (l.drop m)) ∧ (l.drop m).length ≤ c0 - m := by
  obtain ⟨i0, hi, _, hsz, _⟩ := info_parts info5
  obtain ⟨A1, h1, h2, h3⟩ := print_drop_of (P := Tryd.prog) (Value.int .u8) 0 22 5 .i64 Tryd.underlying22 hi hsz A0 c0 l (m : Int) (by omega) (by omega) hc
  rw [Int.toNat_natCast] at h1 h2 h3
  exact ⟨A1, h1, fun w hr => Kd.C_of_reads (h1 := fun _ => rfl) (h2 _ (Kd.reads_of_C hr)), h3⟩
theorem mid_any (A0 : Option Addr) (c0 : Nat) (l : List Int) (a b : Nat) (hc : l.length ≤ c0) (hab : a ≤ b) (hb : b ≤ l.length) :
    ∃ A1 : Option Addr, (∀ W : World, (Instr.slice 22 (.slice A0 l.length c0) (some (.int .i64 (a : Int))) (some (.int .i64 (b : Int))) none).run Tryd.prog W = .ok (.slice A1 ((l.take b).drop a).length (c0 - a)) W) ∧
    (∀ w : World, Kd.C (Kd.int .u8) w A0 l.length l → Kd.C (Kd.int .u8) w A1 ((l.take b).drop a).length ((l.take b).drop a)) ∧ ((l.take b).drop a).length ≤ c0 - a := by
  obtain ⟨i0, hi, _, hsz, _⟩ := info_parts info5
  obtain ⟨A1, h1, h2, h3⟩ := print_mid_of (P := Tryd.prog) (Value.int .u8) 0 22 5 .i64 .i64 Tryd.underlying22 hi hsz A0 c0 l (a : Int) (b : Int) (by omega) (by omega) (by omega) hc
  simp only [Int.toNat_natCast] at h1 h2 h3
  exact ⟨A1, h1, fun w hr => Kd.C_of_reads (h1 := fun _ => rfl) (h2 _ (Kd.reads_of_C hr)), h3⟩
/-- min(len, n) as the walk has it. -/
theorem min_as (N : Int) (hN : 0 ≤ N) (m : Nat) : ∃ k : Nat, (if N < (m : Int) then N else (m : Int)) = (k : Int) ∧ k ≤ m ∧ (k : Int) ≤ N := by
  by_cases h : N < (m : Int)
  · exact ⟨N.toNat, by rw [if_pos h]; omega, by omega, by omega⟩
  · exact ⟨m, by rw [if_neg h], by omega, by omega⟩
/-- A number that is small enough for every sum here; behind a definition, for the walk. -/
def Sm (x : Int) : Prop := -1000000 ≤ x ∧ x ≤ 5000000000
theorem Sm.w {x : Int} (h : Sm x) : wrap64 x = x := w64 _ (by unfold Sm at h; omega) (by unfold Sm at h; omega)
theorem Sm.i {x : Int} (h : Sm x) : IntKind.i64.wrap x = x := (i64_w _).trans h.w
theorem Sm.val (l : List Int) : Sm (val l) := by unfold Sm WkM.val; omega
end Go.Proofs.YtgoephcembgmcaaDoor.Wk
namespace Go.Proofs.YtgoephcembgmcaaDoor.Wk
open Go.RowKit Go.Proofs.YtgoephcembgmcaaDoorW.PrintWords Go.Proofs.YtgoephcembgmcaaDoorW.PrintLast Go.Proofs.YtgoephcembgmcaaDoorW.PrintMore Go.Proofs.YtgoephcembgmcaaDoor.WkM

/-! Rows of bytes that the call owns. -/
abbrev Own (w : World) (base : Nat) (v : Value) (xs : List Int) : Prop := (Kd.int .u8).R 5 w base (fun _ => True) v xs
theorem own_empty (W : World) (base : Nat) (h : base ≤ W.heap.size) : Own (W.alloc (.cells #[] 5)) base (.slice (some ⟨W.heap.size, 0, none⟩) 0 0) [] := by
  have h2 := World.ownsRow_lit (base := base) (e := 5) (size := 1) W #[] 0 h (by simp [maxLen]) (by simp)
  exact Kd.R_of_own (enc := Value.int .u8) (xs := ([] : List Int)) (by simpa [encs] using h2) (fun k hk => trivial)
theorem Box.grown {wr w1 : World} {g : Nat} {s : Int × Int × Int} {row : Option Nat} (h : Box wr g s) (hg : wr.grownBy w1 row) (hne : some g ≠ row) : Box w1 g s := blk_grown h hg hne
theorem Box.alloc {wr : World} {g : Nat} {s : Int × Int × Int} (h : Box wr g s) (o : Obj) : Box (wr.alloc o) g s := blk_alloc h o
theorem Box.ne_ {wr : World} {g base : Nat} {s : Int × Int × Int} {v : Value} {xs : List Int} (h : Box wr g s) (ho : Own wr base v xs) : some g ≠ v.ownBlock := Kd.R_ne ho h (by decide)
theorem make_any (n : Nat) (h : n ≤ 200000) : ∀ W : World, (Instr.makeSlice 22 (.int .i64 (n : Int)) (.int .i64 (n : Int))).run Tryd.prog W = .ok (.slice (some ⟨W.heap.size, 0, none⟩) n n) (W.alloc (.cells (madeCells #[.int .u8 0] n) 5)) :=
  print_make_of (P := Tryd.prog) 22 5 (.int .u8 0) 1 Tryd.underlying22 info5 rfl (by decide) n (by omega)
theorem own_made (W : World) (base n : Nat) (hb : base ≤ W.heap.size) (h : n ≤ 200000) : Own (W.alloc (.cells (madeCells #[.int .u8 0] n) 5)) base (.slice (some ⟨W.heap.size, 0, none⟩) n n) (List.replicate n 0) := by
  have h2 := own_made_of (enc := Value.int .u8) (d := (0 : Int)) W base 5 n hb (by omega)
  exact Kd.R_of_own (enc := Value.int .u8) (by simpa using h2) (fun k hk => trivial)
/-- A cell of a row of the call's own, and a byte put there. -/
theorem own_cell {W : World} {base g n cap i : Nat} {xs : List Int} (h : Own W base (.slice (some ⟨g, 0, none⟩) n cap) xs) (hi : i < n) :
    W.cell? ⟨g, i, none⟩ = some (.int .u8 (rd xs (i : Int))) ∧ W.frozen? ⟨g, i, none⟩ = false := by
  have h2 := Kd.R_celln (enc := Value.int .u8) (0 : Int) h (i : Int) (by omega) (by omega)
  simpa [rdOf, Go.Proofs.YtgoephcembgmcaaDoorW.PrintWords.rd] using h2
theorem own_put {W : World} {base g n cap : Nat} {xs : List Int} (h : Own W base (.slice (some ⟨g, 0, none⟩) n cap) xs) (i : Nat) (x : Int) :
    Own (W.setCell ⟨g, i, none⟩ (.int .u8 x)) base (.slice (some ⟨g, 0, none⟩) n cap) (xs.set i x) := by
  have h2 := Kd.R_putn (enc := Value.int .u8) h (i : Int) x
  rw [Int.toNat_natCast] at h2
  exact h2
theorem own_reads {W : World} {base n cap : Nat} {A : Option Addr} {xs : List Int} (h : Own W base (.slice A n cap) xs) : n = xs.length ∧ n ≤ cap ∧ Kd.C (Kd.int .u8) W A xs.length xs := Kd.R_reads' h
end Go.Proofs.YtgoephcembgmcaaDoor.Wk
namespace Go.Proofs.YtgoephcembgmcaaDoor.FrM

/-! Numbers as bytes, seven bits each, the lowest first; there and back (plain law). -/
def vnum (n : Nat) : List Int := if n ≤ 127 then [(n : Int)] else ((n % 128 + 128 : Nat) : Int) :: vnum (n / 128)
termination_by n
decreasing_by omega
theorem vnum_small {n : Nat} (h : n ≤ 127) : vnum n = [(n : Int)] := by rw [vnum, if_pos h]
theorem vnum_big {n : Nat} (h : ¬ n ≤ 127) : vnum n = ((n % 128 + 128 : Nat) : Int) :: vnum (n / 128) := by rw [vnum, if_neg h]
theorem vnum_ne (n : Nat) : vnum n ≠ [] := by
  rw [vnum]
  split <;> simp
theorem vnum_byte : ∀ (k n : Nat), n < 128 ^ k → ∀ x ∈ vnum n, 0 ≤ x ∧ x ≤ 255
  | 0, n, h, x, hx => by
    have : n = 0 := by simpa using h
    rw [this, vnum_small (by omega)] at hx
    simp only [List.mem_singleton] at hx
    omega
  | k + 1, n, h, x, hx => by
    by_cases hn : n ≤ 127
    · rw [vnum_small hn] at hx
      simp only [List.mem_singleton] at hx
      omega
    · rw [vnum_big hn] at hx
      rcases List.mem_cons.1 hx with hx | hx
      · omega
      · refine vnum_byte k (n / 128) ?_ x hx
        rw [Nat.pow_succ] at h
        exact Nat.div_lt_of_lt_mul (by rw [Nat.mul_comm]; exact h)
theorem vnum_len : ∀ (k n : Nat), n < 128 ^ (k + 1) → (vnum n).length ≤ k + 1
  | 0, n, h => by
    rw [vnum_small (by simp at h; omega)]
    simp
  | k + 1, n, h => by
    by_cases hn : n ≤ 127
    · rw [vnum_small hn]
      simp
    · rw [vnum_big hn]
      have := vnum_len k (n / 128) (by
        rw [Nat.pow_succ] at h
        exact Nat.div_lt_of_lt_mul (by rw [Nat.mul_comm]; exact h))
      simp only [List.length_cons]
      omega
/-- The step of the reader: the bits that are new lie above those that are there. -/
theorem or_step {acc k d : Nat} (h : acc < 128 ^ k) : acc ||| (d <<< (7 * k)) = acc + d * 128 ^ k := by
  have e : 128 ^ k = 2 ^ (7 * k) := by rw [Nat.pow_mul]
  rw [e] at h ⊢
  rw [Nat.shiftLeft_eq, Nat.or_comm, Nat.mul_comm d, ← Nat.two_pow_add_eq_or_of_lt h, Nat.add_comm]
/-- What has been read after k bytes, and what is to come. -/
theorem part_step {n k : Nat} : n % 128 ^ k + (n / 128 ^ k % 128) * 128 ^ k = n % 128 ^ (k + 1) := by
  rw [Nat.pow_succ, Nat.mod_mul, Nat.mul_comm (128 ^ k)]
theorem part_last {n k : Nat} : n % 128 ^ k + (n / 128 ^ k) * 128 ^ k = n := by
  rw [Nat.mul_comm]
  exact Nat.mod_add_div n (128 ^ k)
theorem part_next {n k : Nat} : n / 128 ^ k / 128 = n / 128 ^ (k + 1) := by
  rw [Nat.div_div_eq_div_mul, Nat.pow_succ]
/-- The last byte of a number of more than one byte is no nought. -/
theorem part_pos {n k : Nat} (h : ¬ n / 128 ^ k ≤ 127) : 0 < n / 128 ^ (k + 1) := by
  rw [← part_next]
  omega
set_option maxRecDepth 100000 in
/-- byte(n) | 128, for what stays. -/
theorem or_128 (n : Nat) : n % 256 ||| 128 = n % 128 + 128 := by
  have h : ∀ m < 256, m ||| 128 = m % 128 + 128 := by decide
  rw [h _ (Nat.mod_lt _ (by decide))]
  omega
theorem and_127 (n : Nat) : n &&& 127 = n % 128 := Nat.and_two_pow_sub_one_eq_mod n 7
end Go.Proofs.YtgoephcembgmcaaDoor.FrM
namespace Go.Proofs.YtgoephcembgmcaaDoor.Fr
open Go.RowKit Go.Proofs.YtgoephcembgmcaaDoorW.PrintWords Go.Proofs.YtgoephcembgmcaaDoorW.PrintLast Go.Proofs.YtgoephcembgmcaaDoorW.PrintMore Go.Proofs.YtgoephcembgmcaaDoor.Wk Go.Proofs.YtgoephcembgmcaaDoor.FrM
open Go.Proofs.YtgoephcembgmcaaDoor.WkM (w64)
attribute [local go_sem] max2_int min2_int max_two min_two

/-- What an append to v (it left v1) keeps: all blocks that were there, v's own apart. -/
def Grew (w w' : World) (v v' : Value) : Prop := w.heap.size ≤ w'.heap.size ∧ (∀ i, i < w.heap.size → some i ≠ v.ownBlock → w'.heap[i]? = w.heap[i]?) ∧ (v'.ownBlock = v.ownBlock ∨ ∃ b, v'.ownBlock = some b ∧ w.heap.size ≤ b)
theorem Grew.refl (w : World) (v : Value) : Grew w w v v := ⟨Nat.le_refl _, fun _ _ _ => rfl, .inl rfl⟩
theorem Grew.of {w w1 : World} {v v1 : Value} (hg : w.grownBy w1 v.ownBlock) (hat : v1.ownBlock = v.ownBlock ∨ ∃ b, v1.ownBlock = some b ∧ w.heap.size ≤ b) : Grew w w1 v v1 := ⟨hg.size, fun i hi hr => hg.block i hi hr, hat⟩
theorem Grew.trans {w w1 w2 : World} {v v1 v2 : Value} (h : Grew w w1 v v1) (k : Grew w1 w2 v1 v2) : Grew w w2 v v2 := by
  refine ⟨Nat.le_trans h.1 k.1, fun i hi hr => ?_, ?_⟩
  · refine (k.2.1 i (Nat.lt_of_lt_of_le hi h.1) (fun e => ?_)).trans (h.2.1 i hi hr)
    rcases h.2.2 with h3 | ⟨b, h3, h4⟩
    · exact hr (e.trans h3)
    · rw [h3] at e
      injection e with e
      omega
  · rcases k.2.2 with h3 | ⟨b, h3, h4⟩
    · rw [h3]
      exact h.2.2
    · exact .inr ⟨b, h3, Nat.le_trans h.1 h4⟩
theorem Grew.blk {w w1 : World} {v v1 : Value} {g : Nat} {o : Obj} (h : Grew w w1 v v1) (hb : w.heap[g]? = some o) (hne : some g ≠ v.ownBlock) : w1.heap[g]? = some o := (h.2.1 g (blk_lt hb) hne).trans hb
/-! Package code: each function once. -/
theorem or_all : ∀ a : Nat, a < 256 → bits .or .u8 (a : Int) 128 = ((a % 128 + 128 : Nat) : Int) := by decide +kernel
theorem or_u8 (m : Nat) : bits .or .u8 ((m : Int) % 256) 128 = ((m % 128 + 128 : Nat) : Int) := by
  have h := or_all (m % 256) (Nat.mod_lt _ (by decide))
  rw [Nat.mod_mod_of_dvd m (by decide : 128 ∣ 256)] at h
  rw [← h]
  rfl
set_option maxRecDepth 100000 in
theorem num_ok (base : Nat) (v : Value) (xs : List Int) (n : Nat) (w : World) (ho : Own w base v xs) (hbase : base ≤ w.heap.size) (hn : n ≤ 1099511627776) (hx : xs.length ≤ 100000) :
    Calls Tryd.prog 53 #[v, .int .i64 (n : Int)] w fun e w' => ∃ A c, e = .returned (.slice A (xs ++ vnum n).length c) ∧ Own w' base (.slice A (xs ++ vnum n).length c) (xs ++ vnum n) ∧ Below base w w' ∧ Grew w w' v (.slice A (xs ++ vnum n).length c) := by
  have d1 : ¬ 1099511627776 < (n : Int) := by omega
  have d2 : ¬ (n : Int) < 0 := by omega
  have e1 : (if 0 < n then (n : Int) else 0) = (n : Int) := by split <;> omega
  have e2 : (if (0 : Int) < (n : Int) then (n : Int) else 0) = (n : Int) := by split <;> omega
  obtain ⟨A0, c0, rfl⟩ := Kd.R_slice ho
  have HO := hide ho
  have HN : Hid (n < 128 ^ (5 + 1)) := by show _ < _; omega
  clear ho
  go_enter Tryd.func53, Tryd.ntmps53
  go_wp2
  clear e1 e2 d1 d2
  go_loopg [0, 1] 5 (fun kq v0 v1 wr => ∃ (m : Nat) (zs : List Int) (A : Option Addr) (c : Nat), v0 = .slice A zs.length c ∧ v1 = .int .i64 (m : Int) ∧ Hid (m < 128 ^ (kq + 1)) ∧ Hid (xs ++ vnum n = zs ++ vnum m) ∧ Hid (zs.length + kq ≤ xs.length + 5 ∧ kq ≤ 5) ∧ Hid (Own wr base (.slice A zs.length c) zs) ∧ Hid (Below base w wr) ∧ Hid (Grew w wr (.slice A0 xs.length c0) (.slice A zs.length c)))
  case atStart => exact ⟨n, xs, A0, c0, rfl, rfl, unhide HN, rfl, ⟨Nat.le_refl _, Nat.le_refl _⟩, unhide HO, Below.refl _ _, Grew.refl _ _⟩
  case round =>
    obtain ⟨m, zs, A, c, rfl, rfl, HM, HV, HL, HO2, HB, HG⟩ := hrel
    have hm6 : m < 128 ^ 6 := Nat.lt_of_lt_of_le (unhide HM) (Nat.pow_le_pow_right (by decide) (by have := unhide HL; omega))
    have hzl : zs.length ≤ 100005 := by have := unhide HL; omega
    by_cases h : m ≤ 127
    · have d : ¬ 127 < (m : Int) := by omega
      have e : (m : Int) % 256 = (m : Int) := by omega
      go_wp2_with (at_builtin; refine unhide ?_)
      refine hide ?_
      refine Kd.R_append (Kd.int .u8) (w0 := w) base rfl (.tmp 18) (.tmp 21) 22 5 (.int .u8 0) 1 rfl Tryd.underlying22 info5 rfl (by decide) (by decide) (.slice A zs.length c) zs (m : Int) [.int .u8 (m : Int)] (fun _ => True) (fun _ => False) rfl rfl rfl (fun k h => h.elim) (fun _ _ => trivial) (unhide HO2) (unhide HB) (Nat.le_trans hbase (unhide HB).size) (by omega) ?_
      intro v1 w1 hR1 hB1 hg1 hat1
      obtain ⟨A1, c1, rfl⟩ := Kd.R_slice hR1
      have hlen : (zs ++ [(m : Int)]).length = zs.length + 1 := by rw [List.length_append, List.length_singleton]
      have HR := hide hR1
      have HB1 := hide hB1
      have HG1 := hide ((unhide HG).trans (Grew.of hg1 hat1))
      have HLEN := hide hlen
      clear hR1 hB1 hg1 hat1 hlen
      go_wp2
      have hv : xs ++ vnum n = zs ++ [(m : Int)] := by rw [unhide HV, vnum_small h]
      rw [hv]
      go_ret
      exact ⟨A1, c1, by rw [unhide HLEN]; rfl, unhide HR, unhide HB1, unhide HG1⟩
    · have d : 127 < (m : Int) := by omega
      have HGK : Hid (0 < gk) := by
        show 0 < gk
        rcases Nat.eq_zero_or_pos gk with h0 | h0
        · have h1 := unhide HM
          rw [h0] at h1
          omega
        · exact h0
      have hor : bits .or .u8 ((m : Int) % 256) 128 = ((m % 128 + 128 : Nat) : Int) := or_u8 m
      go_wp2_with (at_builtin; refine unhide ?_)
      refine hide ?_
      refine Kd.R_append (Kd.int .u8) (w0 := w) base rfl (.tmp 12) (.tmp 16) 22 5 (.int .u8 0) 1 rfl Tryd.underlying22 info5 rfl (by decide) (by decide) (.slice A zs.length c) zs ((m % 128 + 128 : Nat) : Int) [.int .u8 ((m % 128 + 128 : Nat) : Int)] (fun _ => True) (fun _ => False) rfl rfl rfl (fun k h => h.elim) (fun _ _ => trivial) (unhide HO2) (unhide HB) (Nat.le_trans hbase (unhide HB).size) (by omega) ?_
      intro v1 w1 hR1 hB1 hg1 hat1
      obtain ⟨A1, c1, rfl⟩ := Kd.R_slice hR1
      have hlen : (zs ++ [((m % 128 + 128 : Nat) : Int)]).length = zs.length + 1 := by rw [List.length_append, List.length_singleton]
      have HR := hide hR1
      have HB1 := hide hB1
      have HG1 := hide ((unhide HG).trans (Grew.of hg1 hat1))
      have HLEN := hide hlen
      clear hR1 hB1 hg1 hat1 hlen
      go_wp2
      go_roundg (gk - 1)
      case measure => have := unhide HGK; omega
      case rel =>
        refine ⟨m / 128, zs ++ [((m % 128 + 128 : Nat) : Int)], A1, c1, by rw [unhide HLEN], congrArg _ (by omega), ?_, ?_, ?_, unhide HR, unhide HB1, unhide HG1⟩
        · have h1 := unhide HM
          have h2 := unhide HGK
          show m / 128 < 128 ^ (gk - 1 + 1)
          rw [show gk - 1 + 1 = gk by omega]
          rw [Nat.pow_succ] at h1
          exact Nat.div_lt_of_lt_mul (by rw [Nat.mul_comm]; exact h1)
        · show xs ++ vnum n = (zs ++ [_]) ++ vnum (m / 128)
          rw [unhide HV, vnum_big h, List.append_assoc]
          rfl
        · have h1 := unhide HL
          have h2 := unhide HGK
          show (zs ++ [_]).length + (gk - 1) ≤ xs.length + 5 ∧ gk - 1 ≤ 5
          rw [unhide HLEN]
          omega
end Go.Proofs.YtgoephcembgmcaaDoor.Fr
namespace Go.Proofs.YtgoephcembgmcaaDoor.Fr
open Go.RowKit Go.Proofs.YtgoephcembgmcaaDoorW.PrintWords Go.Proofs.YtgoephcembgmcaaDoorW.PrintLast Go.Proofs.YtgoephcembgmcaaDoorW.PrintMore Go.Proofs.YtgoephcembgmcaaDoor.Wk Go.Proofs.YtgoephcembgmcaaDoor.FrM
attribute [local go_sem] max2_int min2_int max_two min_two

set_option maxRecDepth 100000 in
theorem text_ok (base : Nat) (v : Value) (xs : List Int) (A : Option Addr) (c : Nat) (ys : List Int) (w : World) (ho : Own w base v xs) (hr : ∀ w', Below base w w' → Kd.C (Kd.int .u8) w' A ys.length ys) (hbase : base ≤ w.heap.size) (hc : ys.length ≤ c) (hl : ys.length ≤ 4096) (hx : xs.length ≤ 90000) :
    Calls Tryd.prog 54 #[v, .slice A ys.length c] w fun e w' => ∃ A' c', e = .returned (.slice A' (xs ++ vnum ys.length ++ ys).length c') ∧ Own w' base (.slice A' (xs ++ vnum ys.length ++ ys).length c') (xs ++ vnum ys.length ++ ys) ∧ Below base w w' ∧ Grew w w' v (.slice A' (xs ++ vnum ys.length ++ ys).length c') := by
  obtain ⟨k1, _, _⟩ := take_any A c ys ys.length hc (Nat.le_refl _)
  rw [List.take_length] at k1
  have d1 : ¬ (4096 : Int) < (ys.length : Int) := by omega
  obtain ⟨A0, c0, rfl⟩ := Kd.R_slice ho
  have HO := hide ho
  have HR := hide hr
  have hvl := vnum_len 5 ys.length (by omega)
  have HVL := hide hvl
  clear ho hr hvl
  go_enter Tryd.func54, Tryd.ntmps54
  go_wp2_with fail
  refine (num_ok base (.slice A0 xs.length c0) xs ys.length w (unhide HO) hbase (by omega) (by omega)).mono ?_
  rintro e w1 ⟨A1, c1, rfl, hO1, hB1, hG1⟩
  have HC1 := hide (unhide HR w1 hB1)
  have hlz : (xs ++ vnum ys.length).length ≤ 90006 := by rw [List.length_append]; have := unhide HVL; omega
  obtain ⟨zs, hz⟩ : ∃ zs, xs ++ vnum ys.length = zs := ⟨_, rfl⟩
  rw [hz] at hO1 hlz hG1 ⊢
  have HZ := hide hz
  clear hz
  have HO1 := hide hO1
  have HB1 := hide hB1
  have HG1 := hide hG1
  clear hO1 hB1 hG1 k1
  go_wp2_with (at_builtin; refine unhide ?_)
  refine hide ?_
  refine Kd.R_append_row (w0 := w) (Value.int .u8) (0 : Int) base rfl (.tmp 13) (.tmp 14) 22 5 (.int .u8 0) 1 rfl Tryd.underlying22 info5 rfl (by decide) (.slice A1 zs.length c1) zs ys A _ c (fun _ => True) rfl rfl (fun _ _ => trivial) (unhide HO1) (unhide HC1) (unhide HB1) (Nat.le_trans hbase (unhide HB1).size) (by omega) ?_
  intro v2 w2 hR2 hB2 hg2 hat2
  obtain ⟨A2, c2, rfl⟩ := Kd.R_slice hR2
  have hlen : (zs ++ ys).length = zs.length + ys.length := List.length_append
  have HR2 := hide hR2
  have HB2 := hide hB2
  have HG2 := hide ((unhide HG1).trans (Grew.of hg2 hat2))
  have HLEN := hide hlen
  clear hR2 hB2 hg2 hat2 hlen
  go_wp2
  go_ret
  rw [unhide HZ]
  exact ⟨A2, c2, by rw [unhide HLEN]; rfl, unhide HR2, unhide HB2, unhide HG2⟩

theorem and_31 : ∀ a : Nat, a < 32 → bits .and .u64 (a : Int) 31 = (a : Int) := by decide +kernel
/-- A number that is turned to the left. -/
def rot (x : Int) (k : Nat) : Int := bits .or .u32 (x * 2 ^ k % 4294967296) (x / 2 ^ (32 - k))
theorem rot_any (x : Int) (k : Nat) (w : World) (hk : 0 < k ∧ k < 32) (hx : 0 ≤ x ∧ x < 4294967296) :
    Calls Tryd.prog 109 #[.int .u32 x, .int .i64 (k : Int)] w fun e w' => e = .returned (.int .u32 (rot x k)) ∧ w = w' := by
  have e1 := and_31 k hk.2
  have e2 : (k : Int) < 32 := by omega
  have e3 : (0 : Int) < (k : Int) := by omega
  unfold rot
  go_enter Tryd.func109, Tryd.ntmps109
  go_wp2
  go_ret
  exact ⟨rfl, rfl⟩

/-- A reader lies in block g: its bytes, where it is; nothing has gone wrong. -/
def Rdr (w : World) (g : Nat) (v : Value) (at_ : Int) : Prop := w.heap[g]? = some (.cells #[v, .int .i64 at_, .nilIface] 155 (0, 0))
theorem Rdr.cells {w : World} {g : Nat} {v : Value} {k : Int} (h : Rdr w g v k) :
    (w.cell? ⟨g, 0, none⟩ = some v ∧ w.cell? ⟨g, 1, none⟩ = some (.int .i64 k) ∧ w.cell? ⟨g, 2, none⟩ = some .nilIface) ∧ w.frozen? ⟨g, 1, none⟩ = false ∧ g < w.heap.size :=
  ⟨⟨(blk_cell h 0).trans rfl, (blk_cell h 1).trans rfl, (blk_cell h 2).trans rfl⟩, blk_frozen h 1, blk_lt h⟩
theorem read_any (A : Option Addr) (n c : Nat) (w : World) : Calls Tryd.prog 30 #[.slice A n c] w fun e w' => e = .returned (.pointer (some ⟨w.heap.size, 0, none⟩)) ∧ Rdr w' w.heap.size (.slice A n c) 0 ∧ Below w.heap.size w w' := by
  go_enter Tryd.func30, Tryd.ntmps30
  go_wp2
  go_ret
  exact ⟨rfl, blk_new _ _, below_alloc (Below.refl _ _) _⟩
theorem err_ok (g : Nat) (v : Value) (k : Int) (w : World) (h : Rdr w g v k) : Calls Tryd.prog 35 #[.pointer (some ⟨g, 0, none⟩)] w fun e w' => e = .returned .nilIface ∧ w = w' := by
  have hu := Tryd.underlying155
  obtain ⟨⟨_, _, _⟩, _, _⟩ := h.cells
  clear h
  go_enter Tryd.func35, Tryd.ntmps35
  go_wp2
  go_ret
  exact ⟨rfl, rfl⟩
theorem at_ok (g : Nat) (v : Value) (k : Int) (w : World) (h : Rdr w g v k) : Calls Tryd.prog 32 #[.pointer (some ⟨g, 0, none⟩)] w fun e w' => e = .returned (.int .i64 k) ∧ w = w' := by
  have hu := Tryd.underlying155
  obtain ⟨⟨_, _, _⟩, _, _⟩ := h.cells
  clear h
  go_enter Tryd.func32, Tryd.ntmps32
  go_wp2
  go_ret
  exact ⟨rfl, rfl⟩
theorem check_ok (k s : Int) (A : Option Addr) (n c : Nat) (w : World) (hk : 1 ≤ k ∧ k ≤ 31) (hs : 0 ≤ s ∧ s ≤ 7) (hn : n ≤ 16384) :
    Calls Tryd.prog 57 #[.agg #[.int .i64 k, .int .i64 s, .slice A n c]] w fun e w' => e = .returned (.int .i64 0) ∧ Below w.heap.size w w' := by
  have hu := Tryd.underlying51
  have d1 : ¬ k < 1 := by omega
  have d2 : ¬ 31 < k := by omega
  have d3 : ¬ s < 0 := by omega
  have d4 : ¬ 7 < s := by omega
  have d5 : ¬ 16384 < (n : Int) := by omega
  clear hk hs hn
  go_enter Tryd.func57, Tryd.ntmps57
  go_wp2
  go_ret
  exact ⟨rfl, below_alloc (Below.refl _ _) _⟩
end Go.Proofs.YtgoephcembgmcaaDoor.Fr
namespace Go.Proofs.YtgoephcembgmcaaDoor.Fr
open Go.RowKit Go.Proofs.YtgoephcembgmcaaDoorW.PrintWords Go.Proofs.YtgoephcembgmcaaDoorW.PrintLast Go.Proofs.YtgoephcembgmcaaDoorW.PrintMore Go.Proofs.YtgoephcembgmcaaDoor.Wk Go.Proofs.YtgoephcembgmcaaDoor.FrM
open Go.Proofs.YtgoephcembgmcaaDoor.WkM (w64)
def T24_1 : Bool × List (List Nat × List Nat) := (true, [([], []), ([0], [0]), ([1], [1]), ([2], [2]), ([3], [3]), ([4], [4]), ([5], [5]), ([6, 5], [5, 6]), ([7, 5], [5, 7]), ([8, 5], [5, 8]), ([5], [5]), ([10, 5], [5, 10]), ([11, 5], [5, 11]), ([12, 5], [5, 12]), ([13, 5], [5, 13]), ([9, 14, 5], [5, 9, 14]), ([5, 15], [5, 15])])
def BT24_1 : List Nat := [0, 1, 3, 7, 15, 31, 63, 127, 255, 511, 63, 1087, 3135, 7231, 15423, 32767, 65535]
theorem tabT24_1 : rtab .any (opsOf Tryd.f37 1) = T24_1 := by kernel_rfl
theorem bitsT24_1 : waitsOk T24_1.2 BT24_1 = true := by kernel_rfl
def T24_6 : Bool × List (List Nat × List Nat) := (true, [([], []), ([0], [0]), ([1], [1]), ([2], [2]), ([], []), ([4], [4]), ([5], [5]), ([6], [6]), ([7], [7]), ([3, 8], [3, 8]), ([9], [9]), ([10, 0, 1, 2, 3, 4, 5, 6, 7, 8, 9, 10], [10])])
def BT24_6 : List Nat := [0, 1, 3, 7, 0, 16, 48, 112, 240, 511, 1023, 2047]
theorem tabT24_6 : rtab .any (opsOf Tryd.f37 6) = T24_6 := by kernel_rfl
theorem bitsT24_6 : waitsOk T24_6.2 BT24_6 = true := by kernel_rfl

set_option maxHeartbeats 1000000 in
set_option maxRecDepth 100000 in
theorem byte_ok (g base : Nat) (ad : Addr) (n c k : Nat) (x : Int) (w : World) (h : Rdr w g (.slice (some ad) n c) (k : Int)) (hk : k < n) (hn : n ≤ 1000000) (hx : w.cell? (ad.add k) = some (.int .u8 x)) (hne : ad.block ≠ g) (hb : base ≤ g) :
    Calls Tryd.prog 37 #[.pointer (some ⟨g, 0, none⟩)] w fun e w' => e = .returned (.int .u8 x) ∧ Rdr w' g (.slice (some ad) n c) ((k + 1 : Nat) : Int) ∧ Below base w w' ∧ KeepBut w w' g none := by
  have hu := Tryd.underlying155
  have d1 : ¬ (n : Int) ≤ (k : Int) := by omega
  have d2 : (k : Int) < (n : Int) := by omega
  have E1 := hide (w64 (k : Int) (by omega) (by omega))
  have NB : Hid ((ad.add k).block ≠ g) := by show (ad.add k).block ≠ g; unfold Addr.add; split <;> exact hne
  have R0 : Hid (Rdr w.drew g (.slice (some ad) n c) (k : Int)) := h
  have HX := hide hx
  clear h hx
  go_enter Tryd.func37, Tryd.ntmps37
  go_wp2
  refine start_ (n := 17) (S := fun w' => Rdr w' g (.slice (some ad) n c) (k : Int)) (ds := []) #[false, false, false, false, false, false, false, false, false, false, false, false, false, false, false, false, false] (by kernel_rfl) rfl rfl (unhide R0) (fun hHeld => ?_)
  refine with_tabW tabT24_1 bitsT24_1 (fun HT_ HW_ => ?_)
  refine pure_ (i := 0) (N := some 3) (v := ?_) (a' := ?_) #[true, false, false, false, false, false, false, false, false, false, false, false, false, false, false, false, false] rfl rfl (any_of HT_.out (by kernel_rfl)) (fun _ _ _ h => h) (Or.inl ⟨by rfl, ?_⟩) ?_ ?_
  rotate_left
  · intro w'
    go_simp
    with_reducible rfl
  rotate_left
  · simp only [Act.put, List.setIfInBounds_toArray, List.set_cons_zero, List.set_cons_succ, i64_w, i32_w]
    rfl
  refine pure_ (i := 1) (N := some 4) (v := ?_) (a' := ?_) #[true, true, false, false, false, false, false, false, false, false, false, false, false, false, false, false, false] rfl rfl (any_of HT_.out (by kernel_rfl)) (fun _ _ _ h => h) (Or.inl ⟨by rfl, ?_⟩) ?_ ?_
  rotate_left
  · intro w'
    go_simp
    with_reducible rfl
  rotate_left
  · simp only [Act.put, List.setIfInBounds_toArray, List.set_cons_zero, List.set_cons_succ, i64_w, i32_w]
    rfl
  refine pure_ (i := 2) (N := some 5) (v := ?_) (a' := ?_) #[true, true, true, false, false, false, false, false, false, false, false, false, false, false, false, false, false] rfl rfl (any_of HT_.out (by kernel_rfl)) (fun _ _ _ h => h) (Or.inl ⟨by rfl, ?_⟩) ?_ ?_
  rotate_left
  · intro w'
    go_simp
    with_reducible rfl
  rotate_left
  · simp only [Act.put, List.setIfInBounds_toArray, List.set_cons_zero, List.set_cons_succ, i64_w, i32_w]
    rfl
  refine take_ (i := 3) (N := some 6) (v := ?_) (a' := ?_) #[true, true, true, true, false, false, false, false, false, false, false, false, false, false, false, false, false] rfl rfl (take_ofW HT_.out HW_.out (by kernel_rfl)) (fun _ _ _ h => h) (Or.inl ⟨by rfl, ?_⟩) hHeld ?_ ?_
  rotate_left
  · rintro w' h1_
    obtain ⟨⟨_, _, _⟩, _, _⟩ := h1_.cells
    go_simp
    with_reducible rfl
  rotate_left
  · simp only [Act.put, List.setIfInBounds_toArray, List.set_cons_zero, List.set_cons_succ, i64_w, i32_w]
    rfl
  refine pure_ (i := 4) (N := some 7) (v := ?_) (a' := ?_) #[true, true, true, true, true, false, false, false, false, false, false, false, false, false, false, false, false] rfl rfl (any_of HT_.out (by kernel_rfl)) (fun _ _ _ h => h) (Or.inl ⟨by rfl, ?_⟩) ?_ ?_
  rotate_left
  · intro w'
    go_simp
    with_reducible rfl
  rotate_left
  · simp only [Act.put, List.setIfInBounds_toArray, List.set_cons_zero, List.set_cons_succ, i64_w, i32_w]
    rfl
  refine pure_ (i := 5) (N := some 8) (v := ?_) (a' := ?_) #[true, true, true, true, true, true, false, false, false, false, false, false, false, false, false, false, false] rfl rfl (any_of HT_.out (by kernel_rfl)) (fun _ _ _ h => h) (Or.inl ⟨by rfl, ?_⟩) ?_ ?_
  rotate_left
  · intro w'
    go_simp
    with_reducible rfl
  rotate_left
  · simp only [Act.put, List.setIfInBounds_toArray, List.set_cons_zero, List.set_cons_succ, i64_w, i32_w]
    rfl
  refine pure_ (i := 6) (N := some 9) (v := ?_) (a' := ?_) #[true, true, true, true, true, true, true, false, false, false, false, false, false, false, false, false, false] rfl rfl (any_of HT_.out (by kernel_rfl)) (fun _ _ _ h => h) (Or.inl ⟨by rfl, ?_⟩) ?_ ?_
  rotate_left
  · intro w'
    go_simp
    with_reducible rfl
  rotate_left
  · simp only [Act.put, List.setIfInBounds_toArray, List.set_cons_zero, List.set_cons_succ, i64_w, i32_w]
    rfl
  refine pure_ (i := 7) (N := some 10) (v := ?_) (a' := ?_) #[true, true, true, true, true, true, true, true, false, false, false, false, false, false, false, false, false] rfl rfl (any_of HT_.out (by kernel_rfl)) (fun _ _ _ h => h) (Or.inl ⟨by rfl, ?_⟩) ?_ ?_
  rotate_left
  · intro w'
    go_simp
    with_reducible rfl
  rotate_left
  · simp only [Act.put, List.setIfInBounds_toArray, List.set_cons_zero, List.set_cons_succ, i64_w, i32_w]
    rfl
  refine pure_ (i := 8) (N := some 11) (v := ?_) (a' := ?_) #[true, true, true, true, true, true, true, true, true, false, false, false, false, false, false, false, false] rfl rfl (any_of HT_.out (by kernel_rfl)) (fun _ _ _ h => h) (Or.inl ⟨by rfl, ?_⟩) ?_ ?_
  rotate_left
  · intro w'
    go_simp
    with_reducible rfl
  rotate_left
  · simp only [Act.put, List.setIfInBounds_toArray, List.set_cons_zero, List.set_cons_succ, i64_w, i32_w]
    rfl
  refine take_ (i := 9) (N := some 12) (v := ?_) (a' := ?_) #[true, true, true, true, true, true, true, true, true, true, false, false, false, false, false, false, false] rfl rfl (take_ofW HT_.out HW_.out (by kernel_rfl)) (fun _ _ _ h => h) (Or.inl ⟨by rfl, ?_⟩) hHeld ?_ ?_
  rotate_left
  · rintro w' h1_
    obtain ⟨⟨_, _, _⟩, _, _⟩ := h1_.cells
    go_simp
    with_reducible rfl
  rotate_left
  · simp only [Act.put, List.setIfInBounds_toArray, List.set_cons_zero, List.set_cons_succ, i64_w, i32_w]
    rfl
  refine pure_ (i := 10) (N := some 13) (v := ?_) (a' := ?_) #[true, true, true, true, true, true, true, true, true, true, true, false, false, false, false, false, false] rfl rfl (any_of HT_.out (by kernel_rfl)) (fun _ _ _ h => h) (Or.inl ⟨by rfl, ?_⟩) ?_ ?_
  rotate_left
  · intro w'
    go_simp
    with_reducible rfl
  rotate_left
  · simp only [Act.put, List.setIfInBounds_toArray, List.set_cons_zero, List.set_cons_succ, i64_w, i32_w]
    rfl
  refine pure_ (i := 11) (N := some 14) (v := ?_) (a' := ?_) #[true, true, true, true, true, true, true, true, true, true, true, true, false, false, false, false, false] rfl rfl (any_of HT_.out (by kernel_rfl)) (fun _ _ _ h => h) (Or.inl ⟨by rfl, ?_⟩) ?_ ?_
  rotate_left
  · intro w'
    go_simp
    with_reducible rfl
  rotate_left
  · simp only [Act.put, List.setIfInBounds_toArray, List.set_cons_zero, List.set_cons_succ, i64_w, i32_w]
    rfl
  refine pure_ (i := 12) (N := some 15) (v := ?_) (a' := ?_) #[true, true, true, true, true, true, true, true, true, true, true, true, true, false, false, false, false] rfl rfl (any_of HT_.out (by kernel_rfl)) (fun _ _ _ h => h) (Or.inl ⟨by rfl, ?_⟩) ?_ ?_
  rotate_left
  · intro w'
    go_simp
    with_reducible rfl
  rotate_left
  · simp only [Act.put, List.setIfInBounds_toArray, List.set_cons_zero, List.set_cons_succ, i64_w, i32_w]
    rfl
  refine take_ (i := 13) (N := some 16) (v := ?_) (a' := ?_) #[true, true, true, true, true, true, true, true, true, true, true, true, true, true, false, false, false] rfl rfl (take_ofW HT_.out HW_.out (by kernel_rfl)) (fun _ _ _ h => h) (Or.inl ⟨by rfl, ?_⟩) hHeld ?_ ?_
  rotate_left
  · rintro w' h1_
    obtain ⟨⟨_, _, _⟩, _, _⟩ := h1_.cells
    go_simp
    with_reducible rfl
  rotate_left
  · simp only [Act.put, List.setIfInBounds_toArray, List.set_cons_zero, List.set_cons_succ, i64_w, i32_w]
    rfl
  refine pure_ (i := 14) (N := some 17) (v := ?_) (a' := ?_) #[true, true, true, true, true, true, true, true, true, true, true, true, true, true, true, false, false] rfl rfl (any_of HT_.out (by kernel_rfl)) (fun _ _ _ h => h) (Or.inl ⟨by rfl, ?_⟩) ?_ ?_
  rotate_left
  · intro w'
    go_simp
    with_reducible rfl
  rotate_left
  · simp only [Act.put, List.setIfInBounds_toArray, List.set_cons_zero, List.set_cons_succ, i64_w, i32_w]
    rfl
  refine pure_ (i := 15) (N := some 18) (v := ?_) (a' := ?_) #[true, true, true, true, true, true, true, true, true, true, true, true, true, true, true, true, false] rfl rfl (any_of HT_.out (by kernel_rfl)) (fun _ _ _ h => h) (Or.inl ⟨by rfl, ?_⟩) ?_ ?_
  rotate_left
  · intro w'
    go_simp
    with_reducible rfl
  rotate_left
  · simp only [Act.put, List.setIfInBounds_toArray, List.set_cons_zero, List.set_cons_succ, i64_w, i32_w]
    rfl
  refine pure_ (i := 16) (N := some 19) (v := ?_) (a' := ?_) #[true, true, true, true, true, true, true, true, true, true, true, true, true, true, true, true, true] rfl rfl (any_of HT_.out (by kernel_rfl)) (fun _ _ _ h => h) (Or.inl ⟨by rfl, ?_⟩) ?_ ?_
  rotate_left
  · intro w'
    go_simp
    with_reducible rfl
  rotate_left
  · simp only [Act.put, List.setIfInBounds_toArray, List.set_cons_zero, List.set_cons_succ, i64_w, i32_w]
    rfl
  refine done_ (done_of HT_.out (by kernel_rfl)) ?_
  clear HT_ HW_ hHeld
  obtain ⟨⟨m0, m1, m2⟩, m3, m4⟩ := (unhide R0).cells
  go_wp2
  have R1 : Hid (Rdr (w.setCell ⟨g, 1, none⟩ (.int .i64 ((k : Int) + 1))).drew.drew g (.slice (some ad) n c) ((k : Int) + 1)) := blk_put (unhide R0) 1 _ rfl
  have X1 : Hid ((w.setCell ⟨g, 1, none⟩ (.int .i64 ((k : Int) + 1))).drew.drew.cell? (ad.add k) = some (.int .u8 x)) := (World.cell?_of_block (Below.heap_setCell w ⟨g, 1, none⟩ _ _ (unhide NB))).trans (unhide HX)
  have B1 : Hid (Below base w (w.setCell ⟨g, 1, none⟩ (.int .i64 ((k : Int) + 1))).drew.drew) := below_drew (below_drew ((Below.refl base w).setCell hb _))
  have K1 : Hid (KeepBut w (w.setCell ⟨g, 1, none⟩ (.int .i64 ((k : Int) + 1))).drew.drew g none) := (KeepBut.refl w g none).set_ 1 _
  clear m0 m1 m2 m3 m4
  generalize (w.setCell ⟨g, 1, none⟩ (.int .i64 ((k : Int) + 1))).drew = w5 at R1 X1 B1 K1 ⊢
  have e1 := unhide E1
  have e2 : IntKind.i64.wrap (k : Int) = (k : Int) := (i64_w _).trans e1
  refine start_ (n := 12) (S := fun w' => Rdr w' g (.slice (some ad) n c) ((k : Int) + 1) ∧ w'.cell? (ad.add k) = some (.int .u8 x)) (ds := []) #[false, false, false, false, false, false, false, false, false, false, false, false] (by kernel_rfl) rfl rfl ⟨unhide R1, unhide X1⟩ (fun hHeld => ?_)
  refine with_tabW tabT24_6 bitsT24_6 (fun HT_ HW_ => ?_)
  refine pure_ (i := 0) (N := some 38) (v := ?_) (a' := ?_) #[true, false, false, false, false, false, false, false, false, false, false, false] rfl rfl (any_of HT_.out (by kernel_rfl)) (fun _ _ _ h => h) (Or.inl ⟨by rfl, ?_⟩) ?_ ?_
  rotate_left
  · intro w'
    go_simp
    with_reducible rfl
  rotate_left
  · simp only [Act.put, List.setIfInBounds_toArray, List.set_cons_zero, List.set_cons_succ, i64_w, i32_w]
    rfl
  refine pure_ (i := 1) (N := some 39) (v := ?_) (a' := ?_) #[true, true, false, false, false, false, false, false, false, false, false, false] rfl rfl (any_of HT_.out (by kernel_rfl)) (fun _ _ _ h => h) (Or.inl ⟨by rfl, ?_⟩) ?_ ?_
  rotate_left
  · intro w'
    go_simp
    with_reducible rfl
  rotate_left
  · simp only [Act.put, List.setIfInBounds_toArray, List.set_cons_zero, List.set_cons_succ, i64_w, i32_w]
    rfl
  refine pure_ (i := 2) (N := some 40) (v := ?_) (a' := ?_) #[true, true, true, false, false, false, false, false, false, false, false, false] rfl rfl (any_of HT_.out (by kernel_rfl)) (fun _ _ _ h => h) (Or.inl ⟨by rfl, ?_⟩) ?_ ?_
  rotate_left
  · intro w'
    go_simp
    with_reducible rfl
  rotate_left
  · simp only [Act.put, List.setIfInBounds_toArray, List.set_cons_zero, List.set_cons_succ, i64_w, i32_w]
    rfl
  refine take_ (i := 3) (N := some 41) (v := ?_) (a' := ?_) #[true, true, true, true, false, false, false, false, false, false, false, false] rfl rfl (take_ofW HT_.out HW_.out (by kernel_rfl)) (fun _ _ _ h => h) (Or.inl ⟨by rfl, ?_⟩) hHeld ?_ ?_
  rotate_left
  · rintro w' ⟨h1_, _⟩
    obtain ⟨⟨_, _, _⟩, _, _⟩ := h1_.cells
    go_simp
    with_reducible rfl
  rotate_left
  · simp only [Act.put, List.setIfInBounds_toArray, List.set_cons_zero, List.set_cons_succ, i64_w, i32_w]
    rfl
  refine pure_ (i := 4) (N := some 42) (v := ?_) (a' := ?_) #[true, true, true, true, true, false, false, false, false, false, false, false] rfl rfl (any_of HT_.out (by kernel_rfl)) (fun _ _ _ h => h) (Or.inl ⟨by rfl, ?_⟩) ?_ ?_
  rotate_left
  · intro w'
    go_simp
    with_reducible rfl
  rotate_left
  · simp only [Act.put, List.setIfInBounds_toArray, List.set_cons_zero, List.set_cons_succ, i64_w, i32_w]
    rfl
  refine pure_ (i := 5) (N := some 43) (v := ?_) (a' := ?_) #[true, true, true, true, true, true, false, false, false, false, false, false] rfl rfl (any_of HT_.out (by kernel_rfl)) (fun _ _ _ h => h) (Or.inl ⟨by rfl, ?_⟩) ?_ ?_
  rotate_left
  · intro w'
    go_simp
    with_reducible rfl
  rotate_left
  · simp only [Act.put, List.setIfInBounds_toArray, List.set_cons_zero, List.set_cons_succ, i64_w, i32_w]
    rfl
  refine pure_ (i := 6) (N := some 44) (v := ?_) (a' := ?_) #[true, true, true, true, true, true, true, false, false, false, false, false] rfl rfl (any_of HT_.out (by kernel_rfl)) (fun _ _ _ h => h) (Or.inl ⟨by rfl, ?_⟩) ?_ ?_
  rotate_left
  · intro w'
    go_simp
    with_reducible rfl
  rotate_left
  · simp only [Act.put, List.setIfInBounds_toArray, List.set_cons_zero, List.set_cons_succ, i64_w, i32_w]
    rfl
  refine take_ (i := 7) (N := some 45) (v := ?_) (a' := ?_) #[true, true, true, true, true, true, true, true, false, false, false, false] rfl rfl (take_ofW HT_.out HW_.out (by kernel_rfl)) (fun _ _ _ h => h) (Or.inl ⟨by rfl, ?_⟩) hHeld ?_ ?_
  rotate_left
  · rintro w' ⟨h1_, _⟩
    obtain ⟨⟨_, _, _⟩, _, _⟩ := h1_.cells
    go_simp
    with_reducible rfl
  rotate_left
  · simp only [Act.put, List.setIfInBounds_toArray, List.set_cons_zero, List.set_cons_succ, i64_w, i32_w]
    rfl
  refine pure_ (i := 8) (N := some 46) (v := ?_) (a' := ?_) #[true, true, true, true, true, true, true, true, true, false, false, false] rfl rfl (any_of HT_.out (by kernel_rfl)) (fun _ _ _ h => h) (Or.inl ⟨by rfl, ?_⟩) ?_ ?_
  rotate_left
  · intro w'
    go_simp
    with_reducible rfl
  rotate_left
  · simp only [Act.put, List.setIfInBounds_toArray, List.set_cons_zero, List.set_cons_succ, i64_w, i32_w]
    rfl
  refine pure_ (i := 9) (N := some 47) (v := ?_) (a' := ?_) #[true, true, true, true, true, true, true, true, true, true, false, false] rfl rfl (any_of HT_.out (by kernel_rfl)) (fun _ _ _ h => h) (Or.inl ⟨by rfl, ?_⟩) ?_ ?_
  rotate_left
  · intro w'
    go_simp
    with_reducible rfl
  rotate_left
  · simp only [Act.put, List.setIfInBounds_toArray, List.set_cons_zero, List.set_cons_succ, i64_w, i32_w]
    rfl
  refine take_ (i := 10) (N := some 48) (v := ?_) (a' := ?_) #[true, true, true, true, true, true, true, true, true, true, true, false] rfl rfl (take_ofW HT_.out HW_.out (by kernel_rfl)) (fun _ _ _ h => h) (Or.inl ⟨by rfl, ?_⟩) hHeld ?_ ?_
  rotate_left
  · rintro w' ⟨h1_, _⟩
    obtain ⟨⟨_, _, _⟩, _, _⟩ := h1_.cells
    go_simp
    with_reducible rfl
  rotate_left
  · simp only [Act.put, List.setIfInBounds_toArray, List.set_cons_zero, List.set_cons_succ, i64_w, i32_w]
    rfl
  refine pure_ (i := 11) (N := some 2) (v := ?_) (a' := ?_) #[true, true, true, true, true, true, true, true, true, true, true, true] rfl rfl (any_of HT_.out (by kernel_rfl)) (fun _ _ _ h => h) (Or.inl ⟨by rfl, ?_⟩) ?_ ?_
  rotate_left
  · intro w'
    go_simp
    with_reducible rfl
  rotate_left
  · simp only [Act.put, List.setIfInBounds_toArray, List.set_cons_zero, List.set_cons_succ, i64_w, i32_w]
    rfl
  refine done_ (done_of HT_.out (by kernel_rfl)) ?_
  clear HT_ HW_ hHeld
  go_wp2
  go_ret
  exact ⟨rfl, unhide R1, unhide B1, unhide K1⟩
end Go.Proofs.YtgoephcembgmcaaDoor.Fr
namespace Go.Proofs.YtgoephcembgmcaaDoor.Fr
open Go.RowKit Go.Proofs.YtgoephcembgmcaaDoorW.PrintWords Go.Proofs.YtgoephcembgmcaaDoorW.PrintLast Go.Proofs.YtgoephcembgmcaaDoorW.PrintMore Go.Proofs.YtgoephcembgmcaaDoor.Wk Go.Proofs.YtgoephcembgmcaaDoor.FrM
def T16_1 : Bool × List (List Nat × List Nat) := (true, [([], []), ([0], [0]), ([1], [1]), ([2], [2]), ([3], [3]), ([4], [4]), ([5], [5]), ([6, 5], [5, 6]), ([7, 5], [5, 7]), ([8, 5], [5, 8]), ([5], [5]), ([10, 5], [5, 10]), ([11, 5], [5, 11]), ([12, 5], [5, 12]), ([13, 5], [5, 13]), ([9, 14, 5], [5, 9, 14]), ([5, 15], [5, 15])])
def BT16_1 : List Nat := [0, 1, 3, 7, 15, 31, 63, 127, 255, 511, 63, 1087, 3135, 7231, 15423, 32767, 65535]
theorem tabT16_1 : rtab .any (opsOf Tryd.f40 1) = T16_1 := by kernel_rfl
theorem bitsT16_1 : waitsOk T16_1.2 BT16_1 = true := by kernel_rfl

set_option maxHeartbeats 1000000 in
set_option maxRecDepth 100000 in
theorem end_ok (g n c : Nat) (A : Option Addr) (w : World) (h : Rdr w g (.slice A n c) (n : Int)) :
    Calls Tryd.prog 40 #[.pointer (some ⟨g, 0, none⟩)] w fun e w' => e = .returned .nilIface ∧ Below w.heap.size w w' := by
  have hu := Tryd.underlying155
  have d1 : ¬ (n : Int) < (n : Int) := by omega
  have R0 : Hid (Rdr w.drew g (.slice A n c) (n : Int)) := h
  have B0 := hide (below_drew (Below.refl w.heap.size w))
  clear h
  go_enter Tryd.func40, Tryd.ntmps40
  go_wp2
  refine start_ (n := 17) (S := fun w' => Rdr w' g (.slice A n c) (n : Int)) (ds := []) #[false, false, false, false, false, false, false, false, false, false, false, false, false, false, false, false, false] (by kernel_rfl) rfl rfl (unhide R0) (fun hHeld => ?_)
  refine with_tabW tabT16_1 bitsT16_1 (fun HT_ HW_ => ?_)
  refine pure_ (i := 0) (N := some 3) (v := ?_) (a' := ?_) #[true, false, false, false, false, false, false, false, false, false, false, false, false, false, false, false, false] rfl rfl (any_of HT_.out (by kernel_rfl)) (fun _ _ _ h => h) (Or.inl ⟨by rfl, ?_⟩) ?_ ?_
  rotate_left
  · intro w'
    go_simp
    with_reducible rfl
  rotate_left
  · simp only [Act.put, List.setIfInBounds_toArray, List.set_cons_zero, List.set_cons_succ, i64_w, i32_w]
    rfl
  refine pure_ (i := 1) (N := some 4) (v := ?_) (a' := ?_) #[true, true, false, false, false, false, false, false, false, false, false, false, false, false, false, false, false] rfl rfl (any_of HT_.out (by kernel_rfl)) (fun _ _ _ h => h) (Or.inl ⟨by rfl, ?_⟩) ?_ ?_
  rotate_left
  · intro w'
    go_simp
    with_reducible rfl
  rotate_left
  · simp only [Act.put, List.setIfInBounds_toArray, List.set_cons_zero, List.set_cons_succ, i64_w, i32_w]
    rfl
  refine pure_ (i := 2) (N := some 5) (v := ?_) (a' := ?_) #[true, true, true, false, false, false, false, false, false, false, false, false, false, false, false, false, false] rfl rfl (any_of HT_.out (by kernel_rfl)) (fun _ _ _ h => h) (Or.inl ⟨by rfl, ?_⟩) ?_ ?_
  rotate_left
  · intro w'
    go_simp
    with_reducible rfl
  rotate_left
  · simp only [Act.put, List.setIfInBounds_toArray, List.set_cons_zero, List.set_cons_succ, i64_w, i32_w]
    rfl
  refine take_ (i := 3) (N := some 6) (v := ?_) (a' := ?_) #[true, true, true, true, false, false, false, false, false, false, false, false, false, false, false, false, false] rfl rfl (take_ofW HT_.out HW_.out (by kernel_rfl)) (fun _ _ _ h => h) (Or.inl ⟨by rfl, ?_⟩) hHeld ?_ ?_
  rotate_left
  · rintro w' h1_
    obtain ⟨⟨_, _, _⟩, _, _⟩ := h1_.cells
    go_simp
    with_reducible rfl
  rotate_left
  · simp only [Act.put, List.setIfInBounds_toArray, List.set_cons_zero, List.set_cons_succ, i64_w, i32_w]
    rfl
  refine pure_ (i := 4) (N := some 7) (v := ?_) (a' := ?_) #[true, true, true, true, true, false, false, false, false, false, false, false, false, false, false, false, false] rfl rfl (any_of HT_.out (by kernel_rfl)) (fun _ _ _ h => h) (Or.inl ⟨by rfl, ?_⟩) ?_ ?_
  rotate_left
  · intro w'
    go_simp
    with_reducible rfl
  rotate_left
  · simp only [Act.put, List.setIfInBounds_toArray, List.set_cons_zero, List.set_cons_succ, i64_w, i32_w]
    rfl
  refine pure_ (i := 5) (N := some 8) (v := ?_) (a' := ?_) #[true, true, true, true, true, true, false, false, false, false, false, false, false, false, false, false, false] rfl rfl (any_of HT_.out (by kernel_rfl)) (fun _ _ _ h => h) (Or.inl ⟨by rfl, ?_⟩) ?_ ?_
  rotate_left
  · intro w'
    go_simp
    with_reducible rfl
  rotate_left
  · simp only [Act.put, List.setIfInBounds_toArray, List.set_cons_zero, List.set_cons_succ, i64_w, i32_w]
    rfl
  refine pure_ (i := 6) (N := some 9) (v := ?_) (a' := ?_) #[true, true, true, true, true, true, true, false, false, false, false, false, false, false, false, false, false] rfl rfl (any_of HT_.out (by kernel_rfl)) (fun _ _ _ h => h) (Or.inl ⟨by rfl, ?_⟩) ?_ ?_
  rotate_left
  · intro w'
    go_simp
    with_reducible rfl
  rotate_left
  · simp only [Act.put, List.setIfInBounds_toArray, List.set_cons_zero, List.set_cons_succ, i64_w, i32_w]
    rfl
  refine pure_ (i := 7) (N := some 10) (v := ?_) (a' := ?_) #[true, true, true, true, true, true, true, true, false, false, false, false, false, false, false, false, false] rfl rfl (any_of HT_.out (by kernel_rfl)) (fun _ _ _ h => h) (Or.inl ⟨by rfl, ?_⟩) ?_ ?_
  rotate_left
  · intro w'
    go_simp
    with_reducible rfl
  rotate_left
  · simp only [Act.put, List.setIfInBounds_toArray, List.set_cons_zero, List.set_cons_succ, i64_w, i32_w]
    rfl
  refine pure_ (i := 8) (N := some 11) (v := ?_) (a' := ?_) #[true, true, true, true, true, true, true, true, true, false, false, false, false, false, false, false, false] rfl rfl (any_of HT_.out (by kernel_rfl)) (fun _ _ _ h => h) (Or.inl ⟨by rfl, ?_⟩) ?_ ?_
  rotate_left
  · intro w'
    go_simp
    with_reducible rfl
  rotate_left
  · simp only [Act.put, List.setIfInBounds_toArray, List.set_cons_zero, List.set_cons_succ, i64_w, i32_w]
    rfl
  refine take_ (i := 9) (N := some 12) (v := ?_) (a' := ?_) #[true, true, true, true, true, true, true, true, true, true, false, false, false, false, false, false, false] rfl rfl (take_ofW HT_.out HW_.out (by kernel_rfl)) (fun _ _ _ h => h) (Or.inl ⟨by rfl, ?_⟩) hHeld ?_ ?_
  rotate_left
  · rintro w' h1_
    obtain ⟨⟨_, _, _⟩, _, _⟩ := h1_.cells
    go_simp
    with_reducible rfl
  rotate_left
  · simp only [Act.put, List.setIfInBounds_toArray, List.set_cons_zero, List.set_cons_succ, i64_w, i32_w]
    rfl
  refine pure_ (i := 10) (N := some 13) (v := ?_) (a' := ?_) #[true, true, true, true, true, true, true, true, true, true, true, false, false, false, false, false, false] rfl rfl (any_of HT_.out (by kernel_rfl)) (fun _ _ _ h => h) (Or.inl ⟨by rfl, ?_⟩) ?_ ?_
  rotate_left
  · intro w'
    go_simp
    with_reducible rfl
  rotate_left
  · simp only [Act.put, List.setIfInBounds_toArray, List.set_cons_zero, List.set_cons_succ, i64_w, i32_w]
    rfl
  refine pure_ (i := 11) (N := some 14) (v := ?_) (a' := ?_) #[true, true, true, true, true, true, true, true, true, true, true, true, false, false, false, false, false] rfl rfl (any_of HT_.out (by kernel_rfl)) (fun _ _ _ h => h) (Or.inl ⟨by rfl, ?_⟩) ?_ ?_
  rotate_left
  · intro w'
    go_simp
    with_reducible rfl
  rotate_left
  · simp only [Act.put, List.setIfInBounds_toArray, List.set_cons_zero, List.set_cons_succ, i64_w, i32_w]
    rfl
  refine pure_ (i := 12) (N := some 15) (v := ?_) (a' := ?_) #[true, true, true, true, true, true, true, true, true, true, true, true, true, false, false, false, false] rfl rfl (any_of HT_.out (by kernel_rfl)) (fun _ _ _ h => h) (Or.inl ⟨by rfl, ?_⟩) ?_ ?_
  rotate_left
  · intro w'
    go_simp
    with_reducible rfl
  rotate_left
  · simp only [Act.put, List.setIfInBounds_toArray, List.set_cons_zero, List.set_cons_succ, i64_w, i32_w]
    rfl
  refine take_ (i := 13) (N := some 16) (v := ?_) (a' := ?_) #[true, true, true, true, true, true, true, true, true, true, true, true, true, true, false, false, false] rfl rfl (take_ofW HT_.out HW_.out (by kernel_rfl)) (fun _ _ _ h => h) (Or.inl ⟨by rfl, ?_⟩) hHeld ?_ ?_
  rotate_left
  · rintro w' h1_
    obtain ⟨⟨_, _, _⟩, _, _⟩ := h1_.cells
    go_simp
    with_reducible rfl
  rotate_left
  · simp only [Act.put, List.setIfInBounds_toArray, List.set_cons_zero, List.set_cons_succ, i64_w, i32_w]
    rfl
  refine pure_ (i := 14) (N := some 17) (v := ?_) (a' := ?_) #[true, true, true, true, true, true, true, true, true, true, true, true, true, true, true, false, false] rfl rfl (any_of HT_.out (by kernel_rfl)) (fun _ _ _ h => h) (Or.inl ⟨by rfl, ?_⟩) ?_ ?_
  rotate_left
  · intro w'
    go_simp
    with_reducible rfl
  rotate_left
  · simp only [Act.put, List.setIfInBounds_toArray, List.set_cons_zero, List.set_cons_succ, i64_w, i32_w]
    rfl
  refine pure_ (i := 15) (N := some 18) (v := ?_) (a' := ?_) #[true, true, true, true, true, true, true, true, true, true, true, true, true, true, true, true, false] rfl rfl (any_of HT_.out (by kernel_rfl)) (fun _ _ _ h => h) (Or.inl ⟨by rfl, ?_⟩) ?_ ?_
  rotate_left
  · intro w'
    go_simp
    with_reducible rfl
  rotate_left
  · simp only [Act.put, List.setIfInBounds_toArray, List.set_cons_zero, List.set_cons_succ, i64_w, i32_w]
    rfl
  refine pure_ (i := 16) (N := some 19) (v := ?_) (a' := ?_) #[true, true, true, true, true, true, true, true, true, true, true, true, true, true, true, true, true] rfl rfl (any_of HT_.out (by kernel_rfl)) (fun _ _ _ h => h) (Or.inl ⟨by rfl, ?_⟩) ?_ ?_
  rotate_left
  · intro w'
    go_simp
    with_reducible rfl
  rotate_left
  · simp only [Act.put, List.setIfInBounds_toArray, List.set_cons_zero, List.set_cons_succ, i64_w, i32_w]
    rfl
  refine done_ (done_of HT_.out (by kernel_rfl)) ?_
  clear HT_ HW_ hHeld
  obtain ⟨⟨m0, m1, m2⟩, m3, m4⟩ := (unhide R0).cells
  go_wp2
  go_ret
  exact ⟨rfl, unhide B0⟩
end Go.Proofs.YtgoephcembgmcaaDoor.Fr
namespace Go.Proofs.YtgoephcembgmcaaDoor.Fr
open Go.RowKit Go.Proofs.YtgoephcembgmcaaDoorW.PrintWords Go.Proofs.YtgoephcembgmcaaDoorW.PrintLast Go.Proofs.YtgoephcembgmcaaDoorW.PrintMore Go.Proofs.YtgoephcembgmcaaDoor.Wk Go.Proofs.YtgoephcembgmcaaDoor.FrM
open Go.Proofs.YtgoephcembgmcaaDoor.WkM (w64)

/-! Bits of an int, as the reader of numbers joins them. -/
theorem i64_or_nat (a b : Nat) (ha : a < 4611686018427387904) (hb : b < 4611686018427387904) : bits .or .i64 (a : Int) (b : Int) = ((a ||| b : Nat) : Int) := by
  have hx : a ||| b < 2 ^ 62 := Nat.or_lt_two_pow (by omega) (by omega)
  have h1 : (BitVec.ofInt 64 (a : Int)).toNat = a := by
    rw [BitVec.ofInt_natCast, BitVec.toNat_ofNat]; exact Nat.mod_eq_of_lt (by omega)
  have h2 : (BitVec.ofInt 64 (b : Int)).toNat = b := by
    rw [BitVec.ofInt_natCast, BitVec.toNat_ofNat]; exact Nat.mod_eq_of_lt (by omega)
  show IntKind.i64.wrap ((BitVec.ofInt 64 (a : Int) ||| BitVec.ofInt 64 (b : Int)).toNat : Int) = _
  rw [BitVec.toNat_or, h1, h2, i64_w]
  exact w64 _ (by omega) (by omega)
theorem shl_i64 (x j : Nat) (hj : j ≤ 5) (hx : x ≤ 255) : Op.shift .shl .i64 (x : Int) .i64 ((7 * j : Nat) : Int) = pure (.int .i64 ((x * 128 ^ j : Nat) : Int)) := by
  rw [shift_shl_any _ _ _ _ (by omega), i64_w, Int.toNat_natCast]
  have hb : min (7 * j) IntKind.i64.bits = 7 * j := by
    show min (7 * j) 64 = 7 * j
    omega
  rw [hb]
  have e : (x : Int) * 2 ^ (7 * j) = ((x * 128 ^ j : Nat) : Int) := by
    have : 128 ^ j = 2 ^ (7 * j) := by rw [Nat.pow_mul]
    rw [this]
    push_cast
    rfl
  rw [e]
  have hp : 128 ^ j ≤ 128 ^ 5 := Nat.pow_le_pow_right (by decide) hj
  have hm : x * 128 ^ j ≤ 255 * 128 ^ 5 := Nat.mul_le_mul hx hp
  rw [w64 _ (by omega) (by omega)]
/-- The step of the reader on ints. -/
theorem join_i64 (m j d : Nat) (hj : j ≤ 5) (hd : d ≤ 127) : bits .or .i64 ((m % 128 ^ j : Nat) : Int) ((d * 128 ^ j : Nat) : Int) = ((m % 128 ^ j + d * 128 ^ j : Nat) : Int) := by
  have hp : 128 ^ j ≤ 128 ^ 5 := Nat.pow_le_pow_right (by decide) hj
  have h0 : 0 < 128 ^ j := Nat.pow_pos (by decide)
  have hlt : m % 128 ^ j < 128 ^ j := Nat.mod_lt _ h0
  have hm : d * 128 ^ j ≤ 127 * 128 ^ 5 := Nat.mul_le_mul hd hp
  rw [i64_or_nat _ _ (by omega) (by omega)]
  have e : d * 128 ^ j = d <<< (7 * j) := by rw [Nat.shiftLeft_eq, Nat.pow_mul]
  rw [e, or_step hlt, ← e]
end Go.Proofs.YtgoephcembgmcaaDoor.Fr
namespace Go.Proofs.YtgoephcembgmcaaDoor.Fr
open Go.RowKit Go.Proofs.YtgoephcembgmcaaDoorW.PrintWords Go.Proofs.YtgoephcembgmcaaDoorW.PrintLast Go.Proofs.YtgoephcembgmcaaDoorW.PrintMore Go.Proofs.YtgoephcembgmcaaDoor.Wk Go.Proofs.YtgoephcembgmcaaDoor.FrM
open Go.Proofs.YtgoephcembgmcaaDoor.WkM (w64)

theorem rd_drop {L t : List Int} {i : Nat} {x : Int} (h : L.drop i = x :: t) : rd L (i : Int) = x ∧ i < L.length ∧ L.drop (i + 1) = t := by
  have hl : i < L.length := by
    have := congrArg List.length h
    simp at this
    omega
  rw [List.drop_eq_getElem_cons hl] at h
  injection h with h1 h2
  refine ⟨?_, hl, h2⟩
  unfold rd
  rw [Int.toNat_natCast, List.getD_eq_getElem?_getD, List.getElem?_eq_getElem hl]
  exact h1
theorem and_u8 : ∀ d : Nat, d < 128 → bits .and .u8 ((d + 128 : Nat) : Int) 127 = (d : Int) := by decide +kernel
set_option maxHeartbeats 2000000 in
set_option maxRecDepth 100000 in
theorem num_rd (g base : Nat) (ad : Addr) (n c k m : Nat) (L rest : List Int) (w : World) (h : Rdr w g (.slice (some ad) n c) (k : Int)) (hC : Kd.C (Kd.int .u8) w (some ad) n L) (hL : L.drop k = vnum m ++ rest) (hm : m ≤ 1099511627776) (hn : n ≤ 1000000) (hne : ad.block ≠ g) (hb : base ≤ g) :
    Calls Tryd.prog 33 #[.pointer (some ⟨g, 0, none⟩)] w fun e w' => e = .returned (.int .i64 (m : Int)) ∧ Rdr w' g (.slice (some ad) n c) ((k + (vnum m).length : Nat) : Int) ∧ Below base w w' ∧ KeepBut w w' g none := by
  have hu := Tryd.underlying155
  have HC := hide hC
  have HR := hide h
  have HLL := hide hL
  have HM : Hid (m < 128 ^ (5 + 1)) := by show _ < _; omega
  obtain ⟨⟨m0, m1, m2⟩, m3, m4⟩ := h.cells
  clear h hC hL
  go_enter Tryd.func33, Tryd.ntmps33
  go_wp2
  clear m0 m1 m2 m3 m4
  go_loopg [4, 5] 5 (fun kq v4 v5 wr => ∃ j : Nat, v4 = .int .i64 ((m % 128 ^ j : Nat) : Int) ∧ v5 = .int .i64 ((7 * j : Nat) : Int) ∧ Hid (j + kq = 5) ∧ Hid (Rdr wr g (.slice (some ad) n c) ((k + j : Nat) : Int)) ∧ Hid (L.drop (k + j) = vnum (m / 128 ^ j) ++ rest) ∧ Hid ((vnum m).length = j + (vnum (m / 128 ^ j)).length) ∧ Hid (0 < j → 0 < m / 128 ^ j) ∧ Hid (Below base w wr) ∧ Hid (KeepBut w wr g none))
  case atStart => exact ⟨0, by simp [Nat.mod_one], rfl, Nat.zero_add _, unhide HR, by show _ = _; rw [Nat.pow_zero, Nat.div_one]; exact unhide HLL, by show _ = _; rw [Nat.pow_zero, Nat.div_one, Nat.zero_add], fun h => absurd h (Nat.lt_irrefl 0), Below.refl _ _, KeepBut.refl _ _ _⟩
  case round =>
    obtain ⟨j, rfl, rfl, HJ, HR1, HD, HVL, HP, HB, HK⟩ := hrel
    clear HR HLL
    have hj : j ≤ 5 := by have := unhide HJ; omega
    have hnx := part_next (n := m) (k := j)
    have hps := part_step (n := m) (k := j)
    have hpl := part_last (n := m) (k := j)
    obtain ⟨acc, hacc⟩ : ∃ a, m % 128 ^ j = a := ⟨_, rfl⟩
    obtain ⟨q, hq⟩ : ∃ a, m / 128 ^ j = a := ⟨_, rfl⟩
    rw [hq] at hnx hps hpl
    have HP2 : Hid (0 < j → 0 < q) := by rw [← hq]; exact unhide HP
    have HD2 : Hid (L.drop (k + j) = vnum q ++ rest) := by rw [← hq]; exact unhide HD
    have HV2 : Hid ((vnum m).length = j + (vnum q).length) := by rw [← hq]; exact unhide HVL
    have hjoin := fun d hd => join_i64 m j d hj hd
    rw [hacc] at hjoin hps hpl ⊢
    obtain ⟨sh, hsh⟩ : ∃ s : Int, ((7 * j : Nat) : Int) = s := ⟨_, rfl⟩
    have hshl := fun x hx => shl_i64 x j hj hx
    rw [hsh] at hshl ⊢
    have d42 : ¬ sh = 42 := by omega
    have HSH := hide hsh
    have HNX := hide hnx
    have HPS := hide hps
    have HPL := hide hpl
    have HJO := hide hjoin
    have HSL := hide hshl
    have E7 : Hid (wrap64 (sh + 7) = ((7 * (j + 1) : Nat) : Int)) := by show _ = _; rw [w64 _ (by omega) (by omega)]; omega
    have hqm : q ≤ m := by rw [← hq]; exact Nat.div_le_self _ _
    have DM : ¬ (1099511627776 : Int) < (m : Int) := by omega
    by_cases hq7 : q ≤ 127
    · obtain ⟨hx, hlt, hdr⟩ := rd_drop (by have := unhide HD2; rwa [vnum_small hq7] at this)
      have hnl : L.length = n := (unhide HC).1
      obtain ⟨ad', ha, hcell⟩ := Kd.at_int (unhide HC) ((k + j : Nat) : Int) (by omega) (by omega)
      cases ha
      rw [Int.toNat_natCast, hx] at hcell
      have hbk : (ad.add (k + j)).block = ad.block := by unfold Addr.add; split <;> rfl
      have X1 : Hid (wr.cell? (ad.add (k + j)) = some (.int .u8 ((q : Int)))) := (World.cell?_of_block ((unhide HK).2 _ (World.block_lt_of_cell? w _ hcell) (by rw [hbk]; exact hne) (by simp))).trans hcell
      have KN : Hid (k + j < n) := by show _ < _; omega
      have dx : (q : Int) < 128 := by omega
      have hor := (unhide HJO) q hq7
      rw [unhide HPL] at hor
      have hsl := (unhide HSL) q (by omega)
      obtain ⟨z, hz⟩ : ∃ z, q * 128 ^ j = z := ⟨_, rfl⟩
      rw [hz] at hor hsl
      have VL : Hid ((vnum m).length = j + 1) := by have h1 := unhide HV2; rw [vnum_small hq7] at h1; exact h1
      have HW := hide (w64 (q : Int) (by omega) (by omega))
      have HOR := hide hor
      have HS2 := hide hsl
      have HQ0 : Hid (q = 0 → ¬ 0 < sh) := fun e => by
        have h1 := unhide HP2
        have h2 := unhide HSH
        omega
      clear hx hlt hdr hcell hbk hnl hacc hq hsh hnx hps hpl hjoin hshl hz hq7 hor hsl hqm
      obtain ⟨⟨m0, m1, m2⟩, m3, m4⟩ := (unhide HR1).cells
      go_wp2_with fail
      refine (byte_ok g base ad n c (k + j) (q : Int) _ (unhide HR1) (unhide KN) hn (unhide X1) hne hb).mono ?_
      rintro e w5 ⟨rfl, hR5, hB5, hK5⟩
      have R5 := hide hR5
      have B5 := hide ((unhide HB).trans hB5)
      have K5 := hide ((unhide HK).trans hK5 (.inl rfl))
      clear hR5 hB5 hK5 m0 m1 m2 m3 m4 HR1 HB HK
      obtain ⟨⟨m0, m1, m2⟩, m3, m4⟩ := (unhide R5).cells
      have hor := unhide HOR
      have hsl := unhide HS2
      have HE : Hid (k + (vnum m).length = k + j + 1) := by show _ = _; rw [unhide VL]; omega
      by_cases h0 : q = 0
      · have dsh := unhide HQ0 h0
        subst h0
        have hsl0 : Op.shift .shl .i64 (0 : Int) .i64 sh = pure (.int .i64 (z : Int)) := hsl
        have hw0 : wrap64 (0 : Int) = 0 := unhide HW
        clear hsl
        go_wp2
        go_ret
        exact ⟨rfl, by rw [unhide HE]; exact unhide R5, unhide B5, unhide K5⟩
      · have dq : ¬ (q : Int) = 0 := by omega
        have hwd := unhide HW
        go_wp2
        go_ret
        exact ⟨rfl, by rw [unhide HE]; exact unhide R5, unhide B5, unhide K5⟩
    · have hd127 : q % 128 < 128 := Nat.mod_lt _ (by decide)
      obtain ⟨hx, hlt, hdr⟩ := rd_drop (by have := unhide HD2; rwa [vnum_big hq7, List.cons_append] at this)
      have hnl : L.length = n := (unhide HC).1
      obtain ⟨ad', ha, hcell⟩ := Kd.at_int (unhide HC) ((k + j : Nat) : Int) (by omega) (by omega)
      cases ha
      rw [Int.toNat_natCast, hx] at hcell
      have hbk : (ad.add (k + j)).block = ad.block := by unfold Addr.add; split <;> rfl
      have X1 : Hid (wr.cell? (ad.add (k + j)) = some (.int .u8 (((q % 128 + 128 : Nat) : Int)))) := (World.cell?_of_block ((unhide HK).2 _ (World.block_lt_of_cell? w _ hcell) (by rw [hbk]; exact hne) (by simp))).trans hcell
      have KN : Hid (k + j < n) := by show _ < _; omega
      obtain ⟨d, hd⟩ : ∃ d, q % 128 = d := ⟨_, rfl⟩
      have hps2 := unhide HPS
      rw [hd] at hps2 hd127 X1
      have hand := and_u8 d hd127
      have hor := (unhide HJO) d (by omega)
      rw [hps2] at hor
      have hsl := (unhide HSL) d (by omega)
      have dx0 : ¬ ((d + 128 : Nat) : Int) = 0 := by omega
      have dx1 : ¬ ((d + 128 : Nat) : Int) < 128 := by omega
      have VL : Hid ((vnum m).length = j + 1 + (vnum (m / 128 ^ (j + 1))).length) := by
        have h1 := unhide HV2
        rw [vnum_big hq7, List.length_cons, unhide HNX] at h1
        show _ = _
        omega
      have DR : Hid (L.drop (k + (j + 1)) = vnum (m / 128 ^ (j + 1)) ++ rest) := by rw [← unhide HNX]; exact hdr
      have PP : Hid (0 < j + 1 → 0 < m / 128 ^ (j + 1)) := fun _ => by rw [← unhide HNX]; omega
      have J5 : Hid (j < 5) := by
        show j < 5
        rcases Nat.lt_or_ge j 5 with h1 | h1
        · exact h1
        · have h2 : j = 5 := by omega
          have h3 := unhide HM
          rw [h2] at hq
          rw [← hq] at hq7
          exact absurd (Nat.le_of_lt_succ (Nat.div_lt_of_lt_mul (by rw [Nat.pow_succ] at h3; exact h3))) hq7
      obtain ⟨x, hxx⟩ : ∃ x : Int, ((d + 128 : Nat) : Int) = x := ⟨_, rfl⟩
      obtain ⟨z, hz⟩ : ∃ z, d * 128 ^ j = z := ⟨_, rfl⟩
      obtain ⟨r, hr⟩ : ∃ r, m % 128 ^ (j + 1) = r := ⟨_, rfl⟩
      rw [hxx] at X1 hand dx0 dx1
      rw [hz] at hor hsl
      rw [hr] at hor
      have HW := hide (w64 (d : Int) (by omega) (by omega))
      have HRR := hide hr
      have HOR := hide hor
      have HS2 := hide hsl
      have HAN := hide hand
      clear hx hlt hdr hcell hbk hnl hacc hq hsh hnx hps hpl hjoin hshl hz hq7 hor hsl hqm hps2 hd hd127 hxx hand hr
      obtain ⟨⟨m0, m1, m2⟩, m3, m4⟩ := (unhide HR1).cells
      go_wp2_with fail
      refine (byte_ok g base ad n c (k + j) x _ (unhide HR1) (unhide KN) hn (unhide X1) hne hb).mono ?_
      rintro e w5 ⟨rfl, hR5, hB5, hK5⟩
      have R5 := hide hR5
      have B5 := hide ((unhide HB).trans hB5)
      have K5 := hide ((unhide HK).trans hK5 (.inl rfl))
      clear hR5 hB5 hK5 m0 m1 m2 m3 m4 HR1 HB HK
      obtain ⟨⟨m0, m1, m2⟩, m3, m4⟩ := (unhide R5).cells
      have hor := unhide HOR
      have hsl := unhide HS2
      have hand := unhide HAN
      have hwd := unhide HW
      go_wp2
      clear hwd
      go_roundg (gk - 1)
      case measure => have := unhide HJ; have := unhide J5; omega
      case rel =>
        have h7 := unhide HSH
        exact ⟨j + 1, by rw [unhide HRR], by first | exact congrArg _ (unhide E7) | exact congrArg _ (by omega), by have := unhide HJ; have := unhide J5; show j + 1 + (gk - 1) = 5; omega, unhide R5, unhide DR, unhide VL, unhide PP, unhide B5, unhide K5⟩
end Go.Proofs.YtgoephcembgmcaaDoor.Fr
