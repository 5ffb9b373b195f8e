import Derived.Test.YtgoephcembgmcaaDoorWTab
import Derived.Test.YtgoephcembgmcaaDoorWWords
import Derived.KernelRfl
import Derived.Laws.BitsAllLaws
import Derived.Laws.BitsLemmas
import Derived.Test.YtgoephcembgmcaaDoorProg
import Derived.Test.YtgoephcembgmcaaDoorWEqStruct
import Derived.Test.YtgoephcembgmcaaDoorWApart
import Derived.Test.YtgoephcembgmcaaDoorWArr
import Derived.WalkKit
import Derived.Deep.LoopGhost
import Derived.Lib.Hide
import Derived.Test.YtgoephcembgmcaaDoorWGuard
import Derived.Lib.SlBytesConst
set_option linter.unusedSimpArgs false
set_option linter.unusedVariables false
namespace Go.Proofs.YtgoephcembgmcaaDoor.Rg
open Go.Proofs.YtgoephcembgmcaaDoorW.PrintLast Go.Proofs.YtgoephcembgmcaaDoorW.PrintWords
/-- Which operations have come up, as bits. -/
def bt (n m : Nat) : Array Bool := ((List.range n).map m.testBit).toArray
section
variable {P : Program} {md : Region.Mode} {ops : Array Oper} {Q : Exit → Act → World → Prop} {S : World → Prop} {ds : List Nat}
/-- The same, and which operations come up next. -/
def wpSeq (P : Program) (md : Region.Mode) (ops : Array Oper) (Q : Exit → Act → World → Prop) (S : World → Prop) (ds : List Nat) (fuel n m : Nat) (_ : List (Nat × Nat)) (a : Act) (w : World) : Prop := wpAnyLast P md ops Q S ds fuel (bt n m) a w
theorem run_ {fuel n m : Nat} (is : List (Nat × Nat)) {a : Act} {w : World} (h : wpSeq P md ops Q S ds fuel n m is a w) : wpAnyLast P md ops Q S ds fuel (bt n m) a w := h
theorem rend_ {fuel n m : Nat} {a : Act} {w : World} (h : wpAnyLast P md ops Q S ds fuel (bt n m) a w) : wpSeq P md ops Q S ds fuel n m [] a w := h
theorem unguarded {o : Oper} (h : o.guard = none) (y : Nat → Option Bool) : Region.wanted o y = true := by
  unfold Region.wanted
  rw [h]
theorem sp_ {i : Nat} {is : List (Nat × Nat)} {d : Nat} {oi : Oper} {v : Value} {fuel n m : Nat} {a : Act} {w : World} {T : Bool × List (List Nat × List Nat)} (hT : rtab md ops = T) (hi : ops[i]? = some oi) (hN : oi.dst = some d) (hg : oi.guard = none)
    (hc : anyT T (bt n m).toList (bt n (m + 2 ^ i)).toList i = true) (hQ : ∀ c a w, Q (.panic c) (a.put oi.dst v) w → Q (.panic c) a w) (hy : ∀ w', (execOp a.eval oi).run P w' = .ok (.value v) w') {a' : Act} (ha : a.put (some d) v = a')
    (h : wpSeq P md ops Q S ds fuel n (m + 2 ^ i) is a' w) : wpSeq P md ops Q S ds (fuel + 1) n m ((i, d) :: is) a w :=
  pure_ (bt n (m + 2 ^ i)) hi hN (any_of hT hc) hQ (Or.inl ⟨unguarded hg _, hy⟩) ha h
theorem sg_ {i : Nat} {is : List (Nat × Nat)} {d : Nat} {oi : Oper} {v : Value} {fuel n m : Nat} {a : Act} {w : World} {T : Bool × List (List Nat × List Nat)} (hT : rtab md ops = T) (hi : ops[i]? = some oi) (hN : oi.dst = some d)
    (hc : anyT T (bt n m).toList (bt n (m + 2 ^ i)).toList i = true) (hQ : ∀ c a w, Q (.panic c) (a.put oi.dst v) w → Q (.panic c) a w) (hw : Region.wanted oi (yielded ops a.tmps) = true) (hy : ∀ w', (execOp a.eval oi).run P w' = .ok (.value v) w') {a' : Act} (ha : a.put (some d) v = a')
    (h : wpSeq P md ops Q S ds fuel n (m + 2 ^ i) is a' w) : wpSeq P md ops Q S ds (fuel + 1) n m ((i, d) :: is) a w :=
  pure_ (bt n (m + 2 ^ i)) hi hN (any_of hT hc) hQ (Or.inl ⟨hw, hy⟩) ha h
/-- A guarded one that is off. -/
theorem so_ {i : Nat} {is : List (Nat × Nat)} {d : Nat} {oi : Oper} {fuel n m : Nat} {a : Act} {w : World} {T : Bool × List (List Nat × List Nat)} (hT : rtab md ops = T) (hi : ops[i]? = some oi) (hN : oi.dst = some d)
    (hc : anyT T (bt n m).toList (bt n (m + 2 ^ i)).toList i = true) (hQ : ∀ c a w, Q (.panic c) (a.put oi.dst undef) w → Q (.panic c) a w) (hw : Region.wanted oi (yielded ops a.tmps) = false) {a' : Act} (ha : a.put (some d) undef = a')
    (h : wpSeq P md ops Q S ds fuel n (m + 2 ^ i) is a' w) : wpSeq P md ops Q S ds (fuel + 1) n m ((i, d) :: is) a w :=
  pure_ (bt n (m + 2 ^ i)) hi hN (any_of hT hc) hQ (Or.inr ⟨hw, rfl⟩) ha h
end
theorem max2_int (k k' : IntKind) (x y : Int) : Builtin.max2 (.int k x) (.int k' y) = pure (.int k (if x < y then y else x)) := by simp only [Builtin.max2, gt_iff_lt]
theorem min2_int (k k' : IntKind) (x y : Int) : Builtin.min2 (.int k x) (.int k' y) = pure (.int k (if y < x then y else x)) := by simp only [Builtin.min2]
theorem max_two (ats : Array TypeId) (ty : TypeId) (a b : Value) : Builtin.max_ ats ty #[a, b] = (Builtin.max2 a b >>= fun s => pure s) := by simp only [Builtin.max_, List.foldlM_cons, List.foldlM_nil]
theorem min_two (ats : Array TypeId) (ty : TypeId) (a b : Value) : Builtin.min_ ats ty #[a, b] = (Builtin.min2 a b >>= fun s => pure s) := by simp only [Builtin.min_, List.foldlM_cons, List.foldlM_nil]
end Go.Proofs.YtgoephcembgmcaaDoor.Rg
namespace Go.Proofs.YtgoephcembgmcaaDoor.WkM
open Go.RowKit Go.Proofs.YtgoephcembgmcaaDoorW.PrintWords Rg

/-! The weak sum as numbers: A is the plain sum, B the weighted one. -/
def A : List Int → Int
  | [] => 0
  | x :: l => x + A l
def B : List Int → Int
  | [] => 0
  | x :: l => ((l.length : Int) + 1) * x + B l
def Bytes (l : List Int) : Prop := ∀ x ∈ l, 0 ≤ x ∧ x ≤ 255

theorem bytes_wf {l : List Int} (h : ∀ x ∈ l, (Lit.int .u8 x).wf = true) : Bytes l := by
  intro x hx
  have := h x hx
  simpa [Lit.wf, IntKind.min, IntKind.max, IntKind.bits, IntKind.signed] using this
theorem Bytes.take {l : List Int} (h : Bytes l) (n : Nat) : Bytes (l.take n) := fun x hx => h x (List.mem_of_mem_take hx)
theorem Bytes.drop {l : List Int} (h : Bytes l) (n : Nat) : Bytes (l.drop n) := fun x hx => h x (List.mem_of_mem_drop hx)
theorem Bytes.append {l r : List Int} (h : Bytes l) (k : Bytes r) : Bytes (l ++ r) := fun x hx => (List.mem_append.1 hx).elim (h x) (k x)
theorem Bytes.rd_ {l : List Int} (h : Bytes l) (i : Int) : 0 ≤ rd l i ∧ rd l i ≤ 255 := by
  unfold Go.Proofs.YtgoephcembgmcaaDoorW.PrintWords.rd
  rw [List.getD_eq_getElem?_getD]
  cases e : l[i.toNat]? with
  | none => simp
  | some x => simpa using h x (List.mem_of_getElem? e)

theorem A_append (l r : List Int) : A (l ++ r) = A l + A r := by
  induction l with
  | nil => simp [A]
  | cons x l ih => simp only [List.cons_append, A, ih]; omega
theorem B_append (l r : List Int) : B (l ++ r) = B l + (r.length : Int) * A l + B r := by
  induction l with
  | nil => simp [A, B]
  | cons x l ih => simp only [List.cons_append, A, B, ih, List.length_append, Int.natCast_add]; grind
theorem A_bd {l : List Int} (h : Bytes l) : 0 ≤ A l ∧ A l ≤ 255 * (l.length : Int) := by
  induction l with
  | nil => simp [A]
  | cons x l ih =>
    have h1 := h x (by simp)
    have h2 := ih (fun y hy => h y (by simp [hy]))
    simp only [A, List.length_cons, Int.natCast_add]
    omega
theorem B_bd (N : Nat) {l : List Int} (h : Bytes l) (hN : l.length ≤ N) : 0 ≤ B l ∧ B l ≤ 255 * (N : Int) * (l.length : Int) := by
  induction l with
  | nil => simp [B]
  | cons x l ih =>
    have h1 := h x (by simp)
    simp only [List.length_cons] at hN
    have h2 := ih (fun y hy => h y (by simp [hy])) (by omega)
    simp only [B, List.length_cons, Int.natCast_add]
    have h3 : 0 ≤ ((l.length : Int) + 1) * x := Int.mul_nonneg (by omega) h1.1
    have h4 : ((l.length : Int) + 1) * x ≤ (N : Int) * 255 := Int.mul_le_mul (by omega) h1.2 h1.1 (by omega)
    refine ⟨by omega, ?_⟩
    have e : 255 * (N : Int) * ((l.length : Int) + ((1 : Nat) : Int)) = 255 * (N : Int) * (l.length : Int) + 255 * (N : Int) := by
      rw [Int.mul_add]; simp
    omega

theorem take_snoc (l : List Int) (i : Nat) (h : i < l.length) : l.take (i + 1) = l.take i ++ [rd l (i : Int)] := by
  rw [List.take_succ_eq_append_getElem h]
  simp [Go.Proofs.YtgoephcembgmcaaDoorW.PrintWords.rd, List.getD_eq_getElem?_getD, List.getElem?_eq_getElem h]
theorem drop_cons (l : List Int) (i : Nat) (h : i < l.length) : l.drop i = rd l (i : Int) :: l.drop (i + 1) := by
  rw [List.drop_eq_getElem_cons h]
  simp [Go.Proofs.YtgoephcembgmcaaDoorW.PrintWords.rd, List.getD_eq_getElem?_getD, List.getElem?_eq_getElem h]
theorem A_snoc (l : List Int) (x : Int) : A (l ++ [x]) = A l + x := by simp [A_append, A]
theorem B_snoc (l : List Int) (x : Int) : B (l ++ [x]) = B l + A l + x := by simp [B_append, B]

/-! bits -/
theorem mask_any (y : Int) : bits .and .u32 (y % 4294967296) 65535 = y % 65536 := by
  have h := bits_mask .u32 32 (by decide) (fun n h0 h1 => by rw [IntKind.wrap_u32]; omega) 16 (by decide) (y % 4294967296) (by omega) (by omega)
  have e2 : ((2 : Int) ^ 16) = 65536 := by decide
  simp only [e2] at h
  simpa using h
theorem mask_in (y : Int) (h0 : 0 ≤ y) (h1 : y < 4294967296) : bits .and .u32 y 65535 = y % 65536 := by
  have h := mask_any y
  rwa [Int.emod_eq_of_lt h0 h1] at h
theorem join_any (b a : Int) (hb0 : 0 ≤ b) (hb1 : b < 65536) (ha0 : 0 ≤ a) (ha1 : a < 65536) : bits .or .u32 ((b * 65536) % 4294967296) a = b * 65536 + a := by
  have e : (b * 65536) % 4294967296 = b * 65536 := by omega
  rw [e]
  rw [u32_or _ _ (by omega) (by omega) ha0 (by omega)]
  have e2 : (b * 65536).toNat = b.toNat <<< 16 := by rw [Nat.shiftLeft_eq]; omega
  rw [e2, ← Nat.shiftLeft_add_eq_or_of_lt (by omega), Nat.shiftLeft_eq]
  omega

/-! the state of a sum -/
theorem w64 (n : Int) (h0 : -9223372036854775808 ≤ n) (h1 : n ≤ 9223372036854775807) : wrap64 n = n := by unfold wrap64; omega
theorem bt_nums {l : List Int} (h : Bytes l) (i : Int) : bt (strOfNums l) i = rd l i := by
  rw [← rd_bytesOf]
  unfold bytesOf strOfNums
  simp only [List.map_map]
  congr 1
  conv => rhs; rw [← List.map_id l]
  apply List.map_congr_left
  intro x hx
  have := h x hx
  simp
  omega
theorem tm (x : Int) (h : 0 ≤ x) : Int.tmod x 65536 = x % 65536 := Int.tmod_eq_emod_of_nonneg h


def St (l : List Int) : Int × Int × Int := (A l % 65536, B l % 65536, (l.length : Int) % 4294967296)
def val (l : List Int) : Int := (B l % 65536) * 65536 + A l % 65536

theorem St_nil : St [] = (0, 0, 0) := by simp [St, A, B]
theorem St_snoc (l : List Int) (x : Int) : ((A l % 65536 + x) % 65536, (B l % 65536 + (A l % 65536 + x) % 65536) % 65536, ((l.length : Int) % 4294967296 + 1) % 4294967296) = St (l ++ [x]) := by
  unfold St
  rw [A_snoc, B_snoc]
  simp only [List.length_append, List.length_cons, List.length_nil, Int.natCast_add, Prod.mk.injEq]
  refine ⟨by omega, by omega, by omega⟩

end Go.Proofs.YtgoephcembgmcaaDoor.WkM
namespace Go.Proofs.YtgoephcembgmcaaDoor.Wk
open Go.RowKit Go.Proofs.YtgoephcembgmcaaDoorW.PrintWords Go.Proofs.YtgoephcembgmcaaDoorW.PrintLast WkM Rg

theorem hide {p : Prop} (h : p) : Hid p := h
theorem unhide {p : Prop} (h : Hid p) : p := h

/-! The small functions of package weak, each once. -/
theorem in_any (a b n x : Int) (w : World) (hx : 0 ≤ x ∧ x ≤ 255) : Calls Tryd.prog 63 #[.agg #[.int .u32 a, .int .u32 b, .int .u32 n], .int .u8 x] w fun e w' =>
    e = .returned (.agg #[.int .u32 ((a + x) % 65536), .int .u32 ((b + (a + x) % 65536) % 65536), .int .u32 ((n + 1) % 4294967296)]) ∧ Below w.heap.size w w' := by
  have hu53 := Tryd.underlying134
  have m1 := mask_any (a + x)
  have m2 := mask_any (b + (a + x) % 65536)
  have ex : x % 4294967296 = x := by omega
  go_enter Tryd.func63, Tryd.ntmps63
  go_wp2
  refine bodyPost_ret (v := .agg #[.int .u32 ((a + x) % 65536), .int .u32 ((b + (a + x) % 65536) % 65536), .int .u32 ((n + 1) % 4294967296)]) (by simp [results, Tryd.results63, go_sem]) rfl ⟨rfl, ?_⟩
  exact ((Below.refl _ _).alloc (Nat.le_refl _) _).alloc (by simp) _


theorem value_any (a b n : Int) (w : World) (ha : 0 ≤ a ∧ a < 65536) (hb : 0 ≤ b ∧ b < 65536) : Calls Tryd.prog 59 #[.agg #[.int .u32 a, .int .u32 b, .int .u32 n]] w fun e w' => e = .returned (.int .u32 (b * 65536 + a)) ∧ Below w.heap.size w w' := by
  have hu53 := Tryd.underlying134
  have m1 := join_any b a hb.1 hb.2 ha.1 ha.2
  have e1 : b * 65536 % 4294967296 = b * 65536 := by omega
  rw [e1] at m1
  go_enter Tryd.func59, Tryd.ntmps59
  go_wp2
  go_ret
  exact ⟨rfl, (Below.refl _ _).alloc (Nat.le_refl _) _⟩

theorem out_any (a b n x : Int) (w : World) (hx : 0 ≤ x ∧ x ≤ 255) (hn : 0 < n ∧ n < 4294967296) : Calls Tryd.prog 64 #[.agg #[.int .u32 a, .int .u32 b, .int .u32 n], .int .u8 x] w fun e w' =>
    e = .returned (.agg #[.int .u32 ((a - x) % 65536), .int .u32 ((b - n * x) % 65536), .int .u32 (n - 1)]) ∧ Below w.heap.size w w' := by
  have hu53 := Tryd.underlying134
  have m1 := mask_any (a - x)
  have m2 := mask_any (b - n * x)
  have ex : x % 4294967296 = x := by omega
  have en : (n == 0) = false := by simp; omega
  have e1 : (n - 1) % 4294967296 = n - 1 := by omega
  go_enter Tryd.func64, Tryd.ntmps64
  go_wp2
  refine bodyPost_ret (v := .agg #[.int .u32 ((a - x) % 65536), .int .u32 ((b - n * x) % 65536), .int .u32 (n - 1)]) (by simp [results, Tryd.results64, go_sem]) rfl ⟨rfl, ?_⟩
  exact ((Below.refl _ _).alloc (Nat.le_refl _) _).alloc (by simp) _

theorem out_none (a b x : Int) (w : World) : Calls Tryd.prog 64 #[.agg #[.int .u32 a, .int .u32 b, .int .u32 0], .int .u8 x] w fun e w' =>
    e = .returned (.agg #[.int .u32 a, .int .u32 b, .int .u32 0]) ∧ Below w.heap.size w w' := by
  have hu53 := Tryd.underlying134
  go_enter Tryd.func64, Tryd.ntmps64
  go_wp2
  refine bodyPost_ret (v := .agg #[.int .u32 a, .int .u32 b, .int .u32 0]) (by simp [results, Tryd.results64, go_sem]) rfl ⟨rfl, ?_⟩
  exact ((Below.refl _ _).alloc (Nat.le_refl _) _).alloc (by simp) _



theorem bcell {W w1 : World} (hb : Below W.heap.size W w1) : (∀ b o, b < W.heap.size → w1.cell? ⟨b, o, none⟩ = W.cell? ⟨b, o, none⟩) ∧ (∀ b o, b < W.heap.size → w1.frozen? ⟨b, o, none⟩ = W.frozen? ⟨b, o, none⟩) :=
  ⟨fun b o h => hb.cell (p := ⟨b, o, none⟩) h, fun b o h => hb.frozen (p := ⟨b, o, none⟩) h⟩

/-! The same, said of the sum of known bytes. -/
theorem St_bd (l : List Int) : (0 ≤ (St l).1 ∧ (St l).1 < 65536) ∧ (0 ≤ (St l).2.1 ∧ (St l).2.1 < 65536) ∧ (0 ≤ (St l).2.2 ∧ (St l).2.2 < 4294967296) := by
  unfold St; simp only []; omega
theorem in_St (l : List Int) (x : Int) (w : World) (hx : 0 ≤ x ∧ x ≤ 255) : Calls Tryd.prog 63 #[.agg #[.int .u32 (St l).1, .int .u32 (St l).2.1, .int .u32 (St l).2.2], .int .u8 x] w fun e w' =>
    e = .returned (.agg #[.int .u32 (St (l ++ [x])).1, .int .u32 (St (l ++ [x])).2.1, .int .u32 (St (l ++ [x])).2.2]) ∧ Below w.heap.size w w' := by
  have h := in_any (St l).1 (St l).2.1 (St l).2.2 x w hx
  rw [← St_snoc]
  exact h
theorem out_St (x : Int) (l : List Int) (w : World) (hx : 0 ≤ x ∧ x ≤ 255) (hn : l.length ≤ 100000) : Calls Tryd.prog 64 #[.agg #[.int .u32 (St (x :: l)).1, .int .u32 (St (x :: l)).2.1, .int .u32 (St (x :: l)).2.2], .int .u8 x] w fun e w' =>
    e = .returned (.agg #[.int .u32 (St l).1, .int .u32 (St l).2.1, .int .u32 (St l).2.2]) ∧ Below w.heap.size w w' := by
  have e2 : (St (x :: l)).2.2 = (l.length : Int) + 1 := by simp only [St, List.length_cons, Int.natCast_add]; omega
  have h := out_any (St (x :: l)).1 (St (x :: l)).2.1 (St (x :: l)).2.2 x w hx (by rw [e2]; omega)
  have f1 : ((St (x :: l)).1 - x) % 65536 = (St l).1 := by simp only [St, A]; omega
  have f2 : ((St (x :: l)).2.1 - (St (x :: l)).2.2 * x) % 65536 = (St l).2.1 := by
    rw [e2]
    simp only [St, B]
    generalize ((l.length : Int) + 1) * x = t
    omega
  have f3 : (St (x :: l)).2.2 - 1 = (St l).2.2 := by rw [e2]; simp only [St]; omega
  rw [f1, f2, f3] at h
  exact h
theorem value_St (l : List Int) (w : World) : Calls Tryd.prog 59 #[.agg #[.int .u32 (St l).1, .int .u32 (St l).2.1, .int .u32 (St l).2.2]] w fun e w' => e = .returned (.int .u32 (val l)) ∧ Below w.heap.size w w' :=
  value_any _ _ _ w (St_bd l).1 (St_bd l).2.1



theorem box3 {wr : World} {g t : Nat} {x y z : Value} (h : wr.heap[g]? = some (.cells #[x, y, z] t (0, 0))) :
    (wr.cell? ⟨g, 0, none⟩ = some x ∧ wr.cell? ⟨g, 1, none⟩ = some y ∧ wr.cell? ⟨g, 2, none⟩ = some z) ∧ (wr.frozen? ⟨g, 0, none⟩ = false ∧ wr.frozen? ⟨g, 1, none⟩ = false ∧ wr.frozen? ⟨g, 2, none⟩ = false) ∧ g < wr.heap.size :=
  ⟨⟨(blk_cell h 0).trans rfl, (blk_cell h 1).trans rfl, (blk_cell h 2).trans rfl⟩, ⟨blk_frozen h 0, blk_frozen h 1, blk_frozen h 2⟩, blk_lt h⟩
/-- The box of a sum at g, in world wr. -/
def Box (wr : World) (g : Nat) (s : Int × Int × Int) : Prop := wr.heap[g]? = some (.cells #[.int .u32 s.1, .int .u32 s.2.1, .int .u32 s.2.2] 134 (0, 0))
theorem Box.below {wr w1 : World} {g : Nat} {s : Int × Int × Int} (h : Box wr g s) (hb : Below wr.heap.size wr w1) : Box w1 g s := blk_below h hb
theorem Box.far {wr : World} {g : Nat} {s : Int × Int × Int} (h : Box wr g s) {p : Addr} (hp : g ≠ p.block) (u : Value) : Box (wr.setCell p u) g s := blk_far h hp u
theorem Box.put {wr : World} {g : Nat} {s : Int × Int × Int} (h : Box wr g s) (s' : Int × Int × Int) : Box (((wr.setCell ⟨g, 0, none⟩ (.int .u32 s'.1)).setCell ⟨g, 1, none⟩ (.int .u32 s'.2.1)).setCell ⟨g, 2, none⟩ (.int .u32 s'.2.2)) g s' :=
  blk_put (blk_put (blk_put h 0 _ rfl) 1 _ rfl) 2 _ rfl

/-- What holds at the head of the loop of Of: the result's box, the sum's box. -/
def OfRel (l : List Int) (w wr : World) (i : Nat) : Prop := Box wr w.heap.size (0, 0, 0) ∧ Box wr (w.heap.size + 1) (St (l.take i)) ∧ Below w.heap.size w wr

theorem of_any (A0 : Option Addr) (c0 : Nat) (l : List Int) (w : World) (hr0 : Kd.C (Kd.int .u8) w A0 l.length l) (_hc0 : l.length ≤ c0) (hl : Bytes l) (hn : l.length ≤ 100000) :
    Calls Tryd.prog 58 #[.slice A0 l.length c0] w fun e w' => e = .returned (.agg #[.int .u32 (St l).1, .int .u32 (St l).2.1, .int .u32 (St l).2.2]) ∧ Below w.heap.size w w' := by
  have hu53 := Tryd.underlying134
  have HR := hide hr0
  have HL := hide hl
  clear hr0 hl
  go_enter Tryd.func58, Tryd.ntmps58
  go_wp2
  go_loopg [8] l.length (fun kq v8 wr => ∃ (i : Nat), v8 = .int .i64 (i : Int) ∧ Hid (i + kq = l.length) ∧ Hid (OfRel l w wr i))
  case atStart =>
    refine ⟨0, rfl, Nat.zero_add _, blk_alloc (blk_new _ _) _, ?_, below_alloc (below_alloc (Below.refl _ _) _) _⟩
    rw [List.take_zero, St_nil]
    exact heap_alloc2_new _ _ _
  case round =>
    obtain ⟨i, rfl, HK, HREL⟩ := hrel
    obtain ⟨b0, b1, hbel⟩ := unhide HREL
    obtain ⟨⟨c10, c11, c12⟩, ⟨f10, f11, f12⟩, z1⟩ := box3 b1
    by_cases hlt : i < l.length
    · obtain ⟨ad, rfl, hx⟩ := Kd.at_int (unhide HR) (i : Int) (by omega) (by omega)
      replace hx := (hbel.cell (World.block_lt_of_cell? w _ hx)).trans hx
      rw [Int.toNat_natCast] at hx
      have B0 := hide b0
      have B1 := hide b1
      have HB := hide hbel
      clear b0 b1 hbel
      go_wp2_with fail
      refine (in_St (l.take i) (rd l (i : Int)) _ ((unhide HL).rd_ _)).mono ?_
      rintro e w1 ⟨rfl, hb⟩
      obtain ⟨⟨c10, c11, c12⟩, ⟨f10, f11, f12⟩, z1⟩ := box3 ((unhide B1).below hb)
      have N0 := hide ((unhide B0).below hb)
      have N1 := hide ((unhide B1).below hb)
      have NB := hide (below_step (unhide HB) hb)
      have HT := hide (take_snoc l i hlt)
      clear hb
      go_wp2
      go_roundg (gk - 1)
      case measure => have := unhide HK; omega
      case rel =>
        refine ⟨i + 1, by go_num, by have := unhide HK; show i + 1 + (gk - 1) = l.length; omega, ?_, ?_, below_set (below_set (below_set (unhide NB) (by omega)) (by omega)) (by omega)⟩
        · exact (((unhide N0).far (by simp) _).far (by simp) _).far (by simp) _
        · rw [unhide HT]
          exact (unhide N1).put _
    · obtain ⟨⟨c00, c01, c02⟩, ⟨f00, f01, f02⟩, z0⟩ := box3 b0
      have e : l.take i = l := List.take_of_length_le (by omega)
      have B0 := hide b0
      have HB := hide hbel
      have HE := hide e
      clear b0 b1 hbel e
      go_wp2
      refine bodyPost_ret (v := .agg #[.int .u32 (St (l.take i)).1, .int .u32 (St (l.take i)).2.1, .int .u32 (St (l.take i)).2.2]) (by simp [results, Tryd.results58, go_sem, c00, c01, c02]) rfl ⟨?_, ?_⟩
      · rw [unhide HE]
      · exact below_set (below_set (below_set (unhide HB) (by simp)) (by simp)) (by simp)

end Go.Proofs.YtgoephcembgmcaaDoor.Wk
namespace Go.Proofs.YtgoephcembgmcaaDoor.Wk
open Go.RowKit Go.Proofs.YtgoephcembgmcaaDoorW.PrintWords Go.Proofs.YtgoephcembgmcaaDoorW.PrintLast WkM Rg

theorem bytesOf_bytes (s : ByteArray) : Bytes (bytesOf s) := by
  intro x hx
  unfold bytesOf at hx
  obtain ⟨b, _, rfl⟩ := List.mem_map.1 hx
  have := b.toNat_lt
  omega
theorem bytesOf_str {l : List Int} (h : Bytes l) : bytesOf (strOfNums l) = l := by
  unfold bytesOf strOfNums
  simp only [List.map_map]
  conv => rhs; rw [← List.map_id l]
  apply List.map_congr_left
  intro x hx
  have := h x hx
  simp
  omega

theorem eqA53 (d : Nat) (w : World) (x0 y0 : Int) (x1 y1 : Int) (x2 y2 : Int) :
    (Op.equalIn (d + 2) 134 (.agg #[.int .u32 x0, .int .u32 x1, .int .u32 x2]) (.agg #[.int .u32 y0, .int .u32 y1, .int .u32 y2])).run Tryd.prog w = .ok (x0 == y0 && (x1 == y1 && (x2 == y2))) w := by
  refine eqA_of Tryd.underlying134 (by kernel_rfl) ?_
  refine eqf_cons (by rfl) (by go_simp; rfl) (by go_simp; rfl) (by go_simp) ?_
  refine eqf_cons (by rfl) (by go_simp; rfl) (by go_simp; rfl) (by go_simp) ?_
  exact eqf_last (by rfl) (by go_simp; rfl) (by go_simp; rfl) (by go_simp)
/-- Two equal sums are equal. -/
theorem eq53 (w : World) (x0 x1 x2 : Int) : (binOp .eql 134 (.agg #[.int .u32 x0, .int .u32 x1, .int .u32 x2]) (.agg #[.int .u32 x0, .int .u32 x1, .int .u32 x2])).run Tryd.prog w = .ok (.bool true) w := by
  simp only [binOp]
  simp [Op.equal, Op.maxDepth, eqA53 9998 w]

/-- A row of three bytes that the call makes. -/
theorem row3 (W : World) (x y z : Int) : Kd.C (Kd.int .u8) (W.alloc (.cells #[.int .u8 x, .int .u8 y, .int .u8 z] 5 (3, 4))) (some ⟨W.heap.size, 0, none⟩) ([x, y, z] : List Int).length [x, y, z] := by
  refine Kd.C_of_reads (enc := Value.int .u8) (d := (0 : Int)) (h1 := fun _ => rfl) ⟨rfl, by simp, fun _ => ⟨_, rfl, fun j hj => ?_⟩⟩
  have h := blk_new W (.cells #[.int .u8 x, .int .u8 y, .int .u8 z] 5 (3, 4))
  match j, hj with
  | 0, _ => exact (cell_of_row _ _ 0 _ 5 (3, 4) h).trans rfl
  | 1, _ => exact (cell_of_row _ _ 1 _ 5 (3, 4) h).trans rfl
  | 2, _ => exact (cell_of_row _ _ 2 _ 5 (3, 4) h).trans rfl

end Go.Proofs.YtgoephcembgmcaaDoor.Wk
namespace Go.Proofs.YtgoephcembgmcaaDoor.Wk
open Go.RowKit Go.Proofs.YtgoephcembgmcaaDoorW.PrintWords Go.Proofs.YtgoephcembgmcaaDoorW.PrintLast WkM Rg

/-! Cuts of a row of bytes. -/
theorem info5 : (Tryd.prog.info? 5).map (fun i => (i.zero, i.size, i.bytes)) = some (some (.int .u8 0), 1, 1) := by kernel_rfl
theorem take_any (A0 : Option Addr) (c0 : Nat) (l : List Int) (m : Nat) (hc : l.length ≤ c0) (hm : m ≤ l.length) :
    (∀ W : World, (Instr.slice 22 (.slice A0 l.length c0) none (some (.int .i64 (m : Int))) none).run Tryd.prog W = .ok (.slice A0 (l.take m).length c0) W) ∧
    (∀ w : World, Kd.C (Kd.int .u8) w A0 l.length l → Kd.C (Kd.int .u8) w A0 (l.take m).length (l.take m)) ∧ (l.take m).length ≤ c0 := by
  obtain ⟨i0, hi, _, hsz, _⟩ := info_parts info5
  obtain ⟨h1, h2, h3⟩ := print_take_of (P := Tryd.prog) (Value.int .u8) 0 22 5 .i64 Tryd.underlying22 hi hsz A0 c0 l (m : Int) (by omega) (by omega) hc
  rw [Int.toNat_natCast] at h1 h2 h3
  exact ⟨h1, fun w hr => Kd.C_of_reads (h1 := fun _ => rfl) (h2 _ (Kd.reads_of_C hr)), h3⟩
theorem drop_any (A0 : Option Addr) (c0 : Nat) (l : List Int) (m : Nat) (hc : l.length ≤ c0) (hm : m ≤ l.length) :
    ∃ A1 : Option Addr, (∀ W : World, (Instr.slice 22 (.slice A0 l.length c0) (some (.int .i64 (m : Int))) none none).run Tryd.prog W = .ok (.slice A1 (l.drop m).length (c0 - m)) W) ∧
    (∀ w : World, Kd.C (Kd.int .u8) w A0 l.length l → Kd.C (Kd.int .u8) w A1 (l.drop m).length (l.drop m)) ∧ (l.drop m).length ≤ c0 - m := by
  obtain ⟨i0, hi, _, hsz, _⟩ := info_parts info5
  obtain ⟨A1, h1, h2, h3⟩ := print_drop_of (P := Tryd.prog) (Value.int .u8) 0 22 5 .i64 Tryd.underlying22 hi hsz A0 c0 l (m : Int) (by omega) (by omega) hc
  rw [Int.toNat_natCast] at h1 h2 h3
  exact ⟨A1, h1, fun w hr => Kd.C_of_reads (h1 := fun _ => rfl) (h2 _ (Kd.reads_of_C hr)), h3⟩
theorem mid_any (A0 : Option Addr) (c0 : Nat) (l : List Int) (a b : Nat) (hc : l.length ≤ c0) (hab : a ≤ b) (hb : b ≤ l.length) :
    ∃ A1 : Option Addr, (∀ W : World, (Instr.slice 22 (.slice A0 l.length c0) (some (.int .i64 (a : Int))) (some (.int .i64 (b : Int))) none).run Tryd.prog W = .ok (.slice A1 ((l.take b).drop a).length (c0 - a)) W) ∧
    (∀ w : World, Kd.C (Kd.int .u8) w A0 l.length l → Kd.C (Kd.int .u8) w A1 ((l.take b).drop a).length ((l.take b).drop a)) ∧ ((l.take b).drop a).length ≤ c0 - a := by
  obtain ⟨i0, hi, _, hsz, _⟩ := info_parts info5
  obtain ⟨A1, h1, h2, h3⟩ := print_mid_of (P := Tryd.prog) (Value.int .u8) 0 22 5 .i64 .i64 Tryd.underlying22 hi hsz A0 c0 l (a : Int) (b : Int) (by omega) (by omega) (by omega) hc
  simp only [Int.toNat_natCast] at h1 h2 h3
  exact ⟨A1, h1, fun w hr => Kd.C_of_reads (h1 := fun _ => rfl) (h2 _ (Kd.reads_of_C hr)), h3⟩
/-- min(len, n) as the walk has it. -/
theorem min_as (N : Int) (hN : 0 ≤ N) (m : Nat) : ∃ k : Nat, (if N < (m : Int) then N else (m : Int)) = (k : Int) ∧ k ≤ m ∧ (k : Int) ≤ N := by
  by_cases h : N < (m : Int)
  · exact ⟨N.toNat, by rw [if_pos h]; omega, by omega, by omega⟩
  · exact ⟨m, by rw [if_neg h], by omega, by omega⟩
/-- A number that is small enough for every sum here; behind a definition, for the walk. -/
def Sm (x : Int) : Prop := -1000000 ≤ x ∧ x ≤ 5000000000
theorem Sm.w {x : Int} (h : Sm x) : wrap64 x = x := w64 _ (by unfold Sm at h; omega) (by unfold Sm at h; omega)
theorem Sm.i {x : Int} (h : Sm x) : IntKind.i64.wrap x = x := (i64_w _).trans h.w
theorem Sm.val (l : List Int) : Sm (val l) := by unfold Sm WkM.val; omega
end Go.Proofs.YtgoephcembgmcaaDoor.Wk
namespace Go.Proofs.YtgoephcembgmcaaDoor.Wk
open Go.RowKit Go.Proofs.YtgoephcembgmcaaDoorW.PrintWords Go.Proofs.YtgoephcembgmcaaDoorW.PrintLast WkM Rg

/-! Rows of bytes that the call owns. -/
abbrev Own (w : World) (base : Nat) (v : Value) (xs : List Int) : Prop := (Kd.int .u8).R 5 w base (fun _ => True) v xs
theorem own_empty (W : World) (base : Nat) (h : base ≤ W.heap.size) : Own (W.alloc (.cells #[] 5)) base (.slice (some ⟨W.heap.size, 0, none⟩) 0 0) [] := by
  have h2 := World.ownsRow_lit (base := base) (e := 5) (size := 1) W #[] 0 h (by simp [maxLen]) (by simp)
  exact Kd.R_of_own (enc := Value.int .u8) (xs := ([] : List Int)) (by simpa [encs] using h2) (fun k hk => trivial)
theorem Box.grown {wr w1 : World} {g : Nat} {s : Int × Int × Int} {row : Option Nat} (h : Box wr g s) (hg : wr.grownBy w1 row) (hne : some g ≠ row) : Box w1 g s := blk_grown h hg hne
theorem Box.alloc {wr : World} {g : Nat} {s : Int × Int × Int} (h : Box wr g s) (o : Obj) : Box (wr.alloc o) g s := blk_alloc h o
theorem Box.ne_ {wr : World} {g base : Nat} {s : Int × Int × Int} {v : Value} {xs : List Int} (h : Box wr g s) (ho : Own wr base v xs) : some g ≠ v.ownBlock := Kd.R_ne ho h (by decide)
theorem make_any (n : Nat) (h : n ≤ 200000) : ∀ W : World, (Instr.makeSlice 22 (.int .i64 (n : Int)) (.int .i64 (n : Int))).run Tryd.prog W = .ok (.slice (some ⟨W.heap.size, 0, none⟩) n n) (W.alloc (.cells (madeCells #[.int .u8 0] n) 5)) :=
  print_make_of (P := Tryd.prog) 22 5 (.int .u8 0) 1 Tryd.underlying22 info5 rfl (by decide) n (by omega)
theorem own_made (W : World) (base n : Nat) (hb : base ≤ W.heap.size) (h : n ≤ 200000) : Own (W.alloc (.cells (madeCells #[.int .u8 0] n) 5)) base (.slice (some ⟨W.heap.size, 0, none⟩) n n) (List.replicate n 0) := by
  have h2 := own_made_of (enc := Value.int .u8) (d := (0 : Int)) W base 5 n hb (by omega)
  exact Kd.R_of_own (enc := Value.int .u8) (by simpa using h2) (fun k hk => trivial)
/-- A cell of a row of the call's own, and a byte put there. -/
theorem own_cell {W : World} {base g n cap i : Nat} {xs : List Int} (h : Own W base (.slice (some ⟨g, 0, none⟩) n cap) xs) (hi : i < n) :
    W.cell? ⟨g, i, none⟩ = some (.int .u8 (rd xs (i : Int))) ∧ W.frozen? ⟨g, i, none⟩ = false := by
  have h2 := Kd.R_celln (enc := Value.int .u8) (0 : Int) h (i : Int) (by omega) (by omega)
  simpa [rdOf, Go.Proofs.YtgoephcembgmcaaDoorW.PrintWords.rd] using h2
theorem own_put {W : World} {base g n cap : Nat} {xs : List Int} (h : Own W base (.slice (some ⟨g, 0, none⟩) n cap) xs) (i : Nat) (x : Int) :
    Own (W.setCell ⟨g, i, none⟩ (.int .u8 x)) base (.slice (some ⟨g, 0, none⟩) n cap) (xs.set i x) := by
  have h2 := Kd.R_putn (enc := Value.int .u8) h (i : Int) x
  rw [Int.toNat_natCast] at h2
  exact h2
theorem own_reads {W : World} {base n cap : Nat} {A : Option Addr} {xs : List Int} (h : Own W base (.slice A n cap) xs) : n = xs.length ∧ n ≤ cap ∧ Kd.C (Kd.int .u8) W A xs.length xs := Kd.R_reads' h
end Go.Proofs.YtgoephcembgmcaaDoor.Wk
namespace Go.Proofs.YtgoephcembgmcaaDoor.FrM

/-! Numbers as bytes, seven bits each, the lowest first; there and back (plain law). -/
def vnum (n : Nat) : List Int := if n ≤ 127 then [(n : Int)] else ((n % 128 + 128 : Nat) : Int) :: vnum (n / 128)
termination_by n
decreasing_by omega
theorem vnum_small {n : Nat} (h : n ≤ 127) : vnum n = [(n : Int)] := by rw [vnum, if_pos h]
theorem vnum_big {n : Nat} (h : ¬ n ≤ 127) : vnum n = ((n % 128 + 128 : Nat) : Int) :: vnum (n / 128) := by rw [vnum, if_neg h]
theorem vnum_ne (n : Nat) : vnum n ≠ [] := by
  rw [vnum]
  split <;> simp
theorem vnum_byte : ∀ (k n : Nat), n < 128 ^ k → ∀ x ∈ vnum n, 0 ≤ x ∧ x ≤ 255
  | 0, n, h, x, hx => by
    have : n = 0 := by simpa using h
    rw [this, vnum_small (by omega)] at hx
    simp only [List.mem_singleton] at hx
    omega
  | k + 1, n, h, x, hx => by
    by_cases hn : n ≤ 127
    · rw [vnum_small hn] at hx
      simp only [List.mem_singleton] at hx
      omega
    · rw [vnum_big hn] at hx
      rcases List.mem_cons.1 hx with hx | hx
      · omega
      · refine vnum_byte k (n / 128) ?_ x hx
        rw [Nat.pow_succ] at h
        exact Nat.div_lt_of_lt_mul (by rw [Nat.mul_comm]; exact h)
theorem vnum_len : ∀ (k n : Nat), n < 128 ^ (k + 1) → (vnum n).length ≤ k + 1
  | 0, n, h => by
    rw [vnum_small (by simp at h; omega)]
    simp
  | k + 1, n, h => by
    by_cases hn : n ≤ 127
    · rw [vnum_small hn]
      simp
    · rw [vnum_big hn]
      have := vnum_len k (n / 128) (by
        rw [Nat.pow_succ] at h
        exact Nat.div_lt_of_lt_mul (by rw [Nat.mul_comm]; exact h))
      simp only [List.length_cons]
      omega
/-- The step of the reader: the bits that are new lie above those that are there. -/
theorem or_step {acc k d : Nat} (h : acc < 128 ^ k) : acc ||| (d <<< (7 * k)) = acc + d * 128 ^ k := by
  have e : 128 ^ k = 2 ^ (7 * k) := by rw [Nat.pow_mul]
  rw [e] at h ⊢
  rw [Nat.shiftLeft_eq, Nat.or_comm, Nat.mul_comm d, ← Nat.two_pow_add_eq_or_of_lt h, Nat.add_comm]
/-- What has been read after k bytes, and what is to come. -/
theorem part_step {n k : Nat} : n % 128 ^ k + (n / 128 ^ k % 128) * 128 ^ k = n % 128 ^ (k + 1) := by
  rw [Nat.pow_succ, Nat.mod_mul, Nat.mul_comm (128 ^ k)]
theorem part_last {n k : Nat} : n % 128 ^ k + (n / 128 ^ k) * 128 ^ k = n := by
  rw [Nat.mul_comm]
  exact Nat.mod_add_div n (128 ^ k)
theorem part_next {n k : Nat} : n / 128 ^ k / 128 = n / 128 ^ (k + 1) := by
  rw [Nat.div_div_eq_div_mul, Nat.pow_succ]
/-- The last byte of a number of more than one byte is no nought. -/
theorem part_pos {n k : Nat} (h : ¬ n / 128 ^ k ≤ 127) : 0 < n / 128 ^ (k + 1) := by
  rw [← part_next]
  omega
set_option maxRecDepth 100000 in
/-- byte(n) | 128, for what stays. -/
theorem or_128 (n : Nat) : n % 256 ||| 128 = n % 128 + 128 := by
  have h : ∀ m < 256, m ||| 128 = m % 128 + 128 := by decide
  rw [h _ (Nat.mod_lt _ (by decide))]
  omega
theorem and_127 (n : Nat) : n &&& 127 = n % 128 := Nat.and_two_pow_sub_one_eq_mod n 7
end Go.Proofs.YtgoephcembgmcaaDoor.FrM
namespace Go.Proofs.YtgoephcembgmcaaDoor.Fr
open Go.RowKit Go.Proofs.YtgoephcembgmcaaDoorW.PrintWords Go.Proofs.YtgoephcembgmcaaDoorW.PrintLast Wk FrM Rg
open WkM (w64)
attribute [local go_sem] max2_int min2_int max_two min_two

/-- What an append to v (it left v1) keeps: all blocks that were there, v's own apart. -/
def Grew (w w' : World) (v v' : Value) : Prop := w.heap.size ≤ w'.heap.size ∧ (∀ i, i < w.heap.size → some i ≠ v.ownBlock → w'.heap[i]? = w.heap[i]?) ∧ (v'.ownBlock = v.ownBlock ∨ ∃ b, v'.ownBlock = some b ∧ w.heap.size ≤ b)
theorem Grew.refl (w : World) (v : Value) : Grew w w v v := ⟨Nat.le_refl _, fun _ _ _ => rfl, .inl rfl⟩
theorem Grew.of {w w1 : World} {v v1 : Value} (hg : w.grownBy w1 v.ownBlock) (hat : v1.ownBlock = v.ownBlock ∨ ∃ b, v1.ownBlock = some b ∧ w.heap.size ≤ b) : Grew w w1 v v1 := ⟨hg.size, fun i hi hr => hg.block i hi hr, hat⟩
theorem Grew.trans {w w1 w2 : World} {v v1 v2 : Value} (h : Grew w w1 v v1) (k : Grew w1 w2 v1 v2) : Grew w w2 v v2 := by
  refine ⟨Nat.le_trans h.1 k.1, fun i hi hr => ?_, ?_⟩
  · refine (k.2.1 i (Nat.lt_of_lt_of_le hi h.1) (fun e => ?_)).trans (h.2.1 i hi hr)
    rcases h.2.2 with h3 | ⟨b, h3, h4⟩
    · exact hr (e.trans h3)
    · rw [h3] at e
      injection e with e
      omega
  · rcases k.2.2 with h3 | ⟨b, h3, h4⟩
    · rw [h3]
      exact h.2.2
    · exact .inr ⟨b, h3, Nat.le_trans h.1 h4⟩
theorem Grew.blk {w w1 : World} {v v1 : Value} {g : Nat} {o : Obj} (h : Grew w w1 v v1) (hb : w.heap[g]? = some o) (hne : some g ≠ v.ownBlock) : w1.heap[g]? = some o := (h.2.1 g (blk_lt hb) hne).trans hb
/-! Package code: each function once. -/
theorem or_all : ∀ a : Nat, a < 256 → bits .or .u8 (a : Int) 128 = ((a % 128 + 128 : Nat) : Int) := by decide +kernel
theorem or_u8 (m : Nat) : bits .or .u8 ((m : Int) % 256) 128 = ((m % 128 + 128 : Nat) : Int) := by
  have h := or_all (m % 256) (Nat.mod_lt _ (by decide))
  rw [Nat.mod_mod_of_dvd m (by decide : 128 ∣ 256)] at h
  rw [← h]
  rfl
set_option maxRecDepth 100000 in
theorem num_ok (base : Nat) (v : Value) (xs : List Int) (n : Nat) (w : World) (ho : Own w base v xs) (hbase : base ≤ w.heap.size) (hn : n ≤ 1099511627776) (hx : xs.length ≤ 100000) :
    Calls Tryd.prog 53 #[v, .int .i64 (n : Int)] w fun e w' => ∃ A c, e = .returned (.slice A (xs ++ vnum n).length c) ∧ Own w' base (.slice A (xs ++ vnum n).length c) (xs ++ vnum n) ∧ Below base w w' ∧ Grew w w' v (.slice A (xs ++ vnum n).length c) := by
  have d1 : ¬ 1099511627776 < (n : Int) := by omega
  have d2 : ¬ (n : Int) < 0 := by omega
  have e1 : (if 0 < n then (n : Int) else 0) = (n : Int) := by split <;> omega
  have e2 : (if (0 : Int) < (n : Int) then (n : Int) else 0) = (n : Int) := by split <;> omega
  obtain ⟨A0, c0, rfl⟩ := Kd.R_slice ho
  have HO := hide ho
  have HN : Hid (n < 128 ^ (5 + 1)) := by show _ < _; omega
  clear ho
  go_enter Tryd.func53, Tryd.ntmps53
  go_wp2
  clear e1 e2 d1 d2
  go_loopg [0, 1] 5 (fun kq v0 v1 wr => ∃ (m : Nat) (zs : List Int) (A : Option Addr) (c : Nat), v0 = .slice A zs.length c ∧ v1 = .int .i64 (m : Int) ∧ Hid (m < 128 ^ (kq + 1)) ∧ Hid (xs ++ vnum n = zs ++ vnum m) ∧ Hid (zs.length + kq ≤ xs.length + 5 ∧ kq ≤ 5) ∧ Hid (Own wr base (.slice A zs.length c) zs) ∧ Hid (Below base w wr) ∧ Hid (Grew w wr (.slice A0 xs.length c0) (.slice A zs.length c)))
  case atStart => exact ⟨n, xs, A0, c0, rfl, rfl, unhide HN, rfl, ⟨Nat.le_refl _, Nat.le_refl _⟩, unhide HO, Below.refl _ _, Grew.refl _ _⟩
  case round =>
    obtain ⟨m, zs, A, c, rfl, rfl, HM, HV, HL, HO2, HB, HG⟩ := hrel
    have hm6 : m < 128 ^ 6 := Nat.lt_of_lt_of_le (unhide HM) (Nat.pow_le_pow_right (by decide) (by have := unhide HL; omega))
    have hzl : zs.length ≤ 100005 := by have := unhide HL; omega
    by_cases h : m ≤ 127
    · have d : ¬ 127 < (m : Int) := by omega
      have e : (m : Int) % 256 = (m : Int) := by omega
      go_wp2_with (at_builtin; refine unhide ?_)
      refine hide ?_
      refine Kd.R_append (Kd.int .u8) (w0 := w) base rfl (.tmp 18) (.tmp 21) 22 5 (.int .u8 0) 1 rfl Tryd.underlying22 info5 rfl (by decide) (by decide) (.slice A zs.length c) zs (m : Int) [.int .u8 (m : Int)] (fun _ => True) (fun _ => False) rfl rfl rfl (fun k h => h.elim) (fun _ _ => trivial) (unhide HO2) (unhide HB) (Nat.le_trans hbase (unhide HB).size) (by omega) ?_
      intro v1 w1 hR1 hB1 hg1 hat1
      obtain ⟨A1, c1, rfl⟩ := Kd.R_slice hR1
      have hlen : (zs ++ [(m : Int)]).length = zs.length + 1 := by rw [List.length_append, List.length_singleton]
      have HR := hide hR1
      have HB1 := hide hB1
      have HG1 := hide ((unhide HG).trans (Grew.of hg1 hat1))
      have HLEN := hide hlen
      clear hR1 hB1 hg1 hat1 hlen
      go_wp2
      have hv : xs ++ vnum n = zs ++ [(m : Int)] := by rw [unhide HV, vnum_small h]
      rw [hv]
      go_ret
      exact ⟨A1, c1, by rw [unhide HLEN]; rfl, unhide HR, unhide HB1, unhide HG1⟩
    · have d : 127 < (m : Int) := by omega
      have HGK : Hid (0 < gk) := by
        show 0 < gk
        rcases Nat.eq_zero_or_pos gk with h0 | h0
        · have h1 := unhide HM
          rw [h0] at h1
          omega
        · exact h0
      have hor : bits .or .u8 ((m : Int) % 256) 128 = ((m % 128 + 128 : Nat) : Int) := or_u8 m
      go_wp2_with (at_builtin; refine unhide ?_)
      refine hide ?_
      refine Kd.R_append (Kd.int .u8) (w0 := w) base rfl (.tmp 12) (.tmp 16) 22 5 (.int .u8 0) 1 rfl Tryd.underlying22 info5 rfl (by decide) (by decide) (.slice A zs.length c) zs ((m % 128 + 128 : Nat) : Int) [.int .u8 ((m % 128 + 128 : Nat) : Int)] (fun _ => True) (fun _ => False) rfl rfl rfl (fun k h => h.elim) (fun _ _ => trivial) (unhide HO2) (unhide HB) (Nat.le_trans hbase (unhide HB).size) (by omega) ?_
      intro v1 w1 hR1 hB1 hg1 hat1
      obtain ⟨A1, c1, rfl⟩ := Kd.R_slice hR1
      have hlen : (zs ++ [((m % 128 + 128 : Nat) : Int)]).length = zs.length + 1 := by rw [List.length_append, List.length_singleton]
      have HR := hide hR1
      have HB1 := hide hB1
      have HG1 := hide ((unhide HG).trans (Grew.of hg1 hat1))
      have HLEN := hide hlen
      clear hR1 hB1 hg1 hat1 hlen
      go_wp2
      go_roundg (gk - 1)
      case measure => have := unhide HGK; omega
      case rel =>
        refine ⟨m / 128, zs ++ [((m % 128 + 128 : Nat) : Int)], A1, c1, by rw [unhide HLEN], congrArg _ (by omega), ?_, ?_, ?_, unhide HR, unhide HB1, unhide HG1⟩
        · have h1 := unhide HM
          have h2 := unhide HGK
          show m / 128 < 128 ^ (gk - 1 + 1)
          rw [show gk - 1 + 1 = gk by omega]
          rw [Nat.pow_succ] at h1
          exact Nat.div_lt_of_lt_mul (by rw [Nat.mul_comm]; exact h1)
        · show xs ++ vnum n = (zs ++ [_]) ++ vnum (m / 128)
          rw [unhide HV, vnum_big h, List.append_assoc]
          rfl
        · have h1 := unhide HL
          have h2 := unhide HGK
          show (zs ++ [_]).length + (gk - 1) ≤ xs.length + 5 ∧ gk - 1 ≤ 5
          rw [unhide HLEN]
          omega
end Go.Proofs.YtgoephcembgmcaaDoor.Fr
namespace Go.Proofs.YtgoephcembgmcaaDoor.Fr
open Go.RowKit Go.Proofs.YtgoephcembgmcaaDoorW.PrintWords Go.Proofs.YtgoephcembgmcaaDoorW.PrintLast Wk FrM Rg
attribute [local go_sem] max2_int min2_int max_two min_two

set_option maxRecDepth 100000 in
theorem text_ok (base : Nat) (v : Value) (xs : List Int) (A : Option Addr) (c : Nat) (ys : List Int) (w : World) (ho : Own w base v xs) (hr : ∀ w', Below base w w' → Kd.C (Kd.int .u8) w' A ys.length ys) (hbase : base ≤ w.heap.size) (hc : ys.length ≤ c) (hl : ys.length ≤ 4096) (hx : xs.length ≤ 90000) :
    Calls Tryd.prog 54 #[v, .slice A ys.length c] w fun e w' => ∃ A' c', e = .returned (.slice A' (xs ++ vnum ys.length ++ ys).length c') ∧ Own w' base (.slice A' (xs ++ vnum ys.length ++ ys).length c') (xs ++ vnum ys.length ++ ys) ∧ Below base w w' ∧ Grew w w' v (.slice A' (xs ++ vnum ys.length ++ ys).length c') := by
  obtain ⟨k1, _, _⟩ := take_any A c ys ys.length hc (Nat.le_refl _)
  rw [List.take_length] at k1
  have d1 : ¬ (4096 : Int) < (ys.length : Int) := by omega
  obtain ⟨A0, c0, rfl⟩ := Kd.R_slice ho
  have HO := hide ho
  have HR := hide hr
  have hvl := vnum_len 5 ys.length (by omega)
  have HVL := hide hvl
  clear ho hr hvl
  go_enter Tryd.func54, Tryd.ntmps54
  go_wp2_with fail
  refine (num_ok base (.slice A0 xs.length c0) xs ys.length w (unhide HO) hbase (by omega) (by omega)).mono ?_
  rintro e w1 ⟨A1, c1, rfl, hO1, hB1, hG1⟩
  have HC1 := hide (unhide HR w1 hB1)
  have hlz : (xs ++ vnum ys.length).length ≤ 90006 := by rw [List.length_append]; have := unhide HVL; omega
  obtain ⟨zs, hz⟩ : ∃ zs, xs ++ vnum ys.length = zs := ⟨_, rfl⟩
  rw [hz] at hO1 hlz hG1 ⊢
  have HZ := hide hz
  clear hz
  have HO1 := hide hO1
  have HB1 := hide hB1
  have HG1 := hide hG1
  clear hO1 hB1 hG1 k1
  go_wp2_with (at_builtin; refine unhide ?_)
  refine hide ?_
  refine Kd.R_append_row (w0 := w) (Value.int .u8) (0 : Int) base rfl (.tmp 13) (.tmp 14) 22 5 (.int .u8 0) 1 rfl Tryd.underlying22 info5 rfl (by decide) (.slice A1 zs.length c1) zs ys A _ c (fun _ => True) rfl rfl (fun _ _ => trivial) (unhide HO1) (unhide HC1) (unhide HB1) (Nat.le_trans hbase (unhide HB1).size) (by omega) ?_
  intro v2 w2 hR2 hB2 hg2 hat2
  obtain ⟨A2, c2, rfl⟩ := Kd.R_slice hR2
  have hlen : (zs ++ ys).length = zs.length + ys.length := List.length_append
  have HR2 := hide hR2
  have HB2 := hide hB2
  have HG2 := hide ((unhide HG1).trans (Grew.of hg2 hat2))
  have HLEN := hide hlen
  clear hR2 hB2 hg2 hat2 hlen
  go_wp2
  go_ret
  rw [unhide HZ]
  exact ⟨A2, c2, by rw [unhide HLEN]; rfl, unhide HR2, unhide HB2, unhide HG2⟩

theorem and_31 : ∀ a : Nat, a < 32 → bits .and .u64 (a : Int) 31 = (a : Int) := by decide +kernel
/-- A number that is turned to the left. -/
def rot (x : Int) (k : Nat) : Int := bits .or .u32 (x * 2 ^ k % 4294967296) (x / 2 ^ (32 - k))
theorem rot_any (x : Int) (k : Nat) (w : World) (hk : 0 < k ∧ k < 32) (hx : 0 ≤ x ∧ x < 4294967296) :
    Calls Tryd.prog 109 #[.int .u32 x, .int .i64 (k : Int)] w fun e w' => e = .returned (.int .u32 (rot x k)) ∧ w = w' := by
  have e1 := and_31 k hk.2
  have e2 : (k : Int) < 32 := by omega
  have e3 : (0 : Int) < (k : Int) := by omega
  unfold rot
  go_enter Tryd.func109, Tryd.ntmps109
  go_wp2
  go_ret
  exact ⟨rfl, rfl⟩

/-- A reader lies in block g: its bytes, where it is; nothing has gone wrong. -/
def Rdr (w : World) (g : Nat) (v : Value) (at_ : Int) : Prop := w.heap[g]? = some (.cells #[v, .int .i64 at_, .nilIface] 155 (0, 0))
theorem Rdr.cells {w : World} {g : Nat} {v : Value} {k : Int} (h : Rdr w g v k) :
    (w.cell? ⟨g, 0, none⟩ = some v ∧ w.cell? ⟨g, 1, none⟩ = some (.int .i64 k) ∧ w.cell? ⟨g, 2, none⟩ = some .nilIface) ∧ w.frozen? ⟨g, 1, none⟩ = false ∧ g < w.heap.size :=
  ⟨⟨(blk_cell h 0).trans rfl, (blk_cell h 1).trans rfl, (blk_cell h 2).trans rfl⟩, blk_frozen h 1, blk_lt h⟩
theorem read_any (A : Option Addr) (n c : Nat) (w : World) : Calls Tryd.prog 30 #[.slice A n c] w fun e w' => e = .returned (.pointer (some ⟨w.heap.size, 0, none⟩)) ∧ Rdr w' w.heap.size (.slice A n c) 0 ∧ Below w.heap.size w w' := by
  go_enter Tryd.func30, Tryd.ntmps30
  go_wp2
  go_ret
  exact ⟨rfl, blk_new _ _, below_alloc (Below.refl _ _) _⟩
theorem err_ok (g : Nat) (v : Value) (k : Int) (w : World) (h : Rdr w g v k) : Calls Tryd.prog 35 #[.pointer (some ⟨g, 0, none⟩)] w fun e w' => e = .returned .nilIface ∧ w = w' := by
  have hu := Tryd.underlying155
  obtain ⟨⟨_, _, _⟩, _, _⟩ := h.cells
  clear h
  go_enter Tryd.func35, Tryd.ntmps35
  go_wp2
  go_ret
  exact ⟨rfl, rfl⟩
theorem at_ok (g : Nat) (v : Value) (k : Int) (w : World) (h : Rdr w g v k) : Calls Tryd.prog 32 #[.pointer (some ⟨g, 0, none⟩)] w fun e w' => e = .returned (.int .i64 k) ∧ w = w' := by
  have hu := Tryd.underlying155
  obtain ⟨⟨_, _, _⟩, _, _⟩ := h.cells
  clear h
  go_enter Tryd.func32, Tryd.ntmps32
  go_wp2
  go_ret
  exact ⟨rfl, rfl⟩
theorem check_ok (k s : Int) (A : Option Addr) (n c : Nat) (w : World) (hk : 1 ≤ k ∧ k ≤ 31) (hs : 0 ≤ s ∧ s ≤ 7) (hn : n ≤ 16384) :
    Calls Tryd.prog 57 #[.agg #[.int .i64 k, .int .i64 s, .slice A n c]] w fun e w' => e = .returned (.int .i64 0) ∧ Below w.heap.size w w' := by
  have hu := Tryd.underlying51
  have d1 : ¬ k < 1 := by omega
  have d2 : ¬ 31 < k := by omega
  have d3 : ¬ s < 0 := by omega
  have d4 : ¬ 7 < s := by omega
  have d5 : ¬ 16384 < (n : Int) := by omega
  clear hk hs hn
  go_enter Tryd.func57, Tryd.ntmps57
  go_wp2
  go_ret
  exact ⟨rfl, below_alloc (Below.refl _ _) _⟩
end Go.Proofs.YtgoephcembgmcaaDoor.Fr
namespace Go.Proofs.YtgoephcembgmcaaDoor.Fr
open Go.RowKit Go.Proofs.YtgoephcembgmcaaDoorW.PrintWords Go.Proofs.YtgoephcembgmcaaDoorW.PrintLast Wk FrM Rg
open WkM (w64)
/-- A frame lies in block g. -/
def Frm (w : World) (g : Nat) (k s : Int) (v : Value) : Prop := w.heap[g]? = some (.cells #[.int .i64 k, .int .i64 s, v] 51 (0, 0))
theorem Frm.cells {w : World} {g : Nat} {k s : Int} {v : Value} (h : Frm w g k s v) :
    (w.cell? ⟨g, 0, none⟩ = some (.int .i64 k) ∧ w.cell? ⟨g, 1, none⟩ = some (.int .i64 s) ∧ w.cell? ⟨g, 2, none⟩ = some v) ∧ (w.frozen? ⟨g, 0, none⟩ = false ∧ w.frozen? ⟨g, 1, none⟩ = false ∧ w.frozen? ⟨g, 2, none⟩ = false) ∧ g < w.heap.size :=
  ⟨⟨(blk_cell h 0).trans rfl, (blk_cell h 1).trans rfl, (blk_cell h 2).trans rfl⟩, ⟨blk_frozen h 0, blk_frozen h 1, blk_frozen h 2⟩, blk_lt h⟩
theorem Frm.ne {w : World} {g base : Nat} {k s : Int} {v u : Value} {xs : List Int} (h : Frm w g k s v) (ho : Own w base u xs) : some g ≠ u.ownBlock := Kd.R_ne ho h (by decide)
theorem or_k8 : ∀ k : Nat, k < 32 → bits .or .i64 ((8 * k : Nat) : Int) 0 = ((8 * k : Nat) : Int) := by decide +kernel
def T21_5 : Bool × List (List Nat × List Nat) := (true, [([], []), ([], []), ([1], [1]), ([2], [2]), ([0, 3], [0, 3]), ([], []), ([5], [5]), ([4, 6, 4], [4, 6]), ([7, 7, 0, 1, 2, 3, 4, 5, 6, 7], [7]), ([8, 0, 1, 2, 3, 4, 5, 6, 7, 8], [])])
def BT21_5 : List Nat := [0, 0, 2, 6, 15, 0, 32, 127, 255, 511]
theorem tabT21_5 : rtab .any (opsOf Tryd.f21 5) = T21_5 := by kernel_rfl
theorem bitsT21_5 : waitsOk T21_5.2 BT21_5 = true := by kernel_rfl

set_option maxHeartbeats 2000000 in
set_option maxRecDepth 100000 in
theorem append_ok (base : Nat) (v : Value) (xs : List Int) (A : Option Addr) (c : Nat) (ys : List Int) (k : Nat) (w : World) (hk : 1 ≤ k ∧ k ≤ 31) (ho : Own w base v xs) (hr : ∀ w', Below base w w' → Kd.C (Kd.int .u8) w' A ys.length ys) (hbase : base ≤ w.heap.size) (hc : ys.length ≤ c) (hl : ys.length ≤ 16384) (hx : xs.length ≤ 70000) :
    Calls Tryd.prog 21 #[.agg #[.int .i64 (k : Int), .int .i64 0, .slice A ys.length c], v] w fun e w' => ∃ A' c', e = .returned (.tuple #[.slice A' (xs ++ [((8 * k : Nat) : Int)] ++ vnum ys.length ++ ys).length c', .int .i64 0]) ∧ Own w' base (.slice A' (xs ++ [((8 * k : Nat) : Int)] ++ vnum ys.length ++ ys).length c') (xs ++ [((8 * k : Nat) : Int)] ++ vnum ys.length ++ ys) ∧ Below base w w' ∧ Grew w w' v (.slice A' (xs ++ [((8 * k : Nat) : Int)] ++ vnum ys.length ++ ys).length c') := by
  have hu := Tryd.underlying51
  obtain ⟨A0, c0, rfl⟩ := Kd.R_slice ho
  have HR := hide hr
  have HO0 := hide ho
  have BX : Hid (Frm (w.alloc (.cells #[.int .i64 (k : Int), .int .i64 0, .slice A ys.length c] 51)) w.heap.size (k : Int) 0 (.slice A ys.length c)) := blk_new _ _
  have OX : Hid (Own (w.alloc (.cells #[.int .i64 (k : Int), .int .i64 0, .slice A ys.length c] 51)) base (.slice A0 xs.length c0) xs) := Kd.R_alloc ho _
  have BB : Hid (Below base w (w.alloc (.cells #[.int .i64 (k : Int), .int .i64 0, .slice A ys.length c] 51))) := (below_alloc (Below.refl w.heap.size w) _).mono hbase
  have GG : Hid (Grew w (w.alloc (.cells #[.int .i64 (k : Int), .int .i64 0, .slice A ys.length c] 51)) (.slice A0 xs.length c0) (.slice A0 xs.length c0)) := ⟨(below_alloc (Below.refl w.heap.size w) _).size, fun i hi _ => (below_alloc (Below.refl w.heap.size w) _).block i hi, .inl rfl⟩
  obtain ⟨k8, hk8⟩ : ∃ q : Nat, q = 8 * k := ⟨_, rfl⟩
  have hor : bits .or .i64 (k8 : Int) 0 = (k8 : Int) := by rw [hk8]; exact or_k8 k (by omega)
  have hsh : wrap64 ((k : Int) * 8) = (k8 : Int) := by rw [w64 _ (by omega) (by omega)]; omega
  have hmd : (k8 : Int) % 256 = (k8 : Int) := by omega
  rw [← hk8]
  have HK8 := hide hk8
  have HKK := hide hk
  clear hk8 hk
  clear ho hr
  go_enter Tryd.func21, Tryd.ntmps21
  go_wp2_with fail
  generalize w.alloc (.cells #[.int .i64 (k : Int), .int .i64 0, .slice A ys.length c] 51) = w1 at BX OX BB GG ⊢
  refine (check_ok (k : Int) 0 A ys.length c _ (by have := unhide HKK; omega) (by omega) hl).mono ?_
  rintro e w2 ⟨rfl, hb2⟩
  have BX2 : Hid (Frm w2 w.heap.size (k : Int) 0 (.slice A ys.length c)) := blk_below (unhide BX) hb2
  have OX2 : Hid (Own w2 base (.slice A0 xs.length c0) xs) := Kd.R_below (unhide OX) hb2
  have BB2 : Hid (Below base w w2) := (unhide BB).trans (hb2.mono (Nat.le_trans hbase (unhide GG).1))
  have GG2 : Hid (Grew w w2 (.slice A0 xs.length c0) (.slice A0 xs.length c0)) := (unhide GG).trans ⟨hb2.size, fun i hi _ => hb2.block i hi, .inl rfl⟩
  clear BX OX BB GG hb2
  obtain ⟨⟨f0, f1, f2⟩, ⟨f3, f4, f5⟩, f6⟩ := (unhide BX2).cells
  go_wp2_with (at_builtin; refine unhide ?_)
  refine hide ?_
  refine Kd.R_append (Kd.int .u8) (w0 := w) base rfl (.tmp 12) (.tmp 20) 22 5 (.int .u8 0) 1 rfl Tryd.underlying22 info5 rfl (by decide) (by decide) (.slice A0 xs.length c0) xs (k8 : Int) [.int .u8 (k8 : Int)] (fun _ => True) (fun _ => False) rfl rfl rfl (fun k h => h.elim) (fun _ _ => trivial) (unhide OX2) (unhide BB2) (Nat.le_trans hbase (unhide GG2).1) (by omega) ?_
  intro v3 w3 hR3 hB3 hg3 hat3
  have BX3 : Hid (Frm w3 w.heap.size (k : Int) 0 (.slice A ys.length c)) := blk_grown (unhide BX2) hg3 ((unhide BX2).ne (unhide OX2))
  have GG3 := hide ((unhide GG2).trans (Grew.of hg3 hat3))
  obtain ⟨A3, c3, rfl⟩ := Kd.R_slice hR3
  obtain ⟨x3, hx3⟩ : ∃ z, z = xs ++ [(k8 : Int)] := ⟨_, rfl⟩
  have hl3 : x3.length ≤ 70001 := by rw [hx3, List.length_append, List.length_singleton]; omega
  rw [← hx3] at hR3 GG3 ⊢
  have R3 : Hid (Own w3.drew base (.slice A3 x3.length c3) x3) := Kd.R_drew hR3
  have B3 : Hid (Below base w w3.drew) := below_drew hB3
  have GD3 : Hid (Grew w w3.drew (.slice A0 xs.length c0) (.slice A3 x3.length c3)) := unhide GG3
  have HX3 := hide hx3
  have HL3 := hide hl3
  have HYL := hide hl
  clear hR3 hB3 hg3 hat3 hx3 hl3 f0 f1 f2 f3 f4 f5 f6 BX2 OX2 BB2 GG2 GG3 hor hsh hmd hl hx
  go_wp2
  refine start_ (n := 10) (S := fun w' => Frm w' w.heap.size (k : Int) 0 (.slice A ys.length c)) (ds := []) (bt 10 0) (by kernel_rfl) rfl (by kernel_rfl) (unhide BX3) (fun hHeld => ?_)
  refine with_tabW tabT21_5 bitsT21_5 (fun HT_ HW_ => ?_)
  refine run_ [(0, 22), (1, 23)] ?_
  iterate 2 ((first | refine sp_ (v := ?_) (a' := ?_) HT_.out rfl rfl rfl (by kernel_rfl) (fun _ _ _ h => h) ?_ ?_ ?_ | refine sg_ (v := ?_) (a' := ?_) HT_.out rfl rfl (by kernel_rfl) (fun _ _ _ h => h) (by rfl) ?_ ?_ ?_); rotate_left; (· intro w'; go_simp; with_reducible rfl); rotate_left; (· simp only [Act.put, List.setIfInBounds_toArray, List.set_cons_zero, List.set_cons_succ, i64_w, i32_w]; rfl))
  refine rend_ ?_
  refine take_ (i := 2) (N := some 24) (v := ?_) (a' := ?_) (bt 10 7) rfl rfl (take_ofW HT_.out HW_.out (by kernel_rfl)) (fun _ _ _ h => h) (Or.inl ⟨by rfl, ?_⟩) hHeld ?_ ?_
  rotate_left
  · rintro w' h1_
    obtain ⟨⟨_, _, _⟩, _, _⟩ := h1_.cells
    go_simp
    with_reducible rfl
  rotate_left
  · simp only [Act.put, List.setIfInBounds_toArray, List.set_cons_zero, List.set_cons_succ, i64_w, i32_w]
    rfl
  refine run_ [(3, 25), (5, 27)] ?_
  iterate 2 ((first | refine sp_ (v := ?_) (a' := ?_) HT_.out rfl rfl rfl (by kernel_rfl) (fun _ _ _ h => h) ?_ ?_ ?_ | refine sg_ (v := ?_) (a' := ?_) HT_.out rfl rfl (by kernel_rfl) (fun _ _ _ h => h) (by rfl) ?_ ?_ ?_); rotate_left; (· intro w'; go_simp; with_reducible rfl); rotate_left; (· simp only [Act.put, List.setIfInBounds_toArray, List.set_cons_zero, List.set_cons_succ, i64_w, i32_w]; rfl))
  refine rend_ ?_
  refine take_ (i := 6) (N := some 28) (v := ?_) (a' := ?_) (bt 10 111) rfl rfl (take_ofW HT_.out HW_.out (by kernel_rfl)) (fun _ _ _ h => h) (Or.inl ⟨by rfl, ?_⟩) hHeld ?_ ?_
  rotate_left
  · rintro w' h1_
    obtain ⟨⟨_, _, _⟩, _, _⟩ := h1_.cells
    go_simp
    with_reducible rfl
  rotate_left
  · simp only [Act.put, List.setIfInBounds_toArray, List.set_cons_zero, List.set_cons_succ, i64_w, i32_w]
    rfl
  refine one_ (i := 4) (N := some 26) (bt 10 127) rfl rfl (one_of HT_.out (by kernel_rfl)) (by decide) (fun K hK => ?_)
  refine goes_ Tryd.func53 (by kernel_rfl) rfl #[.slice A3 x3.length c3, .int .i64 (ys.length : Int)] (by rfl) rfl rfl (by (try simp only [List.map_toArray, List.map_cons, List.map_nil]); first | done | rfl) ?_
  refine (num_ok base (.slice A3 x3.length c3) x3 ys.length _ (unhide R3) (Nat.le_trans hbase (unhide GD3).1) (by have := unhide HYL; omega) (by have := unhide HL3; omega)).mono ?_
  rintro e w4 ⟨A4, c4, rfl, hO4, hB4, hG4⟩
  refine ⟨_, rfl, ?_⟩
  have BX4 : Hid (Frm w4 w.heap.size (k : Int) 0 (.slice A ys.length c)) := hG4.blk (show Frm w3.drew w.heap.size (k : Int) 0 _ from unhide BX3) (Frm.ne (show Frm w3.drew w.heap.size (k : Int) 0 _ from unhide BX3) (unhide R3))
  have GG4 := hide ((unhide GD3).trans hG4)
  have B4 := hide ((unhide B3).trans hB4)
  obtain ⟨x4, hx4⟩ : ∃ z, z = x3 ++ vnum ys.length := ⟨_, rfl⟩
  rw [← hx4] at hO4 GG4 ⊢
  have hl4 : x4.length ≤ 70100 := by have := unhide HL3; have := vnum_len 5 ys.length (by have := unhide HYL; omega); rw [hx4, List.length_append]; omega
  have R4 := hide hO4
  have HX4 := hide hx4
  have HL4 := hide hl4
  have C4 := hide ((unhide HR) _ (unhide B4))
  clear hO4 hB4 hG4 hx4 hl4
  clear hHeld
  refine hK.out _ _ (unhide BX4) (fun hHeld => ?_)
  clear hK K
  refine norm_ (a' := ?_) ?_ ?_
  rotate_left
  · show Act.put _ (some 26) _ = _
    simp only [Act.put, List.setIfInBounds_toArray, List.set_cons_zero, List.set_cons_succ, i64_w, i32_w]
    rfl
  refine one_ (i := 7) (N := some 29) (bt 10 255) rfl rfl (one_of HT_.out (by kernel_rfl)) (by decide) (fun K hK => ?_)
  refine Kd.R_append_rows_step (Kd.int .u8) (Rr := (Kd.int .u8).K w4) (w0 := w) base (by rfl) (.tmp 26) (.tmp 28) 22 5 (.int .u8 0) 1 rfl Tryd.underlying22 info5 rfl (by decide) (by decide) (.slice A4 x4.length c4) x4 ys A ys.length c (fun _ => True) (fun _ => False) rfl rfl (unhide R4) (unhide C4) (fun x cs h => h) (fun k h => h.elim) (fun _ _ => trivial) (unhide B4) (Nat.le_trans hbase (unhide GG4).1) (by have := unhide HL4; have := unhide HYL; omega) ?_
  intro v5 w5 hR5 hB5 hg5 hat5
  have BX5 : Hid (Frm w5 w.heap.size (k : Int) 0 (.slice A ys.length c)) := blk_grown (unhide BX4) hg5 ((unhide BX4).ne (unhide R4))
  have GG5 := hide ((unhide GG4).trans (Grew.of hg5 hat5))
  obtain ⟨A5, c5, rfl⟩ := Kd.R_slice hR5
  obtain ⟨x5, hx5⟩ : ∃ z, z = x4 ++ ys := ⟨_, rfl⟩
  rw [← hx5] at hR5 GG5 ⊢
  have R5 := hide hR5
  have B5 := hide hB5
  have HX5 := hide hx5
  clear hR5 hB5 hg5 hat5 hx5
  clear hHeld
  refine hK.out _ _ (unhide BX5) (fun hHeld => ?_)
  clear hK K
  refine norm_ (a' := ?_) ?_ ?_
  rotate_left
  · show Act.put _ (some 29) _ = _
    simp only [Act.put, List.setIfInBounds_toArray, List.set_cons_zero, List.set_cons_succ, i64_w, i32_w]
    rfl
  refine run_ [(8, 4), (9, 5)] ?_
  iterate 2 ((first | refine sp_ (v := ?_) (a' := ?_) HT_.out rfl rfl rfl (by kernel_rfl) (fun _ _ _ h => h) ?_ ?_ ?_ | refine sg_ (v := ?_) (a' := ?_) HT_.out rfl rfl (by kernel_rfl) (fun _ _ _ h => h) (by rfl) ?_ ?_ ?_); rotate_left; (· intro w'; go_simp; with_reducible rfl); rotate_left; (· simp only [Act.put, List.setIfInBounds_toArray, List.set_cons_zero, List.set_cons_succ, i64_w, i32_w]; rfl))
  refine rend_ ?_
  refine done_ (done_of HT_.out (by kernel_rfl)) ?_
  clear HT_ HW_ hHeld
  go_wp2
  have he : x5 = xs ++ [(k8 : Int)] ++ vnum ys.length ++ ys := by rw [unhide HX5, unhide HX4, unhide HX3]
  rw [← he]
  refine bodyPost_ret (v := .tuple #[.slice A5 x5.length c5, .int .i64 0]) (by simp [results, Tryd.results21, go_sem]) rfl ⟨A5, c5, rfl, unhide R5, unhide B5, unhide GG5⟩
end Go.Proofs.YtgoephcembgmcaaDoor.Fr
namespace Go.Proofs.YtgoephcembgmcaaDoor.Fr
open Go.RowKit Go.Proofs.YtgoephcembgmcaaDoorW.PrintWords Go.Proofs.YtgoephcembgmcaaDoorW.PrintLast Wk FrM Rg
open WkM (w64)
set_option maxHeartbeats 2000000 in
set_option maxRecDepth 100000 in
theorem append_ok2 (base : Nat) (v : Value) (xs : List Int) (A : Option Addr) (c : Nat) (ys : List Int) (k : Nat) (w : World) (hk : 1 ≤ k ∧ k ≤ 31) (ho : Own w base v xs) (hr : ∀ w' v', Below base w w' → Grew w w' v v' → Kd.C (Kd.int .u8) w' A ys.length ys) (hbase : base ≤ w.heap.size) (hc : ys.length ≤ c) (hl : ys.length ≤ 16384) (hx : xs.length ≤ 70000) :
    Calls Tryd.prog 21 #[.agg #[.int .i64 (k : Int), .int .i64 0, .slice A ys.length c], v] w fun e w' => ∃ A' c', e = .returned (.tuple #[.slice A' (xs ++ [((8 * k : Nat) : Int)] ++ vnum ys.length ++ ys).length c', .int .i64 0]) ∧ Own w' base (.slice A' (xs ++ [((8 * k : Nat) : Int)] ++ vnum ys.length ++ ys).length c') (xs ++ [((8 * k : Nat) : Int)] ++ vnum ys.length ++ ys) ∧ Below base w w' ∧ Grew w w' v (.slice A' (xs ++ [((8 * k : Nat) : Int)] ++ vnum ys.length ++ ys).length c') := by
  have hu := Tryd.underlying51
  obtain ⟨A0, c0, rfl⟩ := Kd.R_slice ho
  have HR := hide hr
  have HO0 := hide ho
  have BX : Hid (Frm (w.alloc (.cells #[.int .i64 (k : Int), .int .i64 0, .slice A ys.length c] 51)) w.heap.size (k : Int) 0 (.slice A ys.length c)) := blk_new _ _
  have OX : Hid (Own (w.alloc (.cells #[.int .i64 (k : Int), .int .i64 0, .slice A ys.length c] 51)) base (.slice A0 xs.length c0) xs) := Kd.R_alloc ho _
  have BB : Hid (Below base w (w.alloc (.cells #[.int .i64 (k : Int), .int .i64 0, .slice A ys.length c] 51))) := (below_alloc (Below.refl w.heap.size w) _).mono hbase
  have GG : Hid (Grew w (w.alloc (.cells #[.int .i64 (k : Int), .int .i64 0, .slice A ys.length c] 51)) (.slice A0 xs.length c0) (.slice A0 xs.length c0)) := ⟨(below_alloc (Below.refl w.heap.size w) _).size, fun i hi _ => (below_alloc (Below.refl w.heap.size w) _).block i hi, .inl rfl⟩
  obtain ⟨k8, hk8⟩ : ∃ q : Nat, q = 8 * k := ⟨_, rfl⟩
  have hor : bits .or .i64 (k8 : Int) 0 = (k8 : Int) := by rw [hk8]; exact or_k8 k (by omega)
  have hsh : wrap64 ((k : Int) * 8) = (k8 : Int) := by rw [w64 _ (by omega) (by omega)]; omega
  have hmd : (k8 : Int) % 256 = (k8 : Int) := by omega
  rw [← hk8]
  have HK8 := hide hk8
  have HKK := hide hk
  clear hk8 hk
  clear ho hr
  go_enter Tryd.func21, Tryd.ntmps21
  go_wp2_with fail
  generalize w.alloc (.cells #[.int .i64 (k : Int), .int .i64 0, .slice A ys.length c] 51) = w1 at BX OX BB GG ⊢
  refine (check_ok (k : Int) 0 A ys.length c _ (by have := unhide HKK; omega) (by omega) hl).mono ?_
  rintro e w2 ⟨rfl, hb2⟩
  have BX2 : Hid (Frm w2 w.heap.size (k : Int) 0 (.slice A ys.length c)) := blk_below (unhide BX) hb2
  have OX2 : Hid (Own w2 base (.slice A0 xs.length c0) xs) := Kd.R_below (unhide OX) hb2
  have BB2 : Hid (Below base w w2) := (unhide BB).trans (hb2.mono (Nat.le_trans hbase (unhide GG).1))
  have GG2 : Hid (Grew w w2 (.slice A0 xs.length c0) (.slice A0 xs.length c0)) := (unhide GG).trans ⟨hb2.size, fun i hi _ => hb2.block i hi, .inl rfl⟩
  clear BX OX BB GG hb2
  obtain ⟨⟨f0, f1, f2⟩, ⟨f3, f4, f5⟩, f6⟩ := (unhide BX2).cells
  go_wp2_with (at_builtin; refine unhide ?_)
  refine hide ?_
  refine Kd.R_append (Kd.int .u8) (w0 := w) base rfl (.tmp 12) (.tmp 20) 22 5 (.int .u8 0) 1 rfl Tryd.underlying22 info5 rfl (by decide) (by decide) (.slice A0 xs.length c0) xs (k8 : Int) [.int .u8 (k8 : Int)] (fun _ => True) (fun _ => False) rfl rfl rfl (fun k h => h.elim) (fun _ _ => trivial) (unhide OX2) (unhide BB2) (Nat.le_trans hbase (unhide GG2).1) (by omega) ?_
  intro v3 w3 hR3 hB3 hg3 hat3
  have BX3 : Hid (Frm w3 w.heap.size (k : Int) 0 (.slice A ys.length c)) := blk_grown (unhide BX2) hg3 ((unhide BX2).ne (unhide OX2))
  have GG3 := hide ((unhide GG2).trans (Grew.of hg3 hat3))
  obtain ⟨A3, c3, rfl⟩ := Kd.R_slice hR3
  obtain ⟨x3, hx3⟩ : ∃ z, z = xs ++ [(k8 : Int)] := ⟨_, rfl⟩
  have hl3 : x3.length ≤ 70001 := by rw [hx3, List.length_append, List.length_singleton]; omega
  rw [← hx3] at hR3 GG3 ⊢
  have R3 : Hid (Own w3.drew base (.slice A3 x3.length c3) x3) := Kd.R_drew hR3
  have B3 : Hid (Below base w w3.drew) := below_drew hB3
  have GD3 : Hid (Grew w w3.drew (.slice A0 xs.length c0) (.slice A3 x3.length c3)) := unhide GG3
  have HX3 := hide hx3
  have HL3 := hide hl3
  have HYL := hide hl
  clear hR3 hB3 hg3 hat3 hx3 hl3 f0 f1 f2 f3 f4 f5 f6 BX2 OX2 BB2 GG2 GG3 hor hsh hmd hl hx
  go_wp2
  refine start_ (n := 10) (S := fun w' => Frm w' w.heap.size (k : Int) 0 (.slice A ys.length c)) (ds := []) (bt 10 0) (by kernel_rfl) rfl (by kernel_rfl) (unhide BX3) (fun hHeld => ?_)
  refine with_tabW tabT21_5 bitsT21_5 (fun HT_ HW_ => ?_)
  refine run_ [(0, 22), (1, 23)] ?_
  iterate 2 ((first | refine sp_ (v := ?_) (a' := ?_) HT_.out rfl rfl rfl (by kernel_rfl) (fun _ _ _ h => h) ?_ ?_ ?_ | refine sg_ (v := ?_) (a' := ?_) HT_.out rfl rfl (by kernel_rfl) (fun _ _ _ h => h) (by rfl) ?_ ?_ ?_); rotate_left; (· intro w'; go_simp; with_reducible rfl); rotate_left; (· simp only [Act.put, List.setIfInBounds_toArray, List.set_cons_zero, List.set_cons_succ, i64_w, i32_w]; rfl))
  refine rend_ ?_
  refine take_ (i := 2) (N := some 24) (v := ?_) (a' := ?_) (bt 10 7) rfl rfl (take_ofW HT_.out HW_.out (by kernel_rfl)) (fun _ _ _ h => h) (Or.inl ⟨by rfl, ?_⟩) hHeld ?_ ?_
  rotate_left
  · rintro w' h1_
    obtain ⟨⟨_, _, _⟩, _, _⟩ := h1_.cells
    go_simp
    with_reducible rfl
  rotate_left
  · simp only [Act.put, List.setIfInBounds_toArray, List.set_cons_zero, List.set_cons_succ, i64_w, i32_w]
    rfl
  refine run_ [(3, 25), (5, 27)] ?_
  iterate 2 ((first | refine sp_ (v := ?_) (a' := ?_) HT_.out rfl rfl rfl (by kernel_rfl) (fun _ _ _ h => h) ?_ ?_ ?_ | refine sg_ (v := ?_) (a' := ?_) HT_.out rfl rfl (by kernel_rfl) (fun _ _ _ h => h) (by rfl) ?_ ?_ ?_); rotate_left; (· intro w'; go_simp; with_reducible rfl); rotate_left; (· simp only [Act.put, List.setIfInBounds_toArray, List.set_cons_zero, List.set_cons_succ, i64_w, i32_w]; rfl))
  refine rend_ ?_
  refine take_ (i := 6) (N := some 28) (v := ?_) (a' := ?_) (bt 10 111) rfl rfl (take_ofW HT_.out HW_.out (by kernel_rfl)) (fun _ _ _ h => h) (Or.inl ⟨by rfl, ?_⟩) hHeld ?_ ?_
  rotate_left
  · rintro w' h1_
    obtain ⟨⟨_, _, _⟩, _, _⟩ := h1_.cells
    go_simp
    with_reducible rfl
  rotate_left
  · simp only [Act.put, List.setIfInBounds_toArray, List.set_cons_zero, List.set_cons_succ, i64_w, i32_w]
    rfl
  refine one_ (i := 4) (N := some 26) (bt 10 127) rfl rfl (one_of HT_.out (by kernel_rfl)) (by decide) (fun K hK => ?_)
  refine goes_ Tryd.func53 (by kernel_rfl) rfl #[.slice A3 x3.length c3, .int .i64 (ys.length : Int)] (by rfl) rfl rfl (by (try simp only [List.map_toArray, List.map_cons, List.map_nil]); first | done | rfl) ?_
  refine (num_ok base (.slice A3 x3.length c3) x3 ys.length _ (unhide R3) (Nat.le_trans hbase (unhide GD3).1) (by have := unhide HYL; omega) (by have := unhide HL3; omega)).mono ?_
  rintro e w4 ⟨A4, c4, rfl, hO4, hB4, hG4⟩
  refine ⟨_, rfl, ?_⟩
  have BX4 : Hid (Frm w4 w.heap.size (k : Int) 0 (.slice A ys.length c)) := hG4.blk (show Frm w3.drew w.heap.size (k : Int) 0 _ from unhide BX3) (Frm.ne (show Frm w3.drew w.heap.size (k : Int) 0 _ from unhide BX3) (unhide R3))
  have GG4 := hide ((unhide GD3).trans hG4)
  have B4 := hide ((unhide B3).trans hB4)
  obtain ⟨x4, hx4⟩ : ∃ z, z = x3 ++ vnum ys.length := ⟨_, rfl⟩
  rw [← hx4] at hO4 GG4 ⊢
  have hl4 : x4.length ≤ 70100 := by have := unhide HL3; have := vnum_len 5 ys.length (by have := unhide HYL; omega); rw [hx4, List.length_append]; omega
  have R4 := hide hO4
  have HX4 := hide hx4
  have HL4 := hide hl4
  have C4 := hide ((unhide HR) _ _ (unhide B4) (unhide GG4))
  clear hO4 hB4 hG4 hx4 hl4
  clear hHeld
  refine hK.out _ _ (unhide BX4) (fun hHeld => ?_)
  clear hK K
  refine norm_ (a' := ?_) ?_ ?_
  rotate_left
  · show Act.put _ (some 26) _ = _
    simp only [Act.put, List.setIfInBounds_toArray, List.set_cons_zero, List.set_cons_succ, i64_w, i32_w]
    rfl
  refine one_ (i := 7) (N := some 29) (bt 10 255) rfl rfl (one_of HT_.out (by kernel_rfl)) (by decide) (fun K hK => ?_)
  refine Kd.R_append_rows_step (Kd.int .u8) (Rr := (Kd.int .u8).K w4) (w0 := w) base (by rfl) (.tmp 26) (.tmp 28) 22 5 (.int .u8 0) 1 rfl Tryd.underlying22 info5 rfl (by decide) (by decide) (.slice A4 x4.length c4) x4 ys A ys.length c (fun _ => True) (fun _ => False) rfl rfl (unhide R4) (unhide C4) (fun x cs h => h) (fun k h => h.elim) (fun _ _ => trivial) (unhide B4) (Nat.le_trans hbase (unhide GG4).1) (by have := unhide HL4; have := unhide HYL; omega) ?_
  intro v5 w5 hR5 hB5 hg5 hat5
  have BX5 : Hid (Frm w5 w.heap.size (k : Int) 0 (.slice A ys.length c)) := blk_grown (unhide BX4) hg5 ((unhide BX4).ne (unhide R4))
  have GG5 := hide ((unhide GG4).trans (Grew.of hg5 hat5))
  obtain ⟨A5, c5, rfl⟩ := Kd.R_slice hR5
  obtain ⟨x5, hx5⟩ : ∃ z, z = x4 ++ ys := ⟨_, rfl⟩
  rw [← hx5] at hR5 GG5 ⊢
  have R5 := hide hR5
  have B5 := hide hB5
  have HX5 := hide hx5
  clear hR5 hB5 hg5 hat5 hx5
  clear hHeld
  refine hK.out _ _ (unhide BX5) (fun hHeld => ?_)
  clear hK K
  refine norm_ (a' := ?_) ?_ ?_
  rotate_left
  · show Act.put _ (some 29) _ = _
    simp only [Act.put, List.setIfInBounds_toArray, List.set_cons_zero, List.set_cons_succ, i64_w, i32_w]
    rfl
  refine run_ [(8, 4), (9, 5)] ?_
  iterate 2 ((first | refine sp_ (v := ?_) (a' := ?_) HT_.out rfl rfl rfl (by kernel_rfl) (fun _ _ _ h => h) ?_ ?_ ?_ | refine sg_ (v := ?_) (a' := ?_) HT_.out rfl rfl (by kernel_rfl) (fun _ _ _ h => h) (by rfl) ?_ ?_ ?_); rotate_left; (· intro w'; go_simp; with_reducible rfl); rotate_left; (· simp only [Act.put, List.setIfInBounds_toArray, List.set_cons_zero, List.set_cons_succ, i64_w, i32_w]; rfl))
  refine rend_ ?_
  refine done_ (done_of HT_.out (by kernel_rfl)) ?_
  clear HT_ HW_ hHeld
  go_wp2
  have he : x5 = xs ++ [(k8 : Int)] ++ vnum ys.length ++ ys := by rw [unhide HX5, unhide HX4, unhide HX3]
  rw [← he]
  refine bodyPost_ret (v := .tuple #[.slice A5 x5.length c5, .int .i64 0]) (by simp [results, Tryd.results21, go_sem]) rfl ⟨A5, c5, rfl, unhide R5, unhide B5, unhide GG5⟩
end Go.Proofs.YtgoephcembgmcaaDoor.Fr
namespace Go.Proofs.YtgoephcembgmcaaDoor.Wd
open Go.RowKit Rg
theorem shape_11 (w : World) : Calls Tryd.prog 29 #[.int .i64 11] w fun e w' => e = .returned (.tuple #[.string { data := #[] }, .bool true]) ∧ w' = w := by
  go_enter Tryd.func29, Tryd.ntmps29
  go_wp2
  refine bodyPost_ret (v := .tuple #[.string { data := #[] }, .bool true]) (by simp [results, Tryd.results29, go_sem]) rfl ⟨rfl, rfl⟩
theorem shape_14 (w : World) : Calls Tryd.prog 29 #[.int .i64 14] w fun e w' => e = .returned (.tuple #[.string { data := #[110, 98] }, .bool true]) ∧ w' = w := by
  go_enter Tryd.func29, Tryd.ntmps29
  go_wp2
  refine bodyPost_ret (v := .tuple #[.string { data := #[110, 98] }, .bool true]) (by simp [results, Tryd.results29, go_sem]) rfl ⟨rfl, rfl⟩
theorem shape_4 (w : World) : Calls Tryd.prog 29 #[.int .i64 4] w fun e w' => e = .returned (.tuple #[.string { data := #[110, 102] }, .bool true]) ∧ w' = w := by
  go_enter Tryd.func29, Tryd.ntmps29
  go_wp2
  refine bodyPost_ret (v := .tuple #[.string { data := #[110, 102] }, .bool true]) (by simp [results, Tryd.results29, go_sem]) rfl ⟨rfl, rfl⟩
theorem shape_5 (w : World) : Calls Tryd.prog 29 #[.int .i64 5] w fun e w' => e = .returned (.tuple #[.string { data := #[110, 100] }, .bool true]) ∧ w' = w := by
  go_enter Tryd.func29, Tryd.ntmps29
  go_wp2
  refine bodyPost_ret (v := .tuple #[.string { data := #[110, 100] }, .bool true]) (by simp [results, Tryd.results29, go_sem]) rfl ⟨rfl, rfl⟩
theorem shape_7 (w : World) : Calls Tryd.prog 29 #[.int .i64 7] w fun e w' => e = .returned (.tuple #[.string { data := #[116] }, .bool true]) ∧ w' = w := by
  go_enter Tryd.func29, Tryd.ntmps29
  go_wp2
  refine bodyPost_ret (v := .tuple #[.string { data := #[116] }, .bool true]) (by simp [results, Tryd.results29, go_sem]) rfl ⟨rfl, rfl⟩
theorem shape_3 (w : World) : Calls Tryd.prog 29 #[.int .i64 3] w fun e w' => e = .returned (.tuple #[.string { data := #[112] }, .bool true]) ∧ w' = w := by
  go_enter Tryd.func29, Tryd.ntmps29
  go_wp2
  refine bodyPost_ret (v := .tuple #[.string { data := #[112] }, .bool true]) (by simp [results, Tryd.results29, go_sem]) rfl ⟨rfl, rfl⟩
theorem has_11_n (w : World) : Calls Tryd.prog 89 #[.string { data := #[] }, .int .u8 110] w fun e w' => e = .returned (.bool false) ∧ w' = w := by
  go_enter Tryd.func89, Tryd.ntmps89
  go_wp2
  refine wp_loop_rounds 1 ?_
  rw [rounds_succ]
  go_wp2
  go_ret
  exact ⟨rfl, rfl⟩
theorem has_11_t (w : World) : Calls Tryd.prog 89 #[.string { data := #[] }, .int .u8 116] w fun e w' => e = .returned (.bool false) ∧ w' = w := by
  go_enter Tryd.func89, Tryd.ntmps89
  go_wp2
  refine wp_loop_rounds 1 ?_
  rw [rounds_succ]
  go_wp2
  go_ret
  exact ⟨rfl, rfl⟩
theorem has_11_p (w : World) : Calls Tryd.prog 89 #[.string { data := #[] }, .int .u8 112] w fun e w' => e = .returned (.bool false) ∧ w' = w := by
  go_enter Tryd.func89, Tryd.ntmps89
  go_wp2
  refine wp_loop_rounds 1 ?_
  rw [rounds_succ]
  go_wp2
  go_ret
  exact ⟨rfl, rfl⟩
theorem has_11_s (w : World) : Calls Tryd.prog 89 #[.string { data := #[] }, .int .u8 115] w fun e w' => e = .returned (.bool false) ∧ w' = w := by
  go_enter Tryd.func89, Tryd.ntmps89
  go_wp2
  refine wp_loop_rounds 1 ?_
  rw [rounds_succ]
  go_wp2
  go_ret
  exact ⟨rfl, rfl⟩
theorem has_11_c (w : World) : Calls Tryd.prog 89 #[.string { data := #[] }, .int .u8 99] w fun e w' => e = .returned (.bool false) ∧ w' = w := by
  go_enter Tryd.func89, Tryd.ntmps89
  go_wp2
  refine wp_loop_rounds 1 ?_
  rw [rounds_succ]
  go_wp2
  go_ret
  exact ⟨rfl, rfl⟩
theorem has_11_d (w : World) : Calls Tryd.prog 89 #[.string { data := #[] }, .int .u8 100] w fun e w' => e = .returned (.bool false) ∧ w' = w := by
  go_enter Tryd.func89, Tryd.ntmps89
  go_wp2
  refine wp_loop_rounds 1 ?_
  rw [rounds_succ]
  go_wp2
  go_ret
  exact ⟨rfl, rfl⟩
theorem has_11_b (w : World) : Calls Tryd.prog 89 #[.string { data := #[] }, .int .u8 98] w fun e w' => e = .returned (.bool false) ∧ w' = w := by
  go_enter Tryd.func89, Tryd.ntmps89
  go_wp2
  refine wp_loop_rounds 1 ?_
  rw [rounds_succ]
  go_wp2
  go_ret
  exact ⟨rfl, rfl⟩
theorem has_11_f (w : World) : Calls Tryd.prog 89 #[.string { data := #[] }, .int .u8 102] w fun e w' => e = .returned (.bool false) ∧ w' = w := by
  go_enter Tryd.func89, Tryd.ntmps89
  go_wp2
  refine wp_loop_rounds 1 ?_
  rw [rounds_succ]
  go_wp2
  go_ret
  exact ⟨rfl, rfl⟩
theorem has_14_n (w : World) : Calls Tryd.prog 89 #[.string { data := #[110, 98] }, .int .u8 110] w fun e w' => e = .returned (.bool true) ∧ w' = w := by
  go_enter Tryd.func89, Tryd.ntmps89
  go_wp2
  refine wp_loop_rounds 1 ?_
  rw [rounds_succ]
  go_wp2
  go_ret
  exact ⟨rfl, rfl⟩
theorem has_14_t (w : World) : Calls Tryd.prog 89 #[.string { data := #[110, 98] }, .int .u8 116] w fun e w' => e = .returned (.bool false) ∧ w' = w := by
  go_enter Tryd.func89, Tryd.ntmps89
  go_wp2
  refine wp_loop_rounds 3 ?_
  rw [rounds_succ]
  go_wp2
  rw [rounds_succ]
  go_wp2
  rw [rounds_succ]
  go_wp2
  go_ret
  exact ⟨rfl, rfl⟩
theorem has_14_p (w : World) : Calls Tryd.prog 89 #[.string { data := #[110, 98] }, .int .u8 112] w fun e w' => e = .returned (.bool false) ∧ w' = w := by
  go_enter Tryd.func89, Tryd.ntmps89
  go_wp2
  refine wp_loop_rounds 3 ?_
  rw [rounds_succ]
  go_wp2
  rw [rounds_succ]
  go_wp2
  rw [rounds_succ]
  go_wp2
  go_ret
  exact ⟨rfl, rfl⟩
theorem has_14_s (w : World) : Calls Tryd.prog 89 #[.string { data := #[110, 98] }, .int .u8 115] w fun e w' => e = .returned (.bool false) ∧ w' = w := by
  go_enter Tryd.func89, Tryd.ntmps89
  go_wp2
  refine wp_loop_rounds 3 ?_
  rw [rounds_succ]
  go_wp2
  rw [rounds_succ]
  go_wp2
  rw [rounds_succ]
  go_wp2
  go_ret
  exact ⟨rfl, rfl⟩
theorem has_14_c (w : World) : Calls Tryd.prog 89 #[.string { data := #[110, 98] }, .int .u8 99] w fun e w' => e = .returned (.bool false) ∧ w' = w := by
  go_enter Tryd.func89, Tryd.ntmps89
  go_wp2
  refine wp_loop_rounds 3 ?_
  rw [rounds_succ]
  go_wp2
  rw [rounds_succ]
  go_wp2
  rw [rounds_succ]
  go_wp2
  go_ret
  exact ⟨rfl, rfl⟩
theorem has_14_d (w : World) : Calls Tryd.prog 89 #[.string { data := #[110, 98] }, .int .u8 100] w fun e w' => e = .returned (.bool false) ∧ w' = w := by
  go_enter Tryd.func89, Tryd.ntmps89
  go_wp2
  refine wp_loop_rounds 3 ?_
  rw [rounds_succ]
  go_wp2
  rw [rounds_succ]
  go_wp2
  rw [rounds_succ]
  go_wp2
  go_ret
  exact ⟨rfl, rfl⟩
theorem has_14_b (w : World) : Calls Tryd.prog 89 #[.string { data := #[110, 98] }, .int .u8 98] w fun e w' => e = .returned (.bool true) ∧ w' = w := by
  go_enter Tryd.func89, Tryd.ntmps89
  go_wp2
  refine wp_loop_rounds 2 ?_
  rw [rounds_succ]
  go_wp2
  rw [rounds_succ]
  go_wp2
  go_ret
  exact ⟨rfl, rfl⟩
theorem has_14_f (w : World) : Calls Tryd.prog 89 #[.string { data := #[110, 98] }, .int .u8 102] w fun e w' => e = .returned (.bool false) ∧ w' = w := by
  go_enter Tryd.func89, Tryd.ntmps89
  go_wp2
  refine wp_loop_rounds 3 ?_
  rw [rounds_succ]
  go_wp2
  rw [rounds_succ]
  go_wp2
  rw [rounds_succ]
  go_wp2
  go_ret
  exact ⟨rfl, rfl⟩
theorem has_4_n (w : World) : Calls Tryd.prog 89 #[.string { data := #[110, 102] }, .int .u8 110] w fun e w' => e = .returned (.bool true) ∧ w' = w := by
  go_enter Tryd.func89, Tryd.ntmps89
  go_wp2
  refine wp_loop_rounds 1 ?_
  rw [rounds_succ]
  go_wp2
  go_ret
  exact ⟨rfl, rfl⟩
theorem has_4_t (w : World) : Calls Tryd.prog 89 #[.string { data := #[110, 102] }, .int .u8 116] w fun e w' => e = .returned (.bool false) ∧ w' = w := by
  go_enter Tryd.func89, Tryd.ntmps89
  go_wp2
  refine wp_loop_rounds 3 ?_
  rw [rounds_succ]
  go_wp2
  rw [rounds_succ]
  go_wp2
  rw [rounds_succ]
  go_wp2
  go_ret
  exact ⟨rfl, rfl⟩
theorem has_4_p (w : World) : Calls Tryd.prog 89 #[.string { data := #[110, 102] }, .int .u8 112] w fun e w' => e = .returned (.bool false) ∧ w' = w := by
  go_enter Tryd.func89, Tryd.ntmps89
  go_wp2
  refine wp_loop_rounds 3 ?_
  rw [rounds_succ]
  go_wp2
  rw [rounds_succ]
  go_wp2
  rw [rounds_succ]
  go_wp2
  go_ret
  exact ⟨rfl, rfl⟩
theorem has_4_s (w : World) : Calls Tryd.prog 89 #[.string { data := #[110, 102] }, .int .u8 115] w fun e w' => e = .returned (.bool false) ∧ w' = w := by
  go_enter Tryd.func89, Tryd.ntmps89
  go_wp2
  refine wp_loop_rounds 3 ?_
  rw [rounds_succ]
  go_wp2
  rw [rounds_succ]
  go_wp2
  rw [rounds_succ]
  go_wp2
  go_ret
  exact ⟨rfl, rfl⟩
theorem has_4_c (w : World) : Calls Tryd.prog 89 #[.string { data := #[110, 102] }, .int .u8 99] w fun e w' => e = .returned (.bool false) ∧ w' = w := by
  go_enter Tryd.func89, Tryd.ntmps89
  go_wp2
  refine wp_loop_rounds 3 ?_
  rw [rounds_succ]
  go_wp2
  rw [rounds_succ]
  go_wp2
  rw [rounds_succ]
  go_wp2
  go_ret
  exact ⟨rfl, rfl⟩
theorem has_4_d (w : World) : Calls Tryd.prog 89 #[.string { data := #[110, 102] }, .int .u8 100] w fun e w' => e = .returned (.bool false) ∧ w' = w := by
  go_enter Tryd.func89, Tryd.ntmps89
  go_wp2
  refine wp_loop_rounds 3 ?_
  rw [rounds_succ]
  go_wp2
  rw [rounds_succ]
  go_wp2
  rw [rounds_succ]
  go_wp2
  go_ret
  exact ⟨rfl, rfl⟩
theorem has_4_b (w : World) : Calls Tryd.prog 89 #[.string { data := #[110, 102] }, .int .u8 98] w fun e w' => e = .returned (.bool false) ∧ w' = w := by
  go_enter Tryd.func89, Tryd.ntmps89
  go_wp2
  refine wp_loop_rounds 3 ?_
  rw [rounds_succ]
  go_wp2
  rw [rounds_succ]
  go_wp2
  rw [rounds_succ]
  go_wp2
  go_ret
  exact ⟨rfl, rfl⟩
theorem has_4_f (w : World) : Calls Tryd.prog 89 #[.string { data := #[110, 102] }, .int .u8 102] w fun e w' => e = .returned (.bool true) ∧ w' = w := by
  go_enter Tryd.func89, Tryd.ntmps89
  go_wp2
  refine wp_loop_rounds 2 ?_
  rw [rounds_succ]
  go_wp2
  rw [rounds_succ]
  go_wp2
  go_ret
  exact ⟨rfl, rfl⟩
theorem has_5_n (w : World) : Calls Tryd.prog 89 #[.string { data := #[110, 100] }, .int .u8 110] w fun e w' => e = .returned (.bool true) ∧ w' = w := by
  go_enter Tryd.func89, Tryd.ntmps89
  go_wp2
  refine wp_loop_rounds 1 ?_
  rw [rounds_succ]
  go_wp2
  go_ret
  exact ⟨rfl, rfl⟩
theorem has_5_t (w : World) : Calls Tryd.prog 89 #[.string { data := #[110, 100] }, .int .u8 116] w fun e w' => e = .returned (.bool false) ∧ w' = w := by
  go_enter Tryd.func89, Tryd.ntmps89
  go_wp2
  refine wp_loop_rounds 3 ?_
  rw [rounds_succ]
  go_wp2
  rw [rounds_succ]
  go_wp2
  rw [rounds_succ]
  go_wp2
  go_ret
  exact ⟨rfl, rfl⟩
theorem has_5_p (w : World) : Calls Tryd.prog 89 #[.string { data := #[110, 100] }, .int .u8 112] w fun e w' => e = .returned (.bool false) ∧ w' = w := by
  go_enter Tryd.func89, Tryd.ntmps89
  go_wp2
  refine wp_loop_rounds 3 ?_
  rw [rounds_succ]
  go_wp2
  rw [rounds_succ]
  go_wp2
  rw [rounds_succ]
  go_wp2
  go_ret
  exact ⟨rfl, rfl⟩
theorem has_5_s (w : World) : Calls Tryd.prog 89 #[.string { data := #[110, 100] }, .int .u8 115] w fun e w' => e = .returned (.bool false) ∧ w' = w := by
  go_enter Tryd.func89, Tryd.ntmps89
  go_wp2
  refine wp_loop_rounds 3 ?_
  rw [rounds_succ]
  go_wp2
  rw [rounds_succ]
  go_wp2
  rw [rounds_succ]
  go_wp2
  go_ret
  exact ⟨rfl, rfl⟩
theorem has_5_c (w : World) : Calls Tryd.prog 89 #[.string { data := #[110, 100] }, .int .u8 99] w fun e w' => e = .returned (.bool false) ∧ w' = w := by
  go_enter Tryd.func89, Tryd.ntmps89
  go_wp2
  refine wp_loop_rounds 3 ?_
  rw [rounds_succ]
  go_wp2
  rw [rounds_succ]
  go_wp2
  rw [rounds_succ]
  go_wp2
  go_ret
  exact ⟨rfl, rfl⟩
theorem has_5_d (w : World) : Calls Tryd.prog 89 #[.string { data := #[110, 100] }, .int .u8 100] w fun e w' => e = .returned (.bool true) ∧ w' = w := by
  go_enter Tryd.func89, Tryd.ntmps89
  go_wp2
  refine wp_loop_rounds 2 ?_
  rw [rounds_succ]
  go_wp2
  rw [rounds_succ]
  go_wp2
  go_ret
  exact ⟨rfl, rfl⟩
theorem has_5_b (w : World) : Calls Tryd.prog 89 #[.string { data := #[110, 100] }, .int .u8 98] w fun e w' => e = .returned (.bool false) ∧ w' = w := by
  go_enter Tryd.func89, Tryd.ntmps89
  go_wp2
  refine wp_loop_rounds 3 ?_
  rw [rounds_succ]
  go_wp2
  rw [rounds_succ]
  go_wp2
  rw [rounds_succ]
  go_wp2
  go_ret
  exact ⟨rfl, rfl⟩
theorem has_5_f (w : World) : Calls Tryd.prog 89 #[.string { data := #[110, 100] }, .int .u8 102] w fun e w' => e = .returned (.bool false) ∧ w' = w := by
  go_enter Tryd.func89, Tryd.ntmps89
  go_wp2
  refine wp_loop_rounds 3 ?_
  rw [rounds_succ]
  go_wp2
  rw [rounds_succ]
  go_wp2
  rw [rounds_succ]
  go_wp2
  go_ret
  exact ⟨rfl, rfl⟩
theorem has_7_n (w : World) : Calls Tryd.prog 89 #[.string { data := #[116] }, .int .u8 110] w fun e w' => e = .returned (.bool false) ∧ w' = w := by
  go_enter Tryd.func89, Tryd.ntmps89
  go_wp2
  refine wp_loop_rounds 2 ?_
  rw [rounds_succ]
  go_wp2
  rw [rounds_succ]
  go_wp2
  go_ret
  exact ⟨rfl, rfl⟩
theorem has_7_t (w : World) : Calls Tryd.prog 89 #[.string { data := #[116] }, .int .u8 116] w fun e w' => e = .returned (.bool true) ∧ w' = w := by
  go_enter Tryd.func89, Tryd.ntmps89
  go_wp2
  refine wp_loop_rounds 1 ?_
  rw [rounds_succ]
  go_wp2
  go_ret
  exact ⟨rfl, rfl⟩
theorem has_7_p (w : World) : Calls Tryd.prog 89 #[.string { data := #[116] }, .int .u8 112] w fun e w' => e = .returned (.bool false) ∧ w' = w := by
  go_enter Tryd.func89, Tryd.ntmps89
  go_wp2
  refine wp_loop_rounds 2 ?_
  rw [rounds_succ]
  go_wp2
  rw [rounds_succ]
  go_wp2
  go_ret
  exact ⟨rfl, rfl⟩
theorem has_7_s (w : World) : Calls Tryd.prog 89 #[.string { data := #[116] }, .int .u8 115] w fun e w' => e = .returned (.bool false) ∧ w' = w := by
  go_enter Tryd.func89, Tryd.ntmps89
  go_wp2
  refine wp_loop_rounds 2 ?_
  rw [rounds_succ]
  go_wp2
  rw [rounds_succ]
  go_wp2
  go_ret
  exact ⟨rfl, rfl⟩
theorem has_7_c (w : World) : Calls Tryd.prog 89 #[.string { data := #[116] }, .int .u8 99] w fun e w' => e = .returned (.bool false) ∧ w' = w := by
  go_enter Tryd.func89, Tryd.ntmps89
  go_wp2
  refine wp_loop_rounds 2 ?_
  rw [rounds_succ]
  go_wp2
  rw [rounds_succ]
  go_wp2
  go_ret
  exact ⟨rfl, rfl⟩
theorem has_7_d (w : World) : Calls Tryd.prog 89 #[.string { data := #[116] }, .int .u8 100] w fun e w' => e = .returned (.bool false) ∧ w' = w := by
  go_enter Tryd.func89, Tryd.ntmps89
  go_wp2
  refine wp_loop_rounds 2 ?_
  rw [rounds_succ]
  go_wp2
  rw [rounds_succ]
  go_wp2
  go_ret
  exact ⟨rfl, rfl⟩
theorem has_7_b (w : World) : Calls Tryd.prog 89 #[.string { data := #[116] }, .int .u8 98] w fun e w' => e = .returned (.bool false) ∧ w' = w := by
  go_enter Tryd.func89, Tryd.ntmps89
  go_wp2
  refine wp_loop_rounds 2 ?_
  rw [rounds_succ]
  go_wp2
  rw [rounds_succ]
  go_wp2
  go_ret
  exact ⟨rfl, rfl⟩
theorem has_7_f (w : World) : Calls Tryd.prog 89 #[.string { data := #[116] }, .int .u8 102] w fun e w' => e = .returned (.bool false) ∧ w' = w := by
  go_enter Tryd.func89, Tryd.ntmps89
  go_wp2
  refine wp_loop_rounds 2 ?_
  rw [rounds_succ]
  go_wp2
  rw [rounds_succ]
  go_wp2
  go_ret
  exact ⟨rfl, rfl⟩
theorem has_3_n (w : World) : Calls Tryd.prog 89 #[.string { data := #[112] }, .int .u8 110] w fun e w' => e = .returned (.bool false) ∧ w' = w := by
  go_enter Tryd.func89, Tryd.ntmps89
  go_wp2
  refine wp_loop_rounds 2 ?_
  rw [rounds_succ]
  go_wp2
  rw [rounds_succ]
  go_wp2
  go_ret
  exact ⟨rfl, rfl⟩
theorem has_3_t (w : World) : Calls Tryd.prog 89 #[.string { data := #[112] }, .int .u8 116] w fun e w' => e = .returned (.bool false) ∧ w' = w := by
  go_enter Tryd.func89, Tryd.ntmps89
  go_wp2
  refine wp_loop_rounds 2 ?_
  rw [rounds_succ]
  go_wp2
  rw [rounds_succ]
  go_wp2
  go_ret
  exact ⟨rfl, rfl⟩
theorem has_3_p (w : World) : Calls Tryd.prog 89 #[.string { data := #[112] }, .int .u8 112] w fun e w' => e = .returned (.bool true) ∧ w' = w := by
  go_enter Tryd.func89, Tryd.ntmps89
  go_wp2
  refine wp_loop_rounds 1 ?_
  rw [rounds_succ]
  go_wp2
  go_ret
  exact ⟨rfl, rfl⟩
theorem has_3_s (w : World) : Calls Tryd.prog 89 #[.string { data := #[112] }, .int .u8 115] w fun e w' => e = .returned (.bool false) ∧ w' = w := by
  go_enter Tryd.func89, Tryd.ntmps89
  go_wp2
  refine wp_loop_rounds 2 ?_
  rw [rounds_succ]
  go_wp2
  rw [rounds_succ]
  go_wp2
  go_ret
  exact ⟨rfl, rfl⟩
theorem has_3_c (w : World) : Calls Tryd.prog 89 #[.string { data := #[112] }, .int .u8 99] w fun e w' => e = .returned (.bool false) ∧ w' = w := by
  go_enter Tryd.func89, Tryd.ntmps89
  go_wp2
  refine wp_loop_rounds 2 ?_
  rw [rounds_succ]
  go_wp2
  rw [rounds_succ]
  go_wp2
  go_ret
  exact ⟨rfl, rfl⟩
theorem has_3_d (w : World) : Calls Tryd.prog 89 #[.string { data := #[112] }, .int .u8 100] w fun e w' => e = .returned (.bool false) ∧ w' = w := by
  go_enter Tryd.func89, Tryd.ntmps89
  go_wp2
  refine wp_loop_rounds 2 ?_
  rw [rounds_succ]
  go_wp2
  rw [rounds_succ]
  go_wp2
  go_ret
  exact ⟨rfl, rfl⟩
theorem has_3_b (w : World) : Calls Tryd.prog 89 #[.string { data := #[112] }, .int .u8 98] w fun e w' => e = .returned (.bool false) ∧ w' = w := by
  go_enter Tryd.func89, Tryd.ntmps89
  go_wp2
  refine wp_loop_rounds 2 ?_
  rw [rounds_succ]
  go_wp2
  rw [rounds_succ]
  go_wp2
  go_ret
  exact ⟨rfl, rfl⟩
theorem has_3_f (w : World) : Calls Tryd.prog 89 #[.string { data := #[112] }, .int .u8 102] w fun e w' => e = .returned (.bool false) ∧ w' = w := by
  go_enter Tryd.func89, Tryd.ntmps89
  go_wp2
  refine wp_loop_rounds 2 ?_
  rw [rounds_succ]
  go_wp2
  rw [rounds_succ]
  go_wp2
  go_ret
  exact ⟨rfl, rfl⟩
end Go.Proofs.YtgoephcembgmcaaDoor.Wd
