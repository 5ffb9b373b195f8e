import Derived.Test.YtgoephcembgmcaaWWords
import Derived.Laws.BitsAllLaws
import Derived.Laws.BitsLemmas
namespace Go.Proofs.Ytgoephcembgmcaa.WkM
open Go.RowKit Go.Proofs.YtgoephcembgmcaaW.PrintWords

/-! The weak sum as numbers: A is the plain sum, B the weighted one. -/
def A : List Int → Int
  | [] => 0
  | x :: l => x + A l
def B : List Int → Int
  | [] => 0
  | x :: l => ((l.length : Int) + 1) * x + B l
def Bytes (l : List Int) : Prop := ∀ x ∈ l, 0 ≤ x ∧ x ≤ 255

theorem bytes_wf {l : List Int} (h : ∀ x ∈ l, (Lit.int .u8 x).wf = true) : Bytes l := by
  intro x hx
  have := h x hx
  simpa [Lit.wf, IntKind.min, IntKind.max, IntKind.bits, IntKind.signed] using this
theorem Bytes.take {l : List Int} (h : Bytes l) (n : Nat) : Bytes (l.take n) := fun x hx => h x (List.mem_of_mem_take hx)
theorem Bytes.drop {l : List Int} (h : Bytes l) (n : Nat) : Bytes (l.drop n) := fun x hx => h x (List.mem_of_mem_drop hx)
theorem Bytes.append {l r : List Int} (h : Bytes l) (k : Bytes r) : Bytes (l ++ r) := fun x hx => (List.mem_append.1 hx).elim (h x) (k x)
theorem Bytes.rd_ {l : List Int} (h : Bytes l) (i : Int) : 0 ≤ rd l i ∧ rd l i ≤ 255 := by
  unfold Go.Proofs.YtgoephcembgmcaaW.PrintWords.rd
  rw [List.getD_eq_getElem?_getD]
  cases e : l[i.toNat]? with
  | none => simp
  | some x => simpa using h x (List.mem_of_getElem? e)

theorem A_append (l r : List Int) : A (l ++ r) = A l + A r := by
  induction l with
  | nil => simp [A]
  | cons x l ih => simp only [List.cons_append, A, ih]; omega
theorem B_append (l r : List Int) : B (l ++ r) = B l + (r.length : Int) * A l + B r := by
  induction l with
  | nil => simp [A, B]
  | cons x l ih => simp only [List.cons_append, A, B, ih, List.length_append, Int.natCast_add]; grind
theorem A_bd {l : List Int} (h : Bytes l) : 0 ≤ A l ∧ A l ≤ 255 * (l.length : Int) := by
  induction l with
  | nil => simp [A]
  | cons x l ih =>
    have h1 := h x (by simp)
    have h2 := ih (fun y hy => h y (by simp [hy]))
    simp only [A, List.length_cons, Int.natCast_add]
    omega
theorem B_bd (N : Nat) {l : List Int} (h : Bytes l) (hN : l.length ≤ N) : 0 ≤ B l ∧ B l ≤ 255 * (N : Int) * (l.length : Int) := by
  induction l with
  | nil => simp [B]
  | cons x l ih =>
    have h1 := h x (by simp)
    simp only [List.length_cons] at hN
    have h2 := ih (fun y hy => h y (by simp [hy])) (by omega)
    simp only [B, List.length_cons, Int.natCast_add]
    have h3 : 0 ≤ ((l.length : Int) + 1) * x := Int.mul_nonneg (by omega) h1.1
    have h4 : ((l.length : Int) + 1) * x ≤ (N : Int) * 255 := Int.mul_le_mul (by omega) h1.2 h1.1 (by omega)
    refine ⟨by omega, ?_⟩
    have e : 255 * (N : Int) * ((l.length : Int) + ((1 : Nat) : Int)) = 255 * (N : Int) * (l.length : Int) + 255 * (N : Int) := by
      rw [Int.mul_add]; simp
    omega

theorem take_snoc (l : List Int) (i : Nat) (h : i < l.length) : l.take (i + 1) = l.take i ++ [rd l (i : Int)] := by
  rw [List.take_succ_eq_append_getElem h]
  simp [Go.Proofs.YtgoephcembgmcaaW.PrintWords.rd, List.getD_eq_getElem?_getD, List.getElem?_eq_getElem h]
theorem drop_cons (l : List Int) (i : Nat) (h : i < l.length) : l.drop i = rd l (i : Int) :: l.drop (i + 1) := by
  rw [List.drop_eq_getElem_cons h]
  simp [Go.Proofs.YtgoephcembgmcaaW.PrintWords.rd, List.getD_eq_getElem?_getD, List.getElem?_eq_getElem h]
theorem A_snoc (l : List Int) (x : Int) : A (l ++ [x]) = A l + x := by simp [A_append, A]
theorem B_snoc (l : List Int) (x : Int) : B (l ++ [x]) = B l + A l + x := by simp [B_append, B]

/-! bits -/
theorem mask_any (y : Int) : bits .and .u32 (y % 4294967296) 65535 = y % 65536 := by
  have h := bits_mask .u32 32 (by decide) (fun n h0 h1 => by rw [IntKind.wrap_u32]; omega) 16 (by decide) (y % 4294967296) (by omega) (by omega)
  have e2 : ((2 : Int) ^ 16) = 65536 := by decide
  simp only [e2] at h
  simpa using h
theorem mask_in (y : Int) (h0 : 0 ≤ y) (h1 : y < 4294967296) : bits .and .u32 y 65535 = y % 65536 := by
  have h := mask_any y
  rwa [Int.emod_eq_of_lt h0 h1] at h
theorem join_any (b a : Int) (hb0 : 0 ≤ b) (hb1 : b < 65536) (ha0 : 0 ≤ a) (ha1 : a < 65536) : bits .or .u32 ((b * 65536) % 4294967296) a = b * 65536 + a := by
  have e : (b * 65536) % 4294967296 = b * 65536 := by omega
  rw [e]
  rw [u32_or _ _ (by omega) (by omega) ha0 (by omega)]
  have e2 : (b * 65536).toNat = b.toNat <<< 16 := by rw [Nat.shiftLeft_eq]; omega
  rw [e2, ← Nat.shiftLeft_add_eq_or_of_lt (by omega), Nat.shiftLeft_eq]
  omega

/-! the state of a sum -/
theorem w64 (n : Int) (h0 : -9223372036854775808 ≤ n) (h1 : n ≤ 9223372036854775807) : wrap64 n = n := by unfold wrap64; omega
theorem bt_nums {l : List Int} (h : Bytes l) (i : Int) : bt (strOfNums l) i = rd l i := by
  rw [← rd_bytesOf]
  unfold bytesOf strOfNums
  simp only [List.map_map]
  congr 1
  conv => rhs; rw [← List.map_id l]
  apply List.map_congr_left
  intro x hx
  have := h x hx
  simp
  omega
theorem tm (x : Int) (h : 0 ≤ x) : Int.tmod x 65536 = x % 65536 := Int.tmod_eq_emod_of_nonneg h


def St (l : List Int) : Int × Int × Int := (A l % 65536, B l % 65536, (l.length : Int) % 4294967296)
def val (l : List Int) : Int := (B l % 65536) * 65536 + A l % 65536

theorem St_nil : St [] = (0, 0, 0) := by simp [St, A, B]
theorem St_snoc (l : List Int) (x : Int) : ((A l % 65536 + x) % 65536, (B l % 65536 + (A l % 65536 + x) % 65536) % 65536, ((l.length : Int) % 4294967296 + 1) % 4294967296) = St (l ++ [x]) := by
  unfold St
  rw [A_snoc, B_snoc]
  simp only [List.length_append, List.length_cons, List.length_nil, Int.natCast_add, Prod.mk.injEq]
  refine ⟨by omega, by omega, by omega⟩

end Go.Proofs.Ytgoephcembgmcaa.WkM
