import Derived.Test.YtgoephcembgmcaaSh2
import Derived.Test.YtgoephcembgmcaaSh3
set_option linter.unusedSimpArgs false
set_option linter.unusedVariables false
namespace Go.Proofs.Ytgoephcembgmcaa.Sh
open Go.RowKit Go.Proofs.YtgoephcembgmcaaW.PrintWords Go.Proofs.YtgoephcembgmcaaW.PrintLast Go.Proofs.YtgoephcembgmcaaW.PrintMore Go.Proofs.Ytgoephcembgmcaa.Wk Go.Proofs.Ytgoephcembgmcaa.FrM Go.Proofs.Ytgoephcembgmcaa.Fr
open Go.Proofs.Ytgoephcembgmcaa.WkM (w64 Bytes)

/-! Arrays of bytes in a block of their own. -/
def bys (xs : List Int) : Array Value := (xs.map (Value.int .u8)).toArray
theorem bys_size (xs : List Int) : (bys xs).size = xs.length := by simp [bys]
theorem bys_get (xs : List Int) (i : Nat) (h : i < xs.length) : (bys xs)[i]? = some (.int .u8 (rd xs (i : Int))) := by
  unfold bys rd
  rw [List.getElem?_toArray, List.getElem?_map, List.getElem?_eq_getElem h, Int.toNat_natCast, List.getD_eq_getElem?_getD, List.getElem?_eq_getElem h]
  rfl
theorem bys_set (xs : List Int) (i : Nat) (x : Int) : (bys xs).setIfInBounds i (.int .u8 x) = bys (xs.set i x) := by
  unfold bys
  rw [List.setIfInBounds_toArray, List.map_set]
theorem bys_one (xs : List Int) : (bys xs).all (·.oneCell') = true := by
  unfold bys
  rw [Array.all_eq_true_iff_forall_mem]
  intro v hv
  simp only [List.mem_toArray, List.mem_map] at hv
  obtain ⟨x, _, rfl⟩ := hv
  rfl
/-- Block g holds the bytes xs, as an array of type t. -/
def Bs (w : World) (g t : Nat) (xs : List Int) : Prop := w.heap[g]? = some (.cells (bys xs) t (0, 0))
section
variable {w w1 : World} {g t : Nat} {xs : List Int}
theorem Bs.cell (h : Bs w g t xs) (i : Nat) (hi : i < xs.length) : w.cell? ⟨g, i, none⟩ = some (.int .u8 (rd xs (i : Int))) := (blk_cell h i).trans (bys_get xs i hi)
theorem Bs.frozen (h : Bs w g t xs) (i : Nat) : w.frozen? ⟨g, i, none⟩ = false := blk_frozen h i
theorem Bs.put (h : Bs w g t xs) (i : Nat) (x : Int) : Bs (w.setCell ⟨g, i, none⟩ (.int .u8 x)) g t (xs.set i x) := blk_put h i _ (bys_set xs i x)
theorem Bs.far (h : Bs w g t xs) {p : Addr} (hp : g ≠ p.block) (u : Value) : Bs (w.setCell p u) g t xs := blk_far h hp u
theorem Bs.below (h : Bs w g t xs) (hb : Below w.heap.size w w1) : Bs w1 g t xs := blk_below h hb
theorem Bs.alloc (h : Bs w g t xs) (o : Obj) : Bs (w.alloc o) g t xs := blk_alloc h o
theorem Bs.lt (h : Bs w g t xs) : g < w.heap.size := blk_lt h
theorem Bs.row {ys : List Int} (h : Bs w g t xs) : Bs (w.setRow g (bys ys)) g t ys := setRow_heap w g _ _ t _ h
end

/-! The sum of bytes (plain law). -/
def H0 : List Int := [1779033703, 3144134277, 1013904242, 2773480762, 1359893119, 2600822924, 528734635, 1541459225]
theorem H0_u : Us H0 := by
  intro x hx
  simp only [H0, List.mem_cons, List.not_mem_nil, or_false] at hx
  unfold U32
  omega
/-- m blocks taken in. -/
def blocks (h : List Int) : Nat → List Int → List Int
  | 0, _ => h
  | m + 1, l => blocks (comp KK h l) m (l.drop 64)
theorem blocks_next (h : List Int) : ∀ (m : Nat) (l : List Int), blocks h (m + 1) l = comp KK (blocks h m l) (l.drop (64 * m))
  | 0, l => by simp [blocks]
  | m + 1, l => by
    rw [blocks, blocks_next (comp KK h l) m (l.drop 64), blocks, List.drop_drop]
    congr 2
    omega
theorem blocks_len (h : List Int) : ∀ (m : Nat) (l : List Int), (blocks h m l).length = h.length
  | 0, _ => rfl
  | m + 1, l => by rw [blocks, blocks_len _ m]; exact comp_len _ _ _
theorem blocks_u (h : List Int) (hu : Us h) : ∀ (m : Nat) (l : List Int), Us (blocks h m l)
  | 0, _ => hu
  | m + 1, l => by rw [blocks_next]; exact comp_u _ _ _ (blocks_u h hu m l)
def tailOf (l : List Int) : List Int := l.drop (64 * (l.length / 64))
def noughts (l : List Int) : Nat := (119 - l.length % 64) % 64
def lenb (n j : Nat) : Int := ((n * 8 / 2 ^ (56 - 8 * j) % 256 : Nat) : Int)
def lens (n : Nat) : Nat → List Int
  | 0 => []
  | j + 1 => lens n j ++ [lenb n j]
theorem lens_len (n : Nat) : ∀ j, (lens n j).length = j
  | 0 => rfl
  | j + 1 => by rw [lens, List.length_append, lens_len n j]; rfl
def padded (l : List Int) : List Int := tailOf l ++ [128] ++ List.replicate (noughts l) 0 ++ lens l.length 8
theorem tailOf_len (l : List Int) : (tailOf l).length = l.length % 64 := by
  unfold tailOf
  rw [List.length_drop]
  omega
theorem padded_len (l : List Int) : ∃ m, (padded l).length = 64 * m ∧ m ≤ 2 := by
  have h : (padded l).length = l.length % 64 + 1 + noughts l + 8 := by
    unfold padded
    simp only [List.length_append, tailOf_len, lens_len, List.length_replicate, List.length_singleton]
  unfold noughts at h
  exact ⟨(padded l).length / 64, by omega, by omega⟩
def hash (l : List Int) : List Int := blocks (blocks H0 (l.length / 64) l) ((padded l).length / 64) (padded l)
theorem hash_len (l : List Int) : (hash l).length = 8 := by
  unfold hash
  rw [blocks_len, blocks_len]
  rfl
theorem hash_u (l : List Int) : Us (hash l) := blocks_u _ (blocks_u _ H0_u _ _) _ _
/-- Byte i of a sum. -/
def outb (h : List Int) (i : Nat) : Int := rd h ((i / 4 : Nat) : Int) / 2 ^ (24 - 8 * (i % 4)) % 256
def outs (h : List Int) : Nat → List Int
  | 0 => List.replicate 32 0
  | i + 1 => (outs h i).set i (outb h i)
theorem outs_len (h : List Int) : ∀ i, (outs h i).length = 32
  | 0 => List.length_replicate ..
  | i + 1 => by rw [outs, List.length_set]; exact outs_len h i
/-- The sum of bytes. -/
def S (l : List Int) : List Int := outs (hash l) 32
theorem S_len (l : List Int) : (S l).length = 32 := outs_len _ _
theorem outs_bytes (h : List Int) : ∀ i, Bytes (outs h i)
  | 0 => fun x hx => by
    rw [List.eq_of_mem_replicate hx]
    exact ⟨by decide, by decide⟩
  | i + 1 => fun x hx => by
    rcases List.mem_or_eq_of_mem_set hx with hx | hx
    · exact outs_bytes h i x hx
    · rw [hx, outb]
      exact ⟨Int.emod_nonneg _ (by decide), Int.le_of_lt_add_one (Int.emod_lt_of_pos _ (by decide))⟩
theorem S_bytes (l : List Int) : Bytes (S l) := outs_bytes _ _

/-! Rows of bytes that may begin inside their block. -/
abbrev Que (w : World) (base : Nat) (ok : Nat → Prop) (v : Value) (xs : List Int) : Prop := (Kd.int .u8).Q 5 w base ok v xs
theorem que_drop (A : Option Addr) (c m : Nat) (l : List Int) (hm : m ≤ l.length) :
    ∃ A1, (∀ W : World, (Instr.slice 22 (.slice A l.length c) (some (.int .i64 (m : Int))) none none).run Try.prog W = .ok (.slice A1 (l.drop m).length (c - m)) W) ∧
      (∀ (w : World) (base : Nat) (ok : Nat → Prop), Que w base ok (.slice A l.length c) l → Que w base ok (.slice A1 (l.drop m).length (c - m)) (l.drop m)) := by
  obtain ⟨i0, hi, _, hsz, _⟩ := info_parts info5
  have h1 := cut_from (P := Try.prog) 22 5 .i64 Try.underlying22 hi 1 hsz A l.length c (m : Int) (by omega) (by omega)
  rw [Int.toNat_natCast] at h1
  have hl : (l.drop m).length = l.length - m := List.length_drop
  refine ⟨if c = m then A else A.map (·.add (m * 1)), fun W => by rw [hl]; exact h1 W, fun w base ok h => ?_⟩
  have h2 := Kd.Q_drop h hm
  rw [hl]
  exact h2
theorem que_reads {w : World} {base n c : Nat} {ok : Nat → Prop} {A : Option Addr} {xs : List Int} (h : Que w base ok (.slice A n c) xs) : n = xs.length ∧ n ≤ c ∧ Kd.C (Kd.int .u8) w A xs.length xs := Kd.Q_reads' h
theorem que_some {w : World} {base n c : Nat} {ok : Nat → Prop} {A : Option Addr} {xs : List Int} (h : Que w base ok (.slice A n c) xs) (hp : 0 < xs.length) : ∃ ad, A = some ad := by
  obtain ⟨g, o, cap, e, _⟩ := Kd.Q_form h hp
  injection e with e _ _
  exact ⟨_, e⟩
end Go.Proofs.Ytgoephcembgmcaa.Sh
