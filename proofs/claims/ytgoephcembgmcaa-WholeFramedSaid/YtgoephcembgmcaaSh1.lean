import Derived.Test.YtgoephcembgmcaaFr6
import Derived.Laws.CopyRow
import Derived.Laws.CopyOwn
import Derived.Deep.WholeRow
set_option linter.unusedSimpArgs false
set_option linter.unusedVariables false
namespace Go.Proofs.Ytgoephcembgmcaa.Sh
open Go.RowKit Go.Proofs.YtgoephcembgmcaaW.PrintWords Go.Proofs.YtgoephcembgmcaaW.PrintLast Go.Proofs.YtgoephcembgmcaaW.PrintMore Go.Proofs.Ytgoephcembgmcaa.Wk Go.Proofs.Ytgoephcembgmcaa.FrM Go.Proofs.Ytgoephcembgmcaa.Fr
open Go.Proofs.Ytgoephcembgmcaa.WkM (w64)

/-! Arrays of words in a block of their own. -/
def wds (xs : List Int) : Array Value := (xs.map (Value.int .u32)).toArray
theorem wds_size (xs : List Int) : (wds xs).size = xs.length := by simp [wds]
theorem wds_get (xs : List Int) (i : Nat) (h : i < xs.length) : (wds xs)[i]? = some (.int .u32 (rd xs (i : Int))) := by
  unfold wds rd
  rw [List.getElem?_toArray, List.getElem?_map, List.getElem?_eq_getElem h, Int.toNat_natCast, List.getD_eq_getElem?_getD, List.getElem?_eq_getElem h]
  rfl
theorem wds_set (xs : List Int) (i : Nat) (x : Int) : (wds xs).setIfInBounds i (.int .u32 x) = wds (xs.set i x) := by
  unfold wds
  rw [List.setIfInBounds_toArray, List.map_set]
theorem wds_one (xs : List Int) : (wds xs).all (·.oneCell') = true := by
  unfold wds
  rw [Array.all_eq_true_iff_forall_mem]
  intro v hv
  simp only [List.mem_toArray, List.mem_map] at hv
  obtain ⟨x, _, rfl⟩ := hv
  rfl
/-- Block g holds the words xs, as an array of type t. -/
def Ws (w : World) (g t : Nat) (xs : List Int) : Prop := w.heap[g]? = some (.cells (wds xs) t (0, 0))
section
variable {w w1 : World} {g t : Nat} {xs : List Int}
theorem Ws.cell (h : Ws w g t xs) (i : Nat) (hi : i < xs.length) : w.cell? ⟨g, i, none⟩ = some (.int .u32 (rd xs (i : Int))) := (blk_cell h i).trans (wds_get xs i hi)
theorem Ws.frozen (h : Ws w g t xs) (i : Nat) : w.frozen? ⟨g, i, none⟩ = false := blk_frozen h i
theorem Ws.put (h : Ws w g t xs) (i : Nat) (x : Int) : Ws (w.setCell ⟨g, i, none⟩ (.int .u32 x)) g t (xs.set i x) := blk_put h i _ (wds_set xs i x)
theorem Ws.far (h : Ws w g t xs) {p : Addr} (hp : g ≠ p.block) (u : Value) : Ws (w.setCell p u) g t xs := blk_far h hp u
theorem Ws.below (h : Ws w g t xs) (hb : Below w.heap.size w w1) : Ws w1 g t xs := blk_below h hb
theorem Ws.alloc (h : Ws w g t xs) (o : Obj) : Ws (w.alloc o) g t xs := blk_alloc h o
theorem Ws.lt (h : Ws w g t xs) : g < w.heap.size := blk_lt h
end
/-- Words are of 32 bits. -/
def U32 (x : Int) : Prop := 0 ≤ x ∧ x < 4294967296
def Us (xs : List Int) : Prop := ∀ x ∈ xs, U32 x
theorem Us.rd_ {xs : List Int} (h : Us xs) (i : Int) : U32 (rd xs i) := by
  unfold rd
  rw [List.getD_eq_getElem?_getD]
  rcases Nat.lt_or_ge i.toNat xs.length with hi | hi
  · rw [List.getElem?_eq_getElem hi]
    exact h _ (List.getElem_mem hi)
  · rw [List.getElem?_eq_none hi]
    exact ⟨by decide, by decide⟩
theorem Us.set_ {xs : List Int} (h : Us xs) (i : Nat) {x : Int} (hx : U32 x) : Us (xs.set i x) := fun y hy => by
  rcases List.mem_or_eq_of_mem_set hy with hy | hy
  · exact h y hy
  · rw [hy]; exact hx
theorem bits_u32 (o : BinOp) (a b : Int) : U32 (bits o .u32 a b) := by
  unfold bits U32
  rw [IntKind.wrap_u32]
  exact ⟨Int.emod_nonneg _ (by decide), Int.emod_lt_of_pos _ (by decide)⟩
theorem rot_u32 (x : Int) (k : Nat) : U32 (rot x k) := bits_u32 _ _ _
theorem us_zero (n : Nat) : Us (List.replicate n 0) := fun x hx => by
  rw [List.eq_of_mem_replicate hx]
  exact ⟨by decide, by decide⟩
/-! The words of a block: sixteen out of its bytes, the others out of those. -/
def wnew4 (x0 x1 x2 x3 : Int) : Int := bits .or .u32 (bits .or .u32 (bits .or .u32 (IntKind.u32.wrap (IntKind.u32.wrap x0 * 16777216)) (IntKind.u32.wrap (IntKind.u32.wrap x1 * 65536))) (IntKind.u32.wrap (IntKind.u32.wrap x2 * 256))) (IntKind.u32.wrap x3)
def wexp (z x v y : Int) : Int := IntKind.u32.wrap (IntKind.u32.wrap (IntKind.u32.wrap (z + bits .xor .u32 (bits .xor .u32 (rot x 25) (rot x 14)) (x / 8)) + v) + bits .xor .u32 (bits .xor .u32 (rot y 15) (rot y 13)) (y / 1024))
def wone (b ws : List Int) (i : Nat) : Int := if i < 16 then wnew4 (rd b ((4 * i : Nat) : Int)) (rd b ((4 * i + 1 : Nat) : Int)) (rd b ((4 * i + 2 : Nat) : Int)) (rd b ((4 * i + 3 : Nat) : Int)) else wexp (rd ws ((i - 16 : Nat) : Int)) (rd ws ((i - 15 : Nat) : Int)) (rd ws ((i - 7 : Nat) : Int)) (rd ws ((i - 2 : Nat) : Int))
def wrow (b : List Int) : Nat → List Int
  | 0 => List.replicate 64 0
  | i + 1 => (wrow b i).set i (wone b (wrow b i) i)
theorem wrap_u (x : Int) : U32 (IntKind.u32.wrap x) := by
  unfold U32
  rw [IntKind.wrap_u32]
  exact ⟨Int.emod_nonneg _ (by decide), Int.emod_lt_of_pos _ (by decide)⟩
theorem wone_u (b ws : List Int) (i : Nat) : U32 (wone b ws i) := by
  unfold wone
  split
  · exact bits_u32 _ _ _
  · exact wrap_u _
theorem wrow_len (b : List Int) : ∀ i, (wrow b i).length = 64
  | 0 => List.length_replicate ..
  | i + 1 => by rw [wrow, List.length_set]; exact wrow_len b i
theorem wrow_u (b : List Int) : ∀ i, Us (wrow b i)
  | 0 => us_zero 64
  | i + 1 => (wrow_u b i).set_ i (wone_u _ _ _)
theorem list8 {vs : List Int} (h : vs.length = 8) : ∃ a0 a1 a2 a3 a4 a5 a6 a7, vs = [a0, a1, a2, a3, a4, a5, a6, a7] := by
  match vs, h with
  | [a0, a1, a2, a3, a4, a5, a6, a7], _ => exact ⟨a0, a1, a2, a3, a4, a5, a6, a7, rfl⟩
/-- One round. -/
def vt (k x e f g h : Int) : Int := IntKind.u32.wrap (IntKind.u32.wrap (IntKind.u32.wrap (IntKind.u32.wrap (h + bits .xor .u32 (bits .xor .u32 (rot e 26) (rot e 21)) (rot e 7)) + bits .xor .u32 (bits .and .u32 e f) (bits .and .u32 (bits .xor .u32 IntKind.u32.max e) g)) + k) + x)
def vu (a b c : Int) : Int := IntKind.u32.wrap (bits .xor .u32 (bits .xor .u32 (rot a 30) (rot a 19)) (rot a 10) + bits .xor .u32 (bits .xor .u32 (bits .and .u32 a b) (bits .and .u32 a c)) (bits .and .u32 b c))
def vstep (k x : Int) : List Int → List Int
  | [a, b, c, d, e, f, g, h] => [IntKind.u32.wrap (vt k x e f g h + vu a b c), a, b, c, IntKind.u32.wrap (d + vt k x e f g h), e, f, g]
  | l => l
def vrow (ks ws hs : List Int) : Nat → List Int
  | 0 => hs
  | i + 1 => vstep (rd ks (i : Int)) (rd ws (i : Int)) (vrow ks ws hs i)
theorem vrow_len (ks ws hs : List Int) : ∀ i, hs.length = 8 → (vrow ks ws hs i).length = 8
  | 0, h => h
  | i + 1, h => by
    obtain ⟨a0, a1, a2, a3, a4, a5, a6, a7, e⟩ := list8 (vrow_len ks ws hs i h)
    rw [vrow, e]
    rfl
theorem vstep_u (k x : Int) {vs : List Int} (h : Us vs) : Us (vstep k x vs) := by
  unfold vstep
  split
  · intro y hy
    simp only [List.mem_cons, List.not_mem_nil, or_false] at hy
    rcases hy with hy | hy | hy | hy | hy | hy | hy | hy
    · rw [hy]; exact wrap_u _
    · exact h y (by simp [hy])
    · exact h y (by simp [hy])
    · exact h y (by simp [hy])
    · rw [hy]; exact wrap_u _
    · exact h y (by simp [hy])
    · exact h y (by simp [hy])
    · exact h y (by simp [hy])
  · exact h
theorem vrow_u (ks ws hs : List Int) : ∀ i, Us hs → Us (vrow ks ws hs i)
  | 0, h => h
  | i + 1, h => vstep_u _ _ (vrow_u ks ws hs i h)
theorem idx64 (ws : List Int) (i : Nat) (hl : ws.length = 64) (hi : i < 64) (W : World) : (Instr.index 55 (.agg (wds ws)) (.int .i64 (i : Int))).run Try.prog W = .ok (.int .u32 (rd ws (i : Int))) W := by
  have h1 := wds_get ws i (by omega)
  have hu := Try.underlying55
  have d : (i : Int) < 64 := by omega
  have hz : (Try.prog.info? 27).map (·.size) = some 1 := by kernel_rfl
  have hs : (sizeOf 27).run Try.prog W = .ok 1 W := by
    cases hq : Try.prog.info? 27 with
    | none => simp [hq] at hz
    | some i => simp [sizeOf, typeInfo, hq] at hz ⊢; exact hz
  have ha : (isAgg 27).run Try.prog W = .ok false W := by
    have h27 := Try.underlying27
    unfold isAgg
    rw [Sem.run_bind, run_underlying h27 W]
    rfl
  simp [Instr.index, run_underlying hu, asIntOf, d, part, h1, hs, ha]
  omega
theorem size27 : (Try.prog.info? 27).map (·.size) = some 1 := by kernel_rfl
theorem Ws.row {W : World} {g t : Nat} {xs ys : List Int} (h : Ws W g t xs) : Ws (W.setRow g (wds ys)) g t ys := setRow_heap W g _ _ t _ h
theorem copy8 (W : World) (g : Nat) (a0 a1 a2 a3 a4 a5 a6 a7 : Int) (h : Ws W g 54 [a0, a1, a2, a3, a4, a5, a6, a7]) :
    (Builtin.copy_ #[73, 73] 3 #[.slice (some ⟨g, 1, none⟩) 7 7, .slice (some ⟨g, 0, none⟩) 7 8]).run Try.prog W = .ok (.int .i64 7) (W.setRow g (wds [a0, a0, a1, a2, a3, a4, a5, a6])) := by
  have h1 := run_copy_row Try.prog W 73 73 3 27 g 1 7 7 ⟨g, 0, none⟩ 7 8 (wds [a0, a1, a2, a3, a4, a5, a6, a7]) 54 ([a0, a1, a2, a3, a4, a5, a6].map (Value.int .u32)) Try.underlying73 size27 h rfl (fun j v hj => by
    have hj7 : j < 7 := by
      have := (List.getElem?_eq_some_iff.1 hj).1
      simpa using this
    have hadd : (⟨g, 0, none⟩ : Addr).add j = ⟨g, j, none⟩ := by unfold Addr.add; split <;> simp_all
    rw [hadd, cell_of_row W g j _ 54 (0, 0) h]
    have : j = 0 ∨ j = 1 ∨ j = 2 ∨ j = 3 ∨ j = 4 ∨ j = 5 ∨ j = 6 := by omega
    rcases this with e | e | e | e | e | e | e <;> (subst e; exact hj)) (by simp [wds]) (fun v hv => by
      obtain ⟨x, _, rfl⟩ := List.mem_map.1 hv
      rfl)
  exact h1
/-- What is added in the end. -/
def hrow (hs vs : List Int) : Nat → List Int
  | 0 => hs
  | i + 1 => (hrow hs vs i).set i (IntKind.u32.wrap (rd (hrow hs vs i) (i : Int) + rd vs (i : Int)))
theorem hrow_len (hs vs : List Int) : ∀ i, (hrow hs vs i).length = hs.length
  | 0 => rfl
  | i + 1 => by rw [hrow, List.length_set]; exact hrow_len hs vs i
theorem hrow_u (hs vs : List Int) (h : Us hs) : ∀ i, Us (hrow hs vs i)
  | 0 => h
  | i + 1 => (hrow_u hs vs h i).set_ i (wrap_u _)
/-- A block taken in. -/
def comp (ks hs b : List Int) : List Int := hrow hs (vrow ks (wrow b 64) hs 64) 8
theorem comp_len (ks hs b : List Int) : (comp ks hs b).length = hs.length := hrow_len _ _ _
theorem comp_u (ks hs b : List Int) (h : Us hs) : Us (comp ks hs b) := hrow_u _ _ h _
end Go.Proofs.Ytgoephcembgmcaa.Sh
