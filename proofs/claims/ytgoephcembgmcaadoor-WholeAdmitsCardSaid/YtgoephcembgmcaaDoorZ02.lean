/- Texts of the proof, merged: Sh1 Sh2. -/
import Derived.Test.YtgoephcembgmcaaDoorZ01
import Derived.Laws.CopyRow
import Derived.Laws.CopyOwn
import Derived.Deep.WholeRow
set_option linter.unusedSimpArgs false
set_option linter.unusedVariables false
namespace Go.Proofs.YtgoephcembgmcaaDoor.Sh
open Go.RowKit Go.Proofs.YtgoephcembgmcaaDoorW.PrintWords Go.Proofs.YtgoephcembgmcaaDoorW.PrintLast Go.Proofs.YtgoephcembgmcaaDoorW.PrintMore Go.Proofs.YtgoephcembgmcaaDoor.Wk Go.Proofs.YtgoephcembgmcaaDoor.FrM Go.Proofs.YtgoephcembgmcaaDoor.Fr
open Go.Proofs.YtgoephcembgmcaaDoor.WkM (w64)

/-! Arrays of words in a block of their own. -/
def wds (xs : List Int) : Array Value := (xs.map (Value.int .u32)).toArray
theorem wds_size (xs : List Int) : (wds xs).size = xs.length := by simp [wds]
theorem wds_get (xs : List Int) (i : Nat) (h : i < xs.length) : (wds xs)[i]? = some (.int .u32 (rd xs (i : Int))) := by
  unfold wds rd
  rw [List.getElem?_toArray, List.getElem?_map, List.getElem?_eq_getElem h, Int.toNat_natCast, List.getD_eq_getElem?_getD, List.getElem?_eq_getElem h]
  rfl
theorem wds_set (xs : List Int) (i : Nat) (x : Int) : (wds xs).setIfInBounds i (.int .u32 x) = wds (xs.set i x) := by
  unfold wds
  rw [List.setIfInBounds_toArray, List.map_set]
theorem wds_one (xs : List Int) : (wds xs).all (·.oneCell') = true := by
  unfold wds
  rw [Array.all_eq_true_iff_forall_mem]
  intro v hv
  simp only [List.mem_toArray, List.mem_map] at hv
  obtain ⟨x, _, rfl⟩ := hv
  rfl
/-- Block g holds the words xs, as an array of type t. -/
def Ws (w : World) (g t : Nat) (xs : List Int) : Prop := w.heap[g]? = some (.cells (wds xs) t (0, 0))
section
variable {w w1 : World} {g t : Nat} {xs : List Int}
theorem Ws.cell (h : Ws w g t xs) (i : Nat) (hi : i < xs.length) : w.cell? ⟨g, i, none⟩ = some (.int .u32 (rd xs (i : Int))) := (blk_cell h i).trans (wds_get xs i hi)
theorem Ws.frozen (h : Ws w g t xs) (i : Nat) : w.frozen? ⟨g, i, none⟩ = false := blk_frozen h i
theorem Ws.put (h : Ws w g t xs) (i : Nat) (x : Int) : Ws (w.setCell ⟨g, i, none⟩ (.int .u32 x)) g t (xs.set i x) := blk_put h i _ (wds_set xs i x)
theorem Ws.far (h : Ws w g t xs) {p : Addr} (hp : g ≠ p.block) (u : Value) : Ws (w.setCell p u) g t xs := blk_far h hp u
theorem Ws.below (h : Ws w g t xs) (hb : Below w.heap.size w w1) : Ws w1 g t xs := blk_below h hb
theorem Ws.alloc (h : Ws w g t xs) (o : Obj) : Ws (w.alloc o) g t xs := blk_alloc h o
theorem Ws.lt (h : Ws w g t xs) : g < w.heap.size := blk_lt h
end
/-- Words are of 32 bits. -/
def U32 (x : Int) : Prop := 0 ≤ x ∧ x < 4294967296
def Us (xs : List Int) : Prop := ∀ x ∈ xs, U32 x
theorem Us.rd_ {xs : List Int} (h : Us xs) (i : Int) : U32 (rd xs i) := by
  unfold rd
  rw [List.getD_eq_getElem?_getD]
  rcases Nat.lt_or_ge i.toNat xs.length with hi | hi
  · rw [List.getElem?_eq_getElem hi]
    exact h _ (List.getElem_mem hi)
  · rw [List.getElem?_eq_none hi]
    exact ⟨by decide, by decide⟩
theorem Us.set_ {xs : List Int} (h : Us xs) (i : Nat) {x : Int} (hx : U32 x) : Us (xs.set i x) := fun y hy => by
  rcases List.mem_or_eq_of_mem_set hy with hy | hy
  · exact h y hy
  · rw [hy]; exact hx
theorem bits_u32 (o : BinOp) (a b : Int) : U32 (bits o .u32 a b) := by
  unfold bits U32
  rw [IntKind.wrap_u32]
  exact ⟨Int.emod_nonneg _ (by decide), Int.emod_lt_of_pos _ (by decide)⟩
theorem rot_u32 (x : Int) (k : Nat) : U32 (rot x k) := bits_u32 _ _ _
theorem us_zero (n : Nat) : Us (List.replicate n 0) := fun x hx => by
  rw [List.eq_of_mem_replicate hx]
  exact ⟨by decide, by decide⟩
/-! The words of a block: sixteen out of its bytes, the others out of those. -/
def wnew4 (x0 x1 x2 x3 : Int) : Int := bits .or .u32 (bits .or .u32 (bits .or .u32 (IntKind.u32.wrap (IntKind.u32.wrap x0 * 16777216)) (IntKind.u32.wrap (IntKind.u32.wrap x1 * 65536))) (IntKind.u32.wrap (IntKind.u32.wrap x2 * 256))) (IntKind.u32.wrap x3)
def wexp (z x v y : Int) : Int := IntKind.u32.wrap (IntKind.u32.wrap (IntKind.u32.wrap (z + bits .xor .u32 (bits .xor .u32 (rot x 25) (rot x 14)) (x / 8)) + v) + bits .xor .u32 (bits .xor .u32 (rot y 15) (rot y 13)) (y / 1024))
def wone (b ws : List Int) (i : Nat) : Int := if i < 16 then wnew4 (rd b ((4 * i : Nat) : Int)) (rd b ((4 * i + 1 : Nat) : Int)) (rd b ((4 * i + 2 : Nat) : Int)) (rd b ((4 * i + 3 : Nat) : Int)) else wexp (rd ws ((i - 16 : Nat) : Int)) (rd ws ((i - 15 : Nat) : Int)) (rd ws ((i - 7 : Nat) : Int)) (rd ws ((i - 2 : Nat) : Int))
def wrow (b : List Int) : Nat → List Int
  | 0 => List.replicate 64 0
  | i + 1 => (wrow b i).set i (wone b (wrow b i) i)
theorem wrap_u (x : Int) : U32 (IntKind.u32.wrap x) := by
  unfold U32
  rw [IntKind.wrap_u32]
  exact ⟨Int.emod_nonneg _ (by decide), Int.emod_lt_of_pos _ (by decide)⟩
theorem wone_u (b ws : List Int) (i : Nat) : U32 (wone b ws i) := by
  unfold wone
  split
  · exact bits_u32 _ _ _
  · exact wrap_u _
theorem wrow_len (b : List Int) : ∀ i, (wrow b i).length = 64
  | 0 => List.length_replicate ..
  | i + 1 => by rw [wrow, List.length_set]; exact wrow_len b i
theorem wrow_u (b : List Int) : ∀ i, Us (wrow b i)
  | 0 => us_zero 64
  | i + 1 => (wrow_u b i).set_ i (wone_u _ _ _)
theorem list8 {vs : List Int} (h : vs.length = 8) : ∃ a0 a1 a2 a3 a4 a5 a6 a7, vs = [a0, a1, a2, a3, a4, a5, a6, a7] := by
  match vs, h with
  | [a0, a1, a2, a3, a4, a5, a6, a7], _ => exact ⟨a0, a1, a2, a3, a4, a5, a6, a7, rfl⟩
/-- One round. -/
def vt (k x e f g h : Int) : Int := IntKind.u32.wrap (IntKind.u32.wrap (IntKind.u32.wrap (IntKind.u32.wrap (h + bits .xor .u32 (bits .xor .u32 (rot e 26) (rot e 21)) (rot e 7)) + bits .xor .u32 (bits .and .u32 e f) (bits .and .u32 (bits .xor .u32 IntKind.u32.max e) g)) + k) + x)
def vu (a b c : Int) : Int := IntKind.u32.wrap (bits .xor .u32 (bits .xor .u32 (rot a 30) (rot a 19)) (rot a 10) + bits .xor .u32 (bits .xor .u32 (bits .and .u32 a b) (bits .and .u32 a c)) (bits .and .u32 b c))
def vstep (k x : Int) : List Int → List Int
  | [a, b, c, d, e, f, g, h] => [IntKind.u32.wrap (vt k x e f g h + vu a b c), a, b, c, IntKind.u32.wrap (d + vt k x e f g h), e, f, g]
  | l => l
def vrow (ks ws hs : List Int) : Nat → List Int
  | 0 => hs
  | i + 1 => vstep (rd ks (i : Int)) (rd ws (i : Int)) (vrow ks ws hs i)
theorem vrow_len (ks ws hs : List Int) : ∀ i, hs.length = 8 → (vrow ks ws hs i).length = 8
  | 0, h => h
  | i + 1, h => by
    obtain ⟨a0, a1, a2, a3, a4, a5, a6, a7, e⟩ := list8 (vrow_len ks ws hs i h)
    rw [vrow, e]
    rfl
theorem vstep_u (k x : Int) {vs : List Int} (h : Us vs) : Us (vstep k x vs) := by
  unfold vstep
  split
  · intro y hy
    simp only [List.mem_cons, List.not_mem_nil, or_false] at hy
    rcases hy with hy | hy | hy | hy | hy | hy | hy | hy
    · rw [hy]; exact wrap_u _
    · exact h y (by simp [hy])
    · exact h y (by simp [hy])
    · exact h y (by simp [hy])
    · rw [hy]; exact wrap_u _
    · exact h y (by simp [hy])
    · exact h y (by simp [hy])
    · exact h y (by simp [hy])
  · exact h
theorem vrow_u (ks ws hs : List Int) : ∀ i, Us hs → Us (vrow ks ws hs i)
  | 0, h => h
  | i + 1, h => vstep_u _ _ (vrow_u ks ws hs i h)
theorem idx64 (ws : List Int) (i : Nat) (hl : ws.length = 64) (hi : i < 64) (W : World) : (Instr.index 190 (.agg (wds ws)) (.int .i64 (i : Int))).run Tryd.prog W = .ok (.int .u32 (rd ws (i : Int))) W := by
  have h1 := wds_get ws i (by omega)
  have hu := Tryd.underlying190
  have d : (i : Int) < 64 := by omega
  have hz : (Tryd.prog.info? 84).map (·.size) = some 1 := by kernel_rfl
  have hs : (sizeOf 84).run Tryd.prog W = .ok 1 W := by
    cases hq : Tryd.prog.info? 84 with
    | none => simp [hq] at hz
    | some i => simp [sizeOf, typeInfo, hq] at hz ⊢; exact hz
  have ha : (isAgg 84).run Tryd.prog W = .ok false W := by
    have h27 := Tryd.underlying84
    unfold isAgg
    rw [Sem.run_bind, run_underlying h27 W]
    rfl
  simp [Instr.index, run_underlying hu, asIntOf, d, part, h1, hs, ha]
  omega
theorem size27 : (Tryd.prog.info? 84).map (·.size) = some 1 := by kernel_rfl
theorem Ws.row {W : World} {g t : Nat} {xs ys : List Int} (h : Ws W g t xs) : Ws (W.setRow g (wds ys)) g t ys := setRow_heap W g _ _ t _ h
theorem copy8 (W : World) (g : Nat) (a0 a1 a2 a3 a4 a5 a6 a7 : Int) (h : Ws W g 189 [a0, a1, a2, a3, a4, a5, a6, a7]) :
    (Builtin.copy_ #[221, 221] 3 #[.slice (some ⟨g, 1, none⟩) 7 7, .slice (some ⟨g, 0, none⟩) 7 8]).run Tryd.prog W = .ok (.int .i64 7) (W.setRow g (wds [a0, a0, a1, a2, a3, a4, a5, a6])) := by
  have h1 := run_copy_row Tryd.prog W 221 221 3 84 g 1 7 7 ⟨g, 0, none⟩ 7 8 (wds [a0, a1, a2, a3, a4, a5, a6, a7]) 189 ([a0, a1, a2, a3, a4, a5, a6].map (Value.int .u32)) Tryd.underlying221 size27 h rfl (fun j v hj => by
    have hj7 : j < 7 := by
      have := (List.getElem?_eq_some_iff.1 hj).1
      simpa using this
    have hadd : (⟨g, 0, none⟩ : Addr).add j = ⟨g, j, none⟩ := by unfold Addr.add; split <;> simp_all
    rw [hadd, cell_of_row W g j _ 189 (0, 0) h]
    have : j = 0 ∨ j = 1 ∨ j = 2 ∨ j = 3 ∨ j = 4 ∨ j = 5 ∨ j = 6 := by omega
    rcases this with e | e | e | e | e | e | e <;> (subst e; exact hj)) (by simp [wds]) (fun v hv => by
      obtain ⟨x, _, rfl⟩ := List.mem_map.1 hv
      rfl)
  exact h1
/-- What is added in the end. -/
def hrow (hs vs : List Int) : Nat → List Int
  | 0 => hs
  | i + 1 => (hrow hs vs i).set i (IntKind.u32.wrap (rd (hrow hs vs i) (i : Int) + rd vs (i : Int)))
theorem hrow_len (hs vs : List Int) : ∀ i, (hrow hs vs i).length = hs.length
  | 0 => rfl
  | i + 1 => by rw [hrow, List.length_set]; exact hrow_len hs vs i
theorem hrow_u (hs vs : List Int) (h : Us hs) : ∀ i, Us (hrow hs vs i)
  | 0 => h
  | i + 1 => (hrow_u hs vs h i).set_ i (wrap_u _)
/-- A block taken in. -/
def comp (ks hs b : List Int) : List Int := hrow hs (vrow ks (wrow b 64) hs 64) 8
theorem comp_len (ks hs b : List Int) : (comp ks hs b).length = hs.length := hrow_len _ _ _
theorem comp_u (ks hs b : List Int) (h : Us hs) : Us (comp ks hs b) := hrow_u _ _ h _
end Go.Proofs.YtgoephcembgmcaaDoor.Sh
namespace Go.Proofs.YtgoephcembgmcaaDoor.Sh
open Go.RowKit Go.Proofs.YtgoephcembgmcaaDoorW.PrintWords Go.Proofs.YtgoephcembgmcaaDoorW.PrintLast Go.Proofs.YtgoephcembgmcaaDoorW.PrintMore Go.Proofs.YtgoephcembgmcaaDoor.Wk Go.Proofs.YtgoephcembgmcaaDoor.Fr

/-- The words that are mixed in. -/
def KK : List Int := [1116352408, 1899447441, 3049323471, 3921009573, 961987163, 1508970993, 2453635748, 2870763221, 3624381080, 310598401, 607225278, 1426881987, 1925078388, 2162078206, 2614888103, 3248222580, 3835390401, 4022224774, 264347078, 604807628, 770255983, 1249150122, 1555081692, 1996064986, 2554220882, 2821834349, 2952996808, 3210313671, 3336571891, 3584528711, 113926993, 338241895, 666307205, 773529912, 1294757372, 1396182291, 1695183700, 1986661051, 2177026350, 2456956037, 2730485921, 2820302411, 3259730800, 3345764771, 3516065817, 3600352804, 4094571909, 275423344, 430227734, 506948616, 659060556, 883997877, 958139571, 1322822218, 1537002063, 1747873779, 1955562222, 2024104815, 2227730452, 2361852424, 2428436474, 2756734187, 3204031479, 3329325298]
theorem KK_len : KK.length = 64 := by kernel_rfl
theorem size55 : (Tryd.prog.info? 190).map (·.size) = some 64 := by kernel_rfl
theorem built55 : Tryd.prog.built 190 [(0, .int .u32 1116352408), (1, .int .u32 1899447441), (2, .int .u32 3049323471), (3, .int .u32 3921009573), (4, .int .u32 961987163), (5, .int .u32 1508970993), (6, .int .u32 2453635748), (7, .int .u32 2870763221), (8, .int .u32 3624381080), (9, .int .u32 310598401), (10, .int .u32 607225278), (11, .int .u32 1426881987), (12, .int .u32 1925078388), (13, .int .u32 2162078206), (14, .int .u32 2614888103), (15, .int .u32 3248222580), (16, .int .u32 3835390401), (17, .int .u32 4022224774), (18, .int .u32 264347078), (19, .int .u32 604807628), (20, .int .u32 770255983), (21, .int .u32 1249150122), (22, .int .u32 1555081692), (23, .int .u32 1996064986), (24, .int .u32 2554220882), (25, .int .u32 2821834349), (26, .int .u32 2952996808), (27, .int .u32 3210313671), (28, .int .u32 3336571891), (29, .int .u32 3584528711), (30, .int .u32 113926993), (31, .int .u32 338241895), (32, .int .u32 666307205), (33, .int .u32 773529912), (34, .int .u32 1294757372), (35, .int .u32 1396182291), (36, .int .u32 1695183700), (37, .int .u32 1986661051), (38, .int .u32 2177026350), (39, .int .u32 2456956037), (40, .int .u32 2730485921), (41, .int .u32 2820302411), (42, .int .u32 3259730800), (43, .int .u32 3345764771), (44, .int .u32 3516065817), (45, .int .u32 3600352804), (46, .int .u32 4094571909), (47, .int .u32 275423344), (48, .int .u32 430227734), (49, .int .u32 506948616), (50, .int .u32 659060556), (51, .int .u32 883997877), (52, .int .u32 958139571), (53, .int .u32 1322822218), (54, .int .u32 1537002063), (55, .int .u32 1747873779), (56, .int .u32 1955562222), (57, .int .u32 2024104815), (58, .int .u32 2227730452), (59, .int .u32 2361852424), (60, .int .u32 2428436474), (61, .int .u32 2756734187), (62, .int .u32 3204031479), (63, .int .u32 3329325298)] = some (wds KK) := by kernel_rfl
theorem wpList_build_is {P : Program} {w : World} {ops : Array Oper} {rest : List Oper} {o : Oper} {a : Act} {Q : Exit → Act → World → Prop} (hg : o.guard = none) (t : TypeId) (parts : Array (Nat × Operand)) (ho : o.op = .build t parts) (cs : Array Value)
    (hb : P.built t (parts.map fun (i, x) => (i, a.eval x)).toList = some cs) (h : wpList P ops Q rest (a.put o.dst (.agg cs)) w) : wpList P ops Q (o :: rest) a w :=
  wpList_build hg t parts ho (by rw [hb]; rfl) (by rw [hb]; exact h)
set_option maxHeartbeats 2000000 in
set_option maxRecDepth 100000 in
theorem words_any (w : World) : Calls Tryd.prog 92 #[] w fun e w' => e = .returned (.agg (wds KK)) ∧ Below w.heap.size w w' := by
  go_enter Tryd.func92, Tryd.ntmps92
  go_wp2_with (first | refine wpList_build_is rfl 55 _ rfl (wds KK) (by simp only [List.map_toArray, List.map_cons, List.map_nil]; exact built55) ?_ | refine wpList_store_row rfl 190 _ _ rfl w.heap.size (wds KK) rfl rfl 190 _ (blk_new _ _) (by rw [wds_size, KK_len]; exact size55) (by rw [wds_size, KK_len]; rfl) (wds_one _) ?_)
  rw [World.setRow_alloc_new]
  refine bodyPost_ret (v := .agg (wds KK)) ?_ rfl ⟨rfl, below_alloc (Below.refl _ _) _⟩
  exact results_cell_row rfl _ _ w.heap.size 190 (wds KK) (0, 0) _ rfl (blk_new _ _) Tryd.underlying190 rfl (by rw [wds_size, KK_len]; exact size55)
end Go.Proofs.YtgoephcembgmcaaDoor.Sh
