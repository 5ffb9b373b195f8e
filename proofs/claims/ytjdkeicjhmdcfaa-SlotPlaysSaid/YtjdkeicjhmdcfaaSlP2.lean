import Derived.Test.YtjdkeicjhmdcfaaSlP1
import Derived.Test.YtjdkeicjhmdcfaaOp2
import Derived.Lib.SmallJoins
import Derived.ChangeArms
set_option linter.unusedSimpArgs false
set_option linter.unusedVariables false
namespace Go.Proofs.Ytjdkeicjhmdcfaa.SlP
open Go.Joins Go.ChangeShapes Go.WideShapes Go.Deep
open Go.RowKit Go.Maps Go.Proofs.YtjdkeicjhmdcfaaW.PrintWords Go.Proofs.YtjdkeicjhmdcfaaW.PrintLast Go.Proofs.YtjdkeicjhmdcfaaW.PrintMore Go.Proofs.Ytjdkeicjhmdcfaa.Wk Go.Proofs.Ytjdkeicjhmdcfaa.Sl

theorem row_empty (W : World) (base : Nat) (ok : Nat → Prop) (h : base ≤ W.heap.size) (hok : ok W.heap.size) : dL.R 68 (W.alloc (.cells #[] 68)) base ok (.slice (some ⟨W.heap.size, 0, none⟩) 0 0) [] := by
  have h2 := World.ownsRow_lit (base := base) (e := 68) (size := 2) W #[] 0 h (by simp [maxLen]) (by simp)
  have h3 : (W.alloc (.cells #[] 68)).ownsRow base 68 2 (.slice (some ⟨W.heap.size, 0, none⟩) 0 0) 0 [] := by simpa using h2
  refine ⟨fun k hk => ?_, [], h3, Reps.none _ _⟩
  have : W.heap.size = k := by simpa [Value.ownBlock] using hk
  rw [← this]
  exact hok
/-- Who enters or leaves: a box of four. -/
def Op4 (w : World) (q : Nat) (k n c : Int) (m : ByteArray) : Prop := w.heap[q]? = some (.cells #[.int .i64 k, .int .i64 n, .int .i64 c, .string m] 65 (0, 0))
theorem Op4.cells {w : World} {q : Nat} {k n c : Int} {m : ByteArray} (h : Op4 w q k n c m) :
    (w.cell? ⟨q, 0, none⟩ = some (.int .i64 k) ∧ w.cell? ⟨q, 1, none⟩ = some (.int .i64 n)) ∧ (w.cell? ⟨q, 2, none⟩ = some (.int .i64 c) ∧ w.cell? ⟨q, 3, none⟩ = some (.string m)) ∧ q < w.heap.size :=
  ⟨⟨(blk_cell h 0).trans rfl, (blk_cell h 1).trans rfl⟩, ⟨(blk_cell h 2).trans rfl, (blk_cell h 3).trans rfl⟩, blk_lt h⟩
/-- The script. -/
def Ops4 (w : World) (A : Option Addr) (n : Nat) (K N C : Nat → Int) (M : Nat → ByteArray) : Prop :=
  ∀ i, i < n → (∃ ad, A = some ad ∧ (w.cell? (ad.add (i * 4)) = some (.int .i64 (K i)) ∧ w.cell? ⟨(ad.add (i * 4)).block, (ad.add (i * 4)).off + 1, none⟩ = some (.int .i64 (N i))) ∧
    (w.cell? ⟨(ad.add (i * 4)).block, (ad.add (i * 4)).off + 2, none⟩ = some (.int .i64 (C i)) ∧ w.cell? ⟨(ad.add (i * 4)).block, (ad.add (i * 4)).off + 3, none⟩ = some (.string (M i)))) ∧ (Lit.int .i64 (N i)).wf = true ∧ (M i).size ≤ maxLen
section
variable {H : Type} {enc : TypeId × Value → H} {W : World} {base : Nat} {fuel : Nat} {x : DataW H × List MemPlace}
theorem intw_of {n : Nat} {t : TypeId} {v : Value} {y : DataW H × List MemPlace} (ht : Try.prog.underlying t = some (.int .i64)) (h : DataW.trod enc Try.prog W base (fun _ => true) true n t [v] = some y) : ∃ z, v = .int .i64 z ∧ (Lit.int .i64 z).wf = true := by
  obtain ⟨z, hz, _, hw⟩ := DataW.trod_int ht h
  exact ⟨z, by simpa using hz, hw⟩
theorem str_of {n : Nat} {v : Value} {y : DataW H × List MemPlace} (h : DataW.trod enc Try.prog W base (fun _ => true) true n 9 [v] = some y) : ∃ s : ByteArray, v = .string s ∧ s.size ≤ maxLen := by
  obtain ⟨z, hz, _, hw⟩ := DataW.trod_string Try.underlying9 h
  exact ⟨z, by simpa using hz, hw⟩
theorem ops4_of {a : Option Addr} {len cap : Nat} (h : DataW.trod enc Try.prog W base (fun _ => true) true fuel 63 [.slice a len cap] = some x) :
    len ≤ maxLen ∧ ∃ (K N C : Nat → Int) (M : Nat → ByteArray), Ops4 W a len K N C M := by
  rcases Op2.open_slice_fields Try.underlying63 Try.underlying65 (by kernel_rfl) (by kernel_rfl) h with ⟨hcs, _⟩ | ⟨ad, l, c, m, V, Pl, hcs, _, hl, hm, hmm, _, hi⟩
  · simp at hcs
    obtain ⟨rfl, rfl, rfl⟩ := hcs
    exact ⟨by simp, fun _ => 0, fun _ => 0, fun _ => 0, fun _ => ⟨#[]⟩, fun i hi => by omega⟩
  · simp at hcs
    obtain ⟨rfl, rfl, rfl⟩ := hcs
    refine ⟨by omega, ?_⟩
    have hex : ∀ i, ∃ q : Int × Int × Int × ByteArray, i < len → (W.cell? (ad.add (i * 4)) = some (.int .i64 q.1) ∧ W.cell? ⟨(ad.add (i * 4)).block, (ad.add (i * 4)).off + 1, none⟩ = some (.int .i64 q.2.1)) ∧
        (W.cell? ⟨(ad.add (i * 4)).block, (ad.add (i * 4)).off + 2, none⟩ = some (.int .i64 q.2.2.1) ∧ W.cell? ⟨(ad.add (i * 4)).block, (ad.add (i * 4)).off + 3, none⟩ = some (.string q.2.2.2)) ∧ (Lit.int .i64 q.2.1).wf = true ∧ q.2.2.2.size ≤ maxLen := by
      intro i
      by_cases h : i < len
      · obtain ⟨ys, n, _, _, _, hf⟩ := hi i (by simp at hmm; omega)
        obtain ⟨v0, y0, c0, _, t0⟩ := hf 0 _ rfl
        obtain ⟨v1, y1, c1, _, t1⟩ := hf 1 _ rfl
        obtain ⟨v2, y2, c2, _, t2⟩ := hf 2 _ rfl
        obtain ⟨v3, y3, c3, _, t3⟩ := hf 3 _ rfl
        obtain ⟨k, rfl, _⟩ := intw_of Try.underlying3 t0
        obtain ⟨q, rfl, hq⟩ := intw_of Try.underlying3 t1
        obtain ⟨z, rfl, _⟩ := intw_of Try.underlying3 t2
        obtain ⟨s, rfl, hs⟩ := str_of t3
        refine ⟨(k, q, z, s), fun _ => ⟨⟨c0, ?_⟩, ⟨?_, ?_⟩, hq, hs⟩⟩
        · rw [← c1, show i * (#[_, _, _, _] : Array Field).size + 1 = i * 4 + 1 from rfl, ← Go.Deep.add_add]
          rfl
        · rw [← c2, show i * (#[_, _, _, _] : Array Field).size + 2 = i * 4 + 2 from rfl, ← Go.Deep.add_add]
          rfl
        · rw [← c3, show i * (#[_, _, _, _] : Array Field).size + 3 = i * 4 + 3 from rfl, ← Go.Deep.add_add]
          rfl
      · exact ⟨(0, 0, 0, ⟨#[]⟩), fun h' => absurd h' h⟩
    refine ⟨fun i => (Classical.choose (hex i)).1, fun i => (Classical.choose (hex i)).2.1, fun i => (Classical.choose (hex i)).2.2.1, fun i => (Classical.choose (hex i)).2.2.2, fun i h => ?_⟩
    obtain ⟨h1, h2, h3, h4⟩ := Classical.choose_spec (hex i) h
    exact ⟨⟨ad, rfl, h1, h2⟩, h3, h4⟩
theorem ask_of {r : Reach} {b0 : Nat} {v : Value} {d : DataW H} {p : List MemPlace} (hv : Value.okWide Try.prog W r b0 65 v) (h : DataW.Trod enc Try.prog W base (fun _ => true) true 65 v d p) :
    ∃ (k n c : Int) (m : ByteArray), v = .agg #[.int .i64 k, .int .i64 n, .int .i64 c, .string m] ∧ (Lit.int .i64 n).wf = true := by
  obtain ⟨v0, v1, v2, v3, y0, y1, y2, y3, n, rfl, _, _, t0, t1, t2, t3⟩ := open_agg4 Try.underlying65 (by kernel_rfl) (by kernel_rfl) hv h
  obtain ⟨k, rfl, _⟩ := intw_of Try.underlying3 t0
  obtain ⟨q, rfl, hq⟩ := intw_of Try.underlying3 t1
  obtain ⟨z, rfl, _⟩ := intw_of Try.underlying3 t2
  obtain ⟨s, rfl, hs⟩ := str_of t3
  exact ⟨k, q, z, s, rfl, hq⟩
end
end Go.Proofs.Ytjdkeicjhmdcfaa.SlP
