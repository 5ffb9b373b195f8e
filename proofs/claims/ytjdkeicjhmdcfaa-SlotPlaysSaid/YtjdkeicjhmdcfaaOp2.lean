import Derived.Test.YtjdkeicjhmdcfaaOp1
import Derived.Deep.Slices
import Derived.Deep.Fields
import Derived.ChangeSame
set_option linter.unusedSimpArgs false
set_option linter.unusedVariables false
namespace Go.Proofs.Ytjdkeicjhmdcfaa.Op2
open Go.RowKit Go.ChangeShapes Go.WideShapes Go.ChangeAt Go.Deep Go.Proofs.YtjdkeicjhmdcfaaW.PrintWords Go.Proofs.Ytjdkeicjhmdcfaa.Wk Go.Proofs.Ytjdkeicjhmdcfaa.Op1

section
variable {H : Type} {enc : TypeId × Value → H} {P : Program} {w : World} {base : Nat} {spare : Nat → Bool} {held : Bool}
theorem open_slice_fields {t e : TypeId} {fs : Array Field} {fuel : Nat} {cs : List Value} {x : DataW H × List MemPlace} (ht : P.underlying t = some (.slice e)) (he : P.underlying e = some (.struct fs))
    (hone : oneCellFields P fs = true) (hC : P.cellsOf e = fs.size) (h : DataW.trod enc P w base spare held fuel t cs = some x) :
    (cs = [.slice none 0 0] ∧ x = (.nil, [])) ∨
    ∃ (a : Addr) (len cap m : Nat) (D : Nat → DataW H) (Pl : Nat → List MemPlace), cs = [.slice (some a) len cap] ∧ base ≤ a.block ∧ len ≤ cap ∧ cap ≤ maxLen ∧ m = (if spare a.block then cap else len) ∧
      x = (.slice ((List.range len).map D) ((List.range (m - len)).map fun j => D (len + j)), MemPlace.row a (m * fs.size) ++ (List.range m).flatMap Pl) ∧
      ∀ i, i < m → ∃ (ys : List (DataW H × List MemPlace)) (n : Nat), D i = .agg (ys.map (·.1)) ∧ Pl i = ys.flatMap (·.2) ∧ ys.length = fs.size ∧
        ∀ (j : Nat) (f : Field), fs[j]? = some f → ∃ (v : Value) (y : DataW H × List MemPlace), w.cell? (a.add (i * fs.size + j)) = some v ∧ ys[j]? = some y ∧ DataW.trod enc P w base spare held n f.type [v] = some y := by
  rcases open_slice ht h with h0 | ⟨a, len, cap, m, n, D, Pl, hcs, hb, hl, hm, hmm, hx, hi⟩
  · exact .inl h0
  · refine .inr ⟨a, len, cap, m, D, Pl, hcs, hb, hl, hm, hmm, by rw [hC] at hx; exact hx, fun i him => ?_⟩
    obtain ⟨cs', hc, ht'⟩ := hi i him
    rw [hC] at hc
    obtain ⟨ys, n', hn', hy, hlen, hyl, hf⟩ := DataW.trod_struct he ht'
    obtain ⟨_, hcl, hat⟩ := World.cells?_some hc
    simp only [Prod.mk.injEq] at hy
    refine ⟨ys, n', hy.1, hy.2, hyl, fun j f hj => ?_⟩
    obtain ⟨ho, hk⟩ := hone_of hone j f hj
    have hjl : j < fs.size := (Array.getElem?_eq_some_iff.1 hj).1
    have hcell := hat j hjl
    have hv : cs'[j]? = some (cs'[j]'(by omega)) := List.getElem?_eq_getElem (by omega)
    have h1 := hf j f hj
    rw [ho, hk] at h1
    have hone' : (cs'.drop j).take 1 = [cs'[j]'(by omega)] := by
      rw [List.drop_eq_getElem_cons (by omega)]
      rfl
    rw [hone'] at h1
    have hys : ys[j]? = some (ys[j]'(by omega)) := List.getElem?_eq_getElem (by omega)
    refine ⟨_, _, ?_, hys, h1.trans hys⟩
    rw [← Go.Deep.add_add, hcell, hv]
end

section
variable {H : Type} {enc : TypeId × Value → H} {W : World} {base : Nat} {fuel : Nat} {x : DataW H × List MemPlace}
theorem int_of {n : Nat} {t : TypeId} {v : Value} (ht : Try.prog.underlying t = some (.int .i64)) (h : DataW.trod enc Try.prog W base (fun _ => true) true n t [v] = some x) : ∃ z, v = .int .i64 z := by
  obtain ⟨z, hz, _⟩ := DataW.trod_int ht h
  exact ⟨z, by simpa using hz⟩
theorem ops_of {a : Option Addr} {len cap : Nat} (h : DataW.trod enc Try.prog W base (fun _ => true) true fuel 34 [.slice a len cap] = some x) :
    len ≤ maxLen ∧ ∃ (K N : Nat → Int) (D : Nat → List Int), ∀ i, i < len → ∃ ad v, a = some ad ∧ W.cell? (ad.add (i * 3)) = some (.int .i64 (K i)) ∧ W.cell? ⟨(ad.add (i * 3)).block, (ad.add (i * 3)).off + 1, none⟩ = some (.int .i64 (N i)) ∧ W.cell? ⟨(ad.add (i * 3)).block, (ad.add (i * 3)).off + 2, none⟩ = some v ∧ Bts W v (D i) := by
  rcases open_slice_fields Try.underlying34 Try.underlying38 (by kernel_rfl) (by kernel_rfl) h with ⟨hcs, _⟩ | ⟨ad, l, c, m, V, Pl, hcs, _, hl, hm, hmm, _, hi⟩
  · simp at hcs
    obtain ⟨rfl, rfl, rfl⟩ := hcs
    exact ⟨by simp, fun _ => 0, fun _ => 0, fun _ => [], fun i hi => by omega⟩
  · simp at hcs
    obtain ⟨rfl, rfl, rfl⟩ := hcs
    refine ⟨by omega, ?_⟩
    have hex : ∀ i, ∃ q : Int × Int × List Int, i < len → ∃ v, W.cell? (ad.add (i * 3)) = some (.int .i64 q.1) ∧ W.cell? ⟨(ad.add (i * 3)).block, (ad.add (i * 3)).off + 1, none⟩ = some (.int .i64 q.2.1) ∧ W.cell? ⟨(ad.add (i * 3)).block, (ad.add (i * 3)).off + 2, none⟩ = some v ∧ Bts W v q.2.2 := by
      intro i
      by_cases h : i < len
      · obtain ⟨ys, n, _, _, _, hf⟩ := hi i (by simp at hmm; omega)
        obtain ⟨v0, y0, c0, _, t0⟩ := hf 0 _ rfl
        obtain ⟨v1, y1, c1, _, t1⟩ := hf 1 _ rfl
        obtain ⟨v2, y2, c2, _, t2⟩ := hf 2 _ rfl
        obtain ⟨k, rfl⟩ := int_of Try.underlying3 t0
        obtain ⟨q, rfl⟩ := int_of Try.underlying3 t1
        obtain ⟨l, hl⟩ := bts_of t2
        refine ⟨(k, q, l), fun _ => ⟨v2, c0, ?_, ?_, hl⟩⟩
        · rw [← c1, show i * (#[_, _, _] : Array Field).size + 1 = i * 3 + 1 from rfl, ← Go.Deep.add_add]
          rfl
        · rw [← c2, show i * (#[_, _, _] : Array Field).size + 2 = i * 3 + 2 from rfl, ← Go.Deep.add_add]
          rfl
      · exact ⟨(0, 0, []), fun h' => absurd h' h⟩
    refine ⟨fun i => (Classical.choose (hex i)).1, fun i => (Classical.choose (hex i)).2.1, fun i => (Classical.choose (hex i)).2.2, fun i h => ?_⟩
    obtain ⟨v, h1, h2, h3, h4⟩ := Classical.choose_spec (hex i) h
    exact ⟨ad, v, rfl, h1, h2, h3, h4⟩
end
end Go.Proofs.Ytjdkeicjhmdcfaa.Op2
