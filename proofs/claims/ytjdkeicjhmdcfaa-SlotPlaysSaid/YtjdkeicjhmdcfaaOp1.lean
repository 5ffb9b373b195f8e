import Derived.Test.YtjdkeicjhmdcfaaWi2
import Derived.Test.YtjdkeicjhmdcfaaWApart
import Derived.Deep.Slices
import Derived.ProofKit
set_option linter.unusedSimpArgs false
set_option linter.unusedVariables false
namespace Go.Proofs.Ytjdkeicjhmdcfaa.Op1
open Go.RowKit Go.ChangeShapes Go.WideShapes Go.ChangeAt Go.Deep Go.Proofs.YtjdkeicjhmdcfaaW.PrintWords Go.Proofs.Ytjdkeicjhmdcfaa.Wk

/-! Arguments opened: slices of bytes, slices of these. -/
/-- A value that is a slice of the bytes l. -/
def Bts (w : World) (v : Value) (l : List Int) : Prop := ∃ A c, v = .slice A l.length c ∧ l.length ≤ c ∧ l.length ≤ maxLen ∧ Kd.C (Kd.int .u8) w A l.length l ∧ WkM.Bytes l
def Pcs (w : World) (A : Option Addr) (n : Nat) (L : Nat → List Int) : Prop := ∀ i, i < n → ∃ ad v, A = some ad ∧ w.cell? (ad.add i) = some v ∧ Bts w v (L i)
theorem Bts.below {w w' : World} {v : Value} {l : List Int} (h : Bts w v l) (hb : Below w.heap.size w w') : Bts w' v l := by
  obtain ⟨A, c, h1, h2, h3, h4, h5⟩ := h
  exact ⟨A, c, h1, h2, h3, Kd.C_below h4 hb, h5⟩

section
variable {H : Type} {enc : TypeId × Value → H} {W : World} {base : Nat} {fuel : Nat} {x : DataW H × List MemPlace}
theorem bts_of {v : Value} (h : DataW.trod enc Try.prog W base (fun _ => true) true fuel 23 [v] = some x) : ∃ l, Bts W v l := by
  rcases open_ints Try.underlying23 Try.underlying5 (by kernel_rfl) h with ⟨hcs, _⟩ | ⟨a, l, c, zs, hcs, _, hl, hm, hz, _, hcell, hwz⟩
  · simp at hcs
    subst hcs
    exact ⟨[], none, 0, rfl, Nat.le_refl _, by simp, Kd.C_nil _ _, by intro x hx; simp at hx⟩
  · simp at hcs
    subst hcs
    obtain ⟨l0, rfl, rr, m, b, c⟩ := ReadsInt.ofRowC (k := .u8) (w := W) (a := some a) (len := l) (cap := c) (zs := zs) (.inr ⟨a, rfl, hl, hm, by simpa using hz, hcell, hwz⟩)
    exact ⟨l0, some a, _, rfl, c, m, Kd.C_of_reads (d := (0 : Int)) (h1 := fun _ => rfl) rr, WkM.bytes_wf b⟩
theorem pcs_of {a : Option Addr} {len cap : Nat} (h : DataW.trod enc Try.prog W base (fun _ => true) true fuel 31 [.slice a len cap] = some x) : len ≤ maxLen ∧ ∃ L, Pcs W a len L := by
  rcases open_slice1 Try.underlying31 (by kernel_rfl) h with ⟨hcs, _⟩ | ⟨ad, l, c, m, n, V, D, Pl, hcs, _, hl, hm, hmm, _, hi⟩
  · simp at hcs
    obtain ⟨rfl, rfl, rfl⟩ := hcs
    exact ⟨by simp, fun _ => [], fun i hi => by omega⟩
  · simp at hcs
    obtain ⟨rfl, rfl, rfl⟩ := hcs
    refine ⟨by omega, ?_⟩
    have hex : ∀ i, ∃ l, i < len → Bts W (V i) l := by
      intro i
      by_cases h : i < len
      · obtain ⟨_, h2⟩ := hi i (by simp at hmm; omega)
        obtain ⟨l, hl⟩ := bts_of h2
        exact ⟨l, fun _ => hl⟩
      · exact ⟨[], fun h' => absurd h' h⟩
    refine ⟨fun i => Classical.choose (hex i), fun i h => ?_⟩
    exact ⟨ad, V i, rfl, (hi i (by simp at hmm; omega)).1, Classical.choose_spec (hex i) h⟩
end
end Go.Proofs.Ytjdkeicjhmdcfaa.Op1
