import Derived.Test.YtjdkeicjhmdcfaaWi2
import Derived.Test.YtjdkeicjhmdcfaaWApart
set_option linter.unusedSimpArgs false
set_option linter.unusedVariables false
namespace Go.Proofs.Ytjdkeicjhmdcfaa.Wi
open Go.RowKit Go.Proofs.YtjdkeicjhmdcfaaW.PrintWords Go.Proofs.YtjdkeicjhmdcfaaW.PrintLast Go.Proofs.YtjdkeicjhmdcfaaW.PrintMore Go.Proofs.Ytjdkeicjhmdcfaa.Wk

/-! Two rows of bytes apart; what a byte put into one leaves of the other. -/
theorem own_far {w : World} {base g j : Nat} {v u : Value} {xs : List Int} (h : Own w base v xs) (hg : some g ≠ v.ownBlock) : Own (w.setCell ⟨g, j, none⟩ u) base v xs :=
  Kd.R_mono (Kd.R_far (p := ⟨g, j, none⟩) (Kd.R_tight rfl h) (fun k hk e => hg (by rw [← hk, e])) u) (fun _ _ => trivial)
theorem own_kept {w w' : World} {base g : Nat} {row : Option Nat} {v : Value} {xs : List Int} (h : Own w base v xs) (hk : KeepBut w w' g row) (hg : some g ≠ v.ownBlock) (hr : ∀ k, v.ownBlock = some k → some k ≠ row) : Own w' base v xs :=
  Kd.R_mono (Kd.R_step (Kd.R_tight rfl h) (fun k hk' hlt => hk.2 k hlt (fun e => hg (by rw [← hk', e])) (hr k hk'.symm))) (fun _ _ => trivial)
theorem own_at {w : World} {base n c : Nat} {A : Option Addr} {xs : List Int} (h : Own w base (.slice A n c) xs) (hp : 0 < n) : ∃ g, A = some ⟨g, 0, none⟩ := by
  obtain ⟨rfl, _⟩ := own_reads h
  obtain ⟨g, cap, hv, _⟩ := (Kd.own_of_R h).form hp
  injection hv with hA
  exact ⟨g, hA⟩
theorem own_len {w : World} {base n c : Nat} {A : Option Addr} {xs : List Int} (h : Own w base (.slice A n c) xs) : n = xs.length := (own_reads h).1
theorem Wire.far {w : World} {g gm j : Nat} {v u : Value} {shut : Bool} (h : Wire w g v shut) (hg : g ≠ gm) : Wire (w.setCell ⟨gm, j, none⟩ u) g v shut := blk_far h (p := ⟨gm, j, none⟩) hg u
theorem str_add (a b : List Int) : strOfNums a ++ strOfNums b = strOfNums (a ++ b) := by
  apply ByteArray.ext
  rw [ByteArray.data_append]
  simp [strOfNums]
end Go.Proofs.Ytjdkeicjhmdcfaa.Wi
