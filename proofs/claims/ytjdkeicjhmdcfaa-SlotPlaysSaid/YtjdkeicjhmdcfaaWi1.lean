import Derived.Test.YtjdkeicjhmdcfaaWk4
set_option linter.unusedSimpArgs false
set_option linter.unusedVariables false
namespace Go.Proofs.Ytjdkeicjhmdcfaa.Wi
open Go.RowKit Go.Proofs.YtjdkeicjhmdcfaaW.PrintWords Go.Proofs.YtjdkeicjhmdcfaaW.PrintLast Go.Proofs.YtjdkeicjhmdcfaaW.PrintMore Go.Proofs.Ytjdkeicjhmdcfaa.Wk

/-! Package wire: each function once. A wire lies in block g: its bytes' slice, and whether it is shut. -/
def Wire (w : World) (g : Nat) (v : Value) (shut : Bool) : Prop := w.heap[g]? = some (.cells #[v, .bool shut] 25 (0, 0))
theorem Wire.cells {w : World} {g : Nat} {v : Value} {shut : Bool} (h : Wire w g v shut) :
    (w.cell? ⟨g, 0, none⟩ = some v ∧ w.cell? ⟨g, 1, none⟩ = some (.bool shut)) ∧ (w.frozen? ⟨g, 0, none⟩ = false ∧ w.frozen? ⟨g, 1, none⟩ = false) ∧ g < w.heap.size :=
  ⟨⟨(blk_cell h 0).trans rfl, (blk_cell h 1).trans rfl⟩, ⟨blk_frozen h 0, blk_frozen h 1⟩, blk_lt h⟩
theorem Wire.ne_ {w : World} {g base : Nat} {v u : Value} {shut : Bool} {xs : List Int} (h : Wire w g v shut) (ho : Own w base u xs) : some g ≠ u.ownBlock := Kd.R_ne ho h (by decide)
theorem Wire.below {w w1 : World} {g : Nat} {v : Value} {shut : Bool} (h : Wire w g v shut) (hb : Below w.heap.size w w1) : Wire w1 g v shut := blk_below h hb

theorem put_shut (g : Nat) (v : Value) (A : Option Addr) (n c : Nat) (w : World) (hw : Wire w g v true) :
    Calls Try.prog 16 #[.pointer (some ⟨g, 0, none⟩), .slice A n c] w fun e w' => e = .returned (.int .i64 190) ∧ w = w' := by
  have hu25 := Try.underlying25
  obtain ⟨⟨_, _⟩, ⟨_, _⟩, _⟩ := hw.cells
  clear hw
  go_enter Try.func16, Try.ntmps16
  go_wp2
  go_ret
  exact ⟨rfl, rfl⟩

theorem put_full (g : Nat) (A0 : Option Addr) (n0 c0 : Nat) (A : Option Addr) (n c : Nat) (w : World) (hw : Wire w g (.slice A0 n0 c0) false) (h0 : n0 ≤ 131072) (h : 131072 < n0 + n) (hn : n ≤ 9223372036854775807) :
    Calls Try.prog 16 #[.pointer (some ⟨g, 0, none⟩), .slice A n c] w fun e w' => e = .returned (.int .i64 3) ∧ w = w' := by
  have hu25 := Try.underlying25
  obtain ⟨⟨_, _⟩, ⟨_, _⟩, _⟩ := hw.cells
  have e1 : 131072 - (n0 : Int) < (n : Int) := by omega
  clear hw
  go_enter Try.func16, Try.ntmps16
  go_wp2
  go_ret
  exact ⟨rfl, rfl⟩

theorem put_ok (g base : Nat) (v : Value) (xs : List Int) (A : Option Addr) (c : Nat) (ys : List Int) (w : World) (hw : Wire w g v false) (ho : Own w base v xs) (hr : Kd.C (Kd.int .u8) w A ys.length ys) (hbase : base ≤ w.heap.size) (hg : base ≤ g) (h : xs.length + ys.length ≤ 131072) :
    Calls Try.prog 16 #[.pointer (some ⟨g, 0, none⟩), .slice A ys.length c] w fun e w' => e = .returned (.int .i64 0) ∧
      ∃ v', Wire w' g v' false ∧ Own w' base v' (xs ++ ys) ∧ Below base w w' ∧ KeepBut w w' g v.ownBlock ∧ (v'.ownBlock = v.ownBlock ∨ ∃ b, v'.ownBlock = some b ∧ w.heap.size ≤ b) := by
  have hu25 := Try.underlying25
  obtain ⟨A0, c0, rfl⟩ := Kd.R_slice ho
  obtain ⟨⟨k1, k2⟩, ⟨k3, k4⟩, k5⟩ := hw.cells
  have e1 : ¬ 131072 - (xs.length : Int) < (ys.length : Int) := by omega
  have e2 : (xs.length : Int) ≤ 131072 := by omega
  have hl : (xs.length + ys.length) * 1 ≤ 140737488355328 := by omega
  have HO := hide ho
  have HW := hide hw
  have HR := hide hr
  clear hw ho hr
  go_enter Try.func16, Try.ntmps16
  go_wp2_with (at_builtin; refine unhide ?_)
  refine hide ?_
  refine Kd.R_append_row (Value.int .u8) (0 : Int) base rfl (.tmp 24) (.tmp 25) 23 5 (.int .u8 0) 1 rfl Try.underlying23 info5 rfl (by decide) (.slice A0 xs.length c0) xs ys A _ c (fun _ => True) rfl rfl (fun _ _ => trivial) (unhide HO) (unhide HR) (Below.refl _ _) hbase hl ?_
  intro v1 w1 hR1 hB1 hg1 hat1
  have W1 : Wire w1 g (.slice A0 xs.length c0) false := blk_grown (unhide HW) hg1 ((unhide HW).ne_ (unhide HO))
  obtain ⟨A1, c1, rfl⟩ := Kd.R_slice hR1
  have hl2 : (xs ++ ys).length = xs.length + ys.length := List.length_append
  rw [hl2] at hR1 hat1 ⊢
  clear hl2
  obtain ⟨⟨j1, j2⟩, ⟨j3, j4⟩, j5⟩ := W1.cells
  have HB1 := hide hB1
  have HG1 := hide hg1
  have HAT := hide hat1
  have HR1 := hide hR1
  have HW1 := hide W1
  clear hB1 hg1 hat1 hR1 W1
  go_wp2
  go_ret
  refine ⟨rfl, _, blk_put (unhide HW1) 0 _ rfl, ?_, (unhide HB1).setCell hg _, (KeepBut.of_grown (unhide HG1) g).set_ 0 _, unhide HAT⟩
  exact Kd.R_set (unhide HR1) (unhide HW1) (fun q hq => by simp [Kd.int, Kd.scalar] at hq; omega) 0 _

attribute [local go_sem] max2_int min2_int max_two min_two
/-- How many come. -/
def came (most : Int) (n : Nat) : Nat := if (n : Int) < most then n else most.toNat
theorem came_as (most : Int) (n : Nat) : ∃ j : Int, (if (n : Int) < most then (n : Int) else most) = j ∧ (if 0 < j then j else 0) = (came most n : Int) ∧ came most n ≤ n := by
  refine ⟨_, rfl, ?_, ?_⟩ <;> unfold came <;> split <;> (try split) <;> omega

theorem take_ok (g base : Nat) (v : Value) (shut : Bool) (xs : List Int) (most : Int) (w : World) (hw : Wire w g v shut) (ho : Own w base v xs) (hbase : base ≤ w.heap.size) (hg : base ≤ g) (h : xs.length ≤ 131072) :
    Calls Try.prog 18 #[.pointer (some ⟨g, 0, none⟩), .int .i64 most] w fun e w' => ∃ A c v', e = .returned (.slice A (xs.take (came most xs.length)).length c) ∧
      Own w' w.heap.size (.slice A (xs.take (came most xs.length)).length c) (xs.take (came most xs.length)) ∧ Wire w' g v' shut ∧ Own w' w.heap.size v' (xs.drop (came most xs.length)) ∧ Below base w w' ∧ KeepBut w w' g none ∧
      (∀ k, (Value.slice A (xs.take (came most xs.length)).length c).ownBlock = some k → some k ≠ v'.ownBlock) := by
  have hu25 := Try.underlying25
  obtain ⟨A0, c0, rfl⟩ := Kd.R_slice ho
  obtain ⟨⟨k1, k2⟩, ⟨k3, k4⟩, k5⟩ := hw.cells
  obtain ⟨j, hj1, hj2, hm⟩ := came_as most xs.length
  generalize came most xs.length = m at hj2 hm ⊢
  obtain ⟨_, hc0, hr⟩ := own_reads ho
  obtain ⟨hcut1, hr1, hc1⟩ := take_any A0 c0 xs m hc0 hm
  obtain ⟨A1, hcut2, hr2, hc2⟩ := drop_any A0 c0 xs m hc0 hm
  have HR1 := hide (hr1 w hr)
  have HR2 := hide (hr2 w hr)
  have q1 : (([] : List Int).length + (xs.take m).length) * 1 ≤ 140737488355328 := by simp; omega
  have q2 : (([] : List Int).length + (xs.drop m).length) * 1 ≤ 140737488355328 := by simp; omega
  generalize xs.take m = y1 at hcut1 HR1 hc1 q1 ⊢
  generalize xs.drop m = y2 at hcut2 HR2 hc2 q2 ⊢
  have HO := hide ho
  have HW := hide hw
  clear hw ho hr hr1 hr2
  go_enter Try.func18, Try.ntmps18
  go_wp2_with (at_builtin; refine unhide ?_)
  refine hide ?_
  refine Kd.R_append_row (w0 := w) (Value.int .u8) (0 : Int) w.heap.size rfl (.tmp 15) (.tmp 21) 23 5 (.int .u8 0) 1 rfl Try.underlying23 info5 rfl (by decide) (.slice (some ⟨w.heap.size, 0, none⟩) 0 0) [] y1 A0 _ c0 (fun _ => True) rfl rfl (fun _ _ => trivial) (own_empty w w.heap.size (Nat.le_refl _)) (Kd.C_alloc (unhide HR1) _) (below_alloc (Below.refl _ _) _) (by simp) q1 ?_
  intro v1 w1 hR1 hB1 hg1 hat1
  rw [List.nil_append] at hR1
  have W1 : Wire w1 g (.slice A0 xs.length c0) shut := (unhide HW).below hB1
  obtain ⟨B1, d1, rfl⟩ := Kd.R_slice hR1
  obtain ⟨⟨j1, j2⟩, ⟨j3, j4⟩, j5⟩ := W1.cells
  have HB1 := hide hB1
  have HO1 := hide hR1
  have HW1 := hide W1
  clear hB1 hg1 hat1 hR1 W1
  go_wp2_with (at_builtin; refine unhide ?_)
  refine hide ?_
  refine Kd.R_append_row (w0 := w1) (Value.int .u8) (0 : Int) w1.heap.size rfl (.tmp 24) (.tmp 30) 23 5 (.int .u8 0) 1 rfl Try.underlying23 info5 rfl (by decide) (.slice (some ⟨w1.heap.size, 0, none⟩) 0 0) [] y2 A1 _ (c0 - m) (fun _ => True) rfl rfl (fun _ _ => trivial) (own_empty w1 w1.heap.size (Nat.le_refl _)) (Kd.C_alloc (Kd.C_below (unhide HR2) (unhide HB1)) _) (below_alloc (Below.refl _ _) _) (by simp) q2 ?_
  intro v2 w2 hR2 hB2 hg2 hat2
  rw [List.nil_append] at hR2
  have W2 : Wire w2 g (.slice A0 xs.length c0) shut := (unhide HW1).below hB2
  obtain ⟨B2, d2, rfl⟩ := Kd.R_slice hR2
  obtain ⟨⟨j1, j2⟩, ⟨j3, j4⟩, j5⟩ := W2.cells
  have HB2 := hide (below_step (unhide HB1) hB2)
  have HO2 := hide (Kd.R_below (unhide HO1) hB2)
  have HO3 := hide hR2
  have HW2 := hide W2
  have HLT := hide (Kd.R_lt (unhide HO1))
  have HBS := hide (Kd.R_base hR2)
  have HSZ := hide (unhide HB1).size
  clear hB2 hg2 hat2 hR2 W2 HO1 HW1
  go_wp2
  go_ret
  have hq : ∀ q, q ∈ 5 :: (Kd.int .u8).E → q ≠ 25 := fun q hq => by simp [Kd.int, Kd.scalar] at hq; omega
  refine ⟨_, _, _, rfl, Kd.R_set (unhide HO2) (unhide HW2) hq 0 _, blk_put (unhide HW2) 0 _ rfl, Kd.R_set (Kd.R_lower (unhide HO3) (unhide HSZ)) (unhide HW2) hq 0 _, ((unhide HB2).mono hbase).setCell hg _, (KeepBut.of_below (unhide HB2) g none).set_ 0 _, fun k hk he => ?_⟩
  have h1 := unhide HLT k hk
  have h2 := unhide HBS k he.symm
  omega

theorem len_ok (g : Nat) (A : Option Addr) (n c : Nat) (shut : Bool) (w : World) (hw : Wire w g (.slice A n c) shut) : Calls Try.prog 17 #[.pointer (some ⟨g, 0, none⟩)] w fun e w' => e = .returned (.int .i64 (n : Int)) ∧ w = w' := by
  have hu25 := Try.underlying25
  obtain ⟨⟨_, _⟩, ⟨_, _⟩, _⟩ := hw.cells
  clear hw
  go_enter Try.func17, Try.ntmps17
  go_wp2
  go_ret
  exact ⟨rfl, rfl⟩
theorem shut_ok (g : Nat) (v : Value) (shut : Bool) (w : World) (hw : Wire w g v shut) : Calls Try.prog 19 #[.pointer (some ⟨g, 0, none⟩)] w fun e w' => e = .returned (.tuple #[]) ∧ w.setCell ⟨g, 1, none⟩ (.bool true) = w' := by
  have hu25 := Try.underlying25
  obtain ⟨⟨_, _⟩, ⟨_, _⟩, _⟩ := hw.cells
  clear hw
  go_enter Try.func19, Try.ntmps19
  go_wp2
  go_end0
  exact ⟨rfl, rfl⟩
end Go.Proofs.Ytjdkeicjhmdcfaa.Wi
