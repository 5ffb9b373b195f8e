import Derived.Test.YtjdkeicjhmdcfaaSl1
import Derived.Test.YtjdkeicjhmdcfaaWGuard
set_option linter.unusedSimpArgs false
set_option linter.unusedVariables false
namespace Go.Proofs.Ytjdkeicjhmdcfaa.Sl
open Go.RowKit Go.Maps Go.Proofs.YtjdkeicjhmdcfaaW.PrintWords Go.Proofs.YtjdkeicjhmdcfaaW.PrintLast Go.Proofs.YtjdkeicjhmdcfaaW.PrintMore Go.Proofs.Ytjdkeicjhmdcfaa.Wk

/-! Package slot: each function once. Slots lie in block g, their map in block b. -/
theorem law3 : Keyed Try.prog 3 := int_keyed Try.underlying3
def Slots (w : World) (g b : Nat) (l : List (Int × ByteArray)) : Prop :=
  w.heap[g]? = some (.cells #[.map (some b)] 77 (0, 0)) ∧ (∃ D : D1, w.ownsMap Try.prog 3 (plainElem Try.prog 9) b l.length D ∧ Is D l) ∧ uniq_ l
theorem len_owns {w : World} {b n : Nat} {D : D1} (h : w.ownsMap Try.prog 3 (plainElem Try.prog 9) b n D) {l : List (Int × ByteArray)} (hi : Is D l) : w.ownsMap Try.prog 3 (plainElem Try.prog 9) b l.length D := by
  have hs := hi.size
  obtain ⟨es, clock, hb, F, h1, rfl⟩ := h
  refine ⟨es, clock, hb, F, ?_, rfl⟩
  rw [← hs]
  simp [Maps.size, length_sorted]
variable {w w' : World} {g b : Nat} {l : List (Int × ByteArray)}
theorem Slots.cell (h : Slots w g b l) : w.cell? ⟨g, 0, none⟩ = some (.map (some b)) ∧ w.frozen? ⟨g, 0, none⟩ = false ∧ g < w.heap.size :=
  ⟨(blk_cell h.1 0).trans rfl, blk_frozen h.1 0, blk_lt h.1⟩
theorem Slots.lt (h : Slots w g b l) : b < w.heap.size := by
  obtain ⟨_, ⟨D, h1, _⟩, _⟩ := h
  exact h1.lt
theorem Slots.ne (h : Slots w g b l) : g ≠ b := by
  obtain ⟨h0, ⟨D, ⟨es, clock, h1, _⟩, _⟩, _⟩ := h
  intro e
  rw [e, h1] at h0
  cases h0
theorem Slots.keep (h : Slots w g b l) (h1 : w'.heap[g]? = w.heap[g]?) (h2 : w'.heap[b]? = w.heap[b]?) : Slots w' g b l := by
  obtain ⟨h0, ⟨D, ⟨es, clock, h3, r⟩, hi⟩, ho⟩ := h
  exact ⟨h1.trans h0, ⟨D, ⟨es, clock, h2.trans h3, r⟩, hi⟩, ho⟩
theorem Slots.below (h : Slots w g b l) (hb : Below w.heap.size w w') : Slots w' g b l := h.keep (hb.block g h.cell.2.2) (hb.block b h.lt)
theorem Slots.alloc (h : Slots w g b l) (o : Obj) : Slots (w.alloc o) g b l := h.below (below_alloc (Below.refl _ _) o)
theorem Slots.set (h : Slots w g b l) {a : Addr} (u : Value) (h1 : g ≠ a.block) (h2 : b ≠ a.block) : Slots (w.setCell a u) g b l := h.keep (Below.heap_setCell w a u g h1) (Below.heap_setCell w a u b h2)

theorem new_ok (w : World) : Calls Try.prog 25 #[] w fun e w' => e = .returned (.pointer (some ⟨w.heap.size + 1, 0, none⟩)) ∧ Slots w' (w.heap.size + 1) w.heap.size [] ∧ Below w.heap.size w w' := by
  have hmm := @run_makeMap Try.prog
  go_enter Try.func25, Try.ntmps25
  go_wp2
  go_ret
  refine ⟨rfl, ⟨heap_alloc2_new _ _ _, ⟨.map [], (World.ownsMap_made w _ _ _).alloc _, Is.nil⟩, uniq_nil⟩, below_alloc (below_alloc (Below.refl _ _) _) _⟩

theorem zero9 (w : World) : (zeroValue 9).run Try.prog w = .ok (.string ByteArray.empty) w := by kernel_rfl
theorem Slots.look (h : Slots w g b l) (k : Int) (hk : (Lit.int .i64 k).wf = true) : (Instr.lookup 75 (.map (some b)) (.int .i64 k) true).run Try.prog w = .ok (.tuple #[.string (in_ l k), .bool (at_ l k)]) w := by
  obtain ⟨h0, ⟨D, hown, hi⟩, ho⟩ := h
  obtain ⟨v, ps, hr, hv⟩ := hown.look_ok law3 Try.underlying75 (zero9 w) (zd := .lit (.string [])) (zp := []) (plainElem_string Try.underlying9 (by decide)) (keyOf_int_mk Try.underlying3 hk)
  obtain ⟨s, rfl, hs, _⟩ := plainElem_string_inv Try.underlying9 hv
  rw [hi.atKey ho] at hs
  obtain rfl : s = in_ l k := bytes_inj (by simpa using (congrArg Prod.fst hs).symm)
  rw [hi.has] at hr
  exact hr
theorem Slots.long (h : Slots w g b l) : (Builtin.len_ #[75] 3 #[.map (some b)]).run Try.prog w = .ok (.int .i64 (l.length : Int)) w := by
  obtain ⟨h0, ⟨D, hown, hi⟩, ho⟩ := h
  rw [← hi.size]
  exact hown.len Try.underlying75 3
theorem Slots.turned (h : Slots w g b l) (ht : w.mapTurned w' b) : w'.heap[g]? = some (.cells #[.map (some b)] 77 (0, 0)) :=
  (ht.grown.block g h.cell.2.2 (fun e => h.ne (Option.some.inj e))).trans h.1
theorem Slots.drop_ (h : Slots w g b l) (k : Int) (hk : (Lit.int .i64 k).wf = true) (ty : TypeId) : ∃ w', (Builtin.delete_ #[75, 3] ty #[.map (some b), .int .i64 k]).run Try.prog w = .ok (.tuple #[]) w' ∧ Slots w' g b (out_ l k) ∧ w.mapTurned w' b := by
  have h' := h
  obtain ⟨h0, ⟨D, hown, hi⟩, ho⟩ := h
  obtain ⟨w', hr, h1, ht⟩ := hown.drop law3 Try.underlying75 (keyOf_int_mk Try.underlying3 hk) ty
  exact ⟨w', hr, ⟨h'.turned ht, ⟨_, len_owns h1 (hi.del k), hi.del k⟩, uniq_out ho k⟩, ht⟩
theorem Slots.store_ (h : Slots w g b l) (k : Int) (m : ByteArray) (hk : (Lit.int .i64 k).wf = true) (hm : m.size ≤ maxLen) (hl : l.length < maxLen) (ha : at_ l k = false) :
    ∃ w', (Instr.mapUpdate 75 (.map (some b)) (.int .i64 k) (.string m)).run Try.prog w = .ok () w' ∧ Slots w' g b (l ++ [(k, m)]) ∧ w.mapTurned w' b := by
  have h' := h
  obtain ⟨h0, ⟨D, hown, hi⟩, ho⟩ := h
  obtain ⟨w', hr, h1, ht⟩ := hown.store law3 Try.underlying75 hl (keyOf_int_mk Try.underlying3 hk) (plainElem_string Try.underlying9 hm)
  exact ⟨w', hr, ⟨h'.turned ht, ⟨_, len_owns h1 (hi.put k m ha), hi.put k m ha⟩, uniq_put ho k m ha⟩, ht⟩

theorem len_ok (g b : Nat) (l : List (Int × ByteArray)) (w : World) (h : Slots w g b l) : Calls Try.prog 28 #[.pointer (some ⟨g, 0, none⟩)] w fun e w' => e = .returned (.int .i64 (l.length : Int)) ∧ w = w' := by
  have hu77 := Try.underlying77
  obtain ⟨c1, c2, c3⟩ := h.cell
  have hlen := h.long
  clear h
  go_enter Try.func28, Try.ntmps28
  go_wp2
  go_ret
  exact ⟨rfl, rfl⟩

theorem in_ok (g b : Nat) (l : List (Int × ByteArray)) (k : Int) (w : World) (h : Slots w g b l) (hk : (Lit.int .i64 k).wf = true) :
    Calls Try.prog 38 #[.pointer (some ⟨g, 0, none⟩), .int .i64 k] w fun e w' => e = .returned (.tuple #[.string (in_ l k), .bool (at_ l k)]) ∧ w = w' := by
  have hu77 := Try.underlying77
  obtain ⟨c1, c2, c3⟩ := h.cell
  have hlook := h.look k hk
  clear h
  go_enter Try.func38, Try.ntmps38
  go_wp2
  go_ret2
  exact ⟨rfl, rfl⟩

def lres (l : List (Int × ByteArray)) (k : Int) : Int := if at_ l k then 0 else 4
theorem leave_ok (g b base : Nat) (l : List (Int × ByteArray)) (k : Int) (w : World) (h : Slots w g b l) (hk : (Lit.int .i64 k).wf = true) (hb : base ≤ b) :
    Calls Try.prog 37 #[.pointer (some ⟨g, 0, none⟩), .int .i64 k] w fun e w' => e = .returned (.int .i64 (lres l k)) ∧ Slots w' g b (out_ l k) ∧ Below base w w' ∧ KeepBut w w' b none := by
  have hu77 := Try.underlying77
  obtain ⟨c1, c2, c3⟩ := h.cell
  have hlook := h.look k hk
  have c4 := h.lt
  have HS := hide h
  unfold lres
  cases ha : at_ l k
  · rw [ha] at hlook
    have e : out_ l k = l := out_none ha
    rw [e]
    clear h e
    go_enter Try.func37, Try.ntmps37
    go_wp2
    go_ret
    exact ⟨rfl, unhide HS, Below.refl _ _, KeepBut.refl _ _ _⟩
  · rw [ha] at hlook
    obtain ⟨w1, hdel, hs1, ht⟩ := h.drop_ k hk 0
    have HS1 := hide hs1
    have HT := hide ht
    clear h hs1 ht
    go_enter Try.func37, Try.ntmps37
    go_wp2
    go_ret
    refine ⟨rfl, unhide HS1, (Below.refl _ _).grown (unhide HT).grown (by omega) (fun j hj => by cases hj; exact hb), ?_⟩
    refine ⟨(unhide HT).grown.size, fun i hi hn _ => (unhide HT).grown.block i hi (fun e => hn (Option.some.inj e))⟩
end Go.Proofs.Ytjdkeicjhmdcfaa.Sl
