/- Texts of the proof, merged: Al1. -/
import Derived.Test.YtgoephcembgmcaaDoorZ07
import Derived.Test.YtgoephcembgmcaaDoorWEqStruct
import Derived.Sort.MapsRangeIn
import Derived.Deep.MidRow
import Derived.ChangeKeysEq
set_option linter.unusedSimpArgs false
set_option linter.unusedVariables false
namespace Go.Proofs.YtgoephcembgmcaaDoor.Cf
open Go.RowKit Go.Maps Go.Proofs.YtgoephcembgmcaaDoorW.PrintWords Go.Proofs.YtgoephcembgmcaaDoorW.PrintLast Go.Proofs.YtgoephcembgmcaaDoor.Wk Go.Proofs.YtgoephcembgmcaaDoor.Fr Go.Proofs.YtgoephcembgmcaaDoor.Sh Go.Proofs.YtgoephcembgmcaaDoor.Sl
open Go.Proofs.YtgoephcembgmcaaDoor.WkM (w64 Bytes)
/-! The law's guests; loads of whole rows; the map of counts; what the law says in plain words. -/
/-- A guest: module, user, secret, nonce. -/
abbrev Gst := ByteArray × ByteArray × ByteArray × List Int
def gc (x : Gst) : List Value := .string x.1 :: .string x.2.1 :: .string x.2.2.1 :: x.2.2.2.map (Value.int .u8)
def Guest (x : Gst) : Prop := x.2.2.2.length = 16 ∧ Bytes x.2.2.2
theorem gc_len {x : Gst} (h : x.2.2.2.length = 16) : (gc x).length = 19 := by simp [gc, h]
theorem gc_one (x : Gst) : ∀ u ∈ gc x, u.oneCell' = true := by
  intro u hu
  unfold gc at hu
  rcases List.mem_cons.1 hu with rfl | hu
  · rfl
  · rcases List.mem_cons.1 hu with rfl | hu
    · rfl
    · rcases List.mem_cons.1 hu with rfl | hu
      · rfl
      · obtain ⟨x, _, rfl⟩ := List.mem_map.1 hu
        rfl
/-- The guests lie in a row. -/
def Gs (w : World) (A : Option Addr) (gs : List Gst) : Prop := 0 < gs.length → ∃ ad, A = some ad ∧ ∀ i x, gs[i]? = some x → ∀ j v, (gc x)[j]? = some v → w.cell? ((ad.add (i * 19)).add j) = some v
theorem Gs.below {w w1 : World} {A : Option Addr} {gs : List Gst} (h : Gs w A gs) (hb : Below w.heap.size w w1) : Gs w1 A gs := fun h0 => by
  obtain ⟨ad, e, hr⟩ := h h0
  exact ⟨ad, e, fun i x hi j v hv => pw_cell_below hb (hr i x hi j v hv)⟩
section
variable {P : Program}
theorem run_loadVar_at (w : World) (p : Addr) (ty : TypeId) (cs : List Value) (d : TypeDesc) (hc : ∀ j v, cs[j]? = some v → w.cell? (p.add j) = some v)
    (hu : P.underlying ty = some d) (hd : d.isRow = true) (hi : (P.info? ty).map (·.size) = some cs.length) : (loadVar ty p).run P w = .ok (.agg cs.toArray) w := by
  have hl : (loadCells p cs.length).run P w = .ok cs.toArray w := run_loadCells_list (P := P) w p cs hc
  cases hq : P.info? ty with
  | none => simp [hq] at hi
  | some i =>
    have hs : i.size = cs.length := by simpa [hq] using hi
    have hagg : (isAgg ty).run P w = .ok true w := by
      unfold isAgg
      rw [Sem.run_bind, run_underlying hu w]
      cases d <;> simp_all
    simp [loadVar, Sem.run_bind, hagg, sizeOf, typeInfo, hq, hs, hl]
theorem wpList_load_at {ops : Array Oper} {rest : List Oper} {op : Oper} {a : Act} {w : World} {Q : Exit → Act → World → Prop} (hgd : op.guard = none) (ty : TypeId) (x : Operand) (ho : op.op = .load ty x)
    (p : Addr) (hx : a.eval x = .pointer (some p)) (cs : List Value) (d : TypeDesc) (hc : ∀ j v, cs[j]? = some v → w.cell? (p.add j) = some v)
    (hu : P.underlying ty = some d) (hd : d.isRow = true) (hi : (P.info? ty).map (·.size) = some cs.length)
    (h : wpList P ops Q rest (a.put op.dst (.agg cs.toArray)) w) : wpList P ops Q (op :: rest) a w :=
  wpList_plain hgd fun _ hK => by
    unfold Oper.wp execOp
    simp only [ho, hx, Instr.loadAt, Instr.sureAddr, Sem.run_bind, Sem.run_pure, Result.andThen_ok, run_loadVar_at w p ty cs d hc hu hd hi]
    exact hK _ _ h
theorem exec_ld {ev : Operand → Value} {o : Oper} {ty : TypeId} {x : Operand} {W : World} (ho : o.op = .load ty x) (b k : Nat) (hx : ev x = .pointer (some ⟨b, k, none⟩)) (cs : List Value) (d : TypeDesc) (hc : W.rangeAt b k cs)
    (hu : P.underlying ty = some d) (hd : d.isRow = true) (hi : (P.info? ty).map (·.size) = some cs.length) : (execOp ev o).run P W = .ok (.value (.agg cs.toArray)) W := by
  unfold execOp
  simp only [ho, hx, Sem.run_bind, run_loadAt_mid W b k ty cs d hc hu hd hi, Result.andThen_ok, Sem.run_pure]
end
/-- A row in its block, read from the middle on. -/
theorem range_of {W : World} {g t : Nat} {L cs : List Value} (h : W.heap[g]? = some (.cells L.toArray t (0, 0))) (o : Nat) (he : ∀ j v, cs[j]? = some v → L[o + j]? = some v) : W.rangeAt g o cs := fun j v hv => by
  rw [blk_cell h, List.getElem?_toArray]
  exact he j v hv
theorem gc_nonce (x : Gst) (j : Nat) (v : Value) (h : (x.2.2.2.map (Value.int .u8))[j]? = some v) : (gc x)[3 + j]? = some v := by
  unfold gc
  rw [Nat.add_comm]
  exact h
theorem gc_cells {W : World} {g t : Nat} {m u x : ByteArray} {n : List Int} (h : W.heap[g]? = some (.cells (gc (m, u, x, n)).toArray t (0, 0))) :
    W.cell? ⟨g, 0, none⟩ = some (.string m) ∧ W.cell? ⟨g, 1, none⟩ = some (.string u) ∧ W.cell? ⟨g, 2, none⟩ = some (.string x) ∧ W.rangeAt g 3 (n.map (Value.int .u8)) :=
  ⟨by rw [blk_cell h]; simp [gc], by rw [blk_cell h]; simp [gc], by rw [blk_cell h]; simp [gc], range_of h 3 (gc_nonce (m, u, x, n))⟩
/-! Two sums that are one. -/
theorem part5 (xs : List Int) (W : World) (i : Nat) (hi : i < xs.length) : (part 5 (bys xs) i).run Tryd.prog W = .ok (.int .u8 (rd xs (i : Int))) W := by
  have ha : (isAgg 5).run Tryd.prog W = .ok false W := by
    have h5 := Tryd.underlying5
    unfold isAgg
    rw [Sem.run_bind, run_underlying h5 W]
    rfl
  simp [part, ha, bys_get xs i hi]
theorem eqItems_same (xs : List Int) (d : Nat) : ∀ is : List Nat, (∀ i ∈ is, i < xs.length) → ∀ W, (Op.eqItems (d + 1) 5 1 (bys xs) (bys xs) is).run Tryd.prog W = .ok true W
  | [], _, W => by simp [Op.eqItems]
  | i :: is, h, W => by
    have h5 := Tryd.underlying5
    have he : (Op.equalIn (d + 1) 5 (.int .u8 (rd xs (i : Int))) (.int .u8 (rd xs (i : Int)))).run Tryd.prog W = .ok true W := by simp [Op.equalIn, run_underlying h5]
    simp only [Op.eqItems, Sem.run_bind, Nat.mul_one, part5 xs W i (h i (by simp)), Result.andThen_ok, he, Bool.not_true, Bool.false_eq_true, if_false]
    exact eqItems_same xs d is (fun j hj => h j (by simp [hj])) W
theorem cells5 : Tryd.prog.cellsOf 5 = 1 := by kernel_rfl
theorem info5 : (Tryd.prog.info? 5).map (fun i => (i.zero, i.size, i.bytes)) = some (some (.int .u8 0), 1, 1) := by kernel_rfl
theorem equal28_same (xs : List Int) (hx : xs.length = 32) (d : Nat) (W : World) : (Op.equalIn (d + 2) 28 (.agg (bys xs)) (.agg (bys xs))).run Tryd.prog W = .ok true W := by
  obtain ⟨i0, hi, _⟩ := info_parts info5
  rw [run_equalIn_array (P := Tryd.prog) W (d + 1) (bys xs) (bys xs) Tryd.underlying28 hi, cells5]
  exact eqItems_same xs d (List.range 32) (fun i hi => by have := List.mem_range.1 hi; omega) W
theorem exec_eq28 {xs : List Int} (hx : xs.length = 32) {o : Oper} {ev : Operand → Value} {x y : Operand} (ho : o.op = .binOp .eql 28 x y 28) (h1 : ev x = .agg (bys xs)) (h2 : ev y = .agg (bys xs)) (W : World) :
    (execOp ev o).run Tryd.prog W = .ok (.value (.bool true)) W := by
  unfold execOp
  rw [ho]
  simp only [h1, h2, Sem.run_map, Sem.run_bind, run_eqGuard_agg (P := Tryd.prog) W .eql 28 x y (bys xs) (bys xs) (by kernel_rfl), run_eql_struct, Result.andThen_ok, equal28_same xs hx _ W]
  rfl
/-! The map of counts. -/
def Cnt (w : World) (b n : Nat) (f : ByteArray → Nat) : Prop :=
  ∃ D : D1, w.ownsMap Tryd.prog 9 (plainElem Tryd.prog 3) b n D ∧ ∀ k : ByteArray, D.atKey (.string k.data.toList) (.lit (.int .i64 0)) = .lit (.int .i64 (f k : Int))
theorem zero3 (w : World) : (zeroValue 3).run Tryd.prog w = .ok (.int .i64 0) w := by kernel_rfl
section
variable {w w' : World} {b n : Nat} {f : ByteArray → Nat}
theorem Cnt.look (h : Cnt w b n f) (k : ByteArray) (hk : k.size ≤ maxLen) : (Instr.lookup 72 (.map (some b)) (.string k) false).run Tryd.prog w = .ok (.int .i64 (f k : Int)) w := by
  obtain ⟨D, hown, hf⟩ := h
  obtain ⟨c, hr, hat, _⟩ := hown.lookup_int law9 Tryd.underlying72 Tryd.underlying3 (zero3 w) (WideMaps.keyOf_string_mk Tryd.underlying9 hk)
  rw [hf k] at hat
  have e : (f k : Int) = c := by simpa using hat
  rw [e]
  exact hr
def bump (f : ByteArray → Nat) (k : ByteArray) : ByteArray → Nat := fun q => if q = k then f k + 1 else f q
theorem Cnt.put (h : Cnt w b n f) (hn : n < maxLen) (k : ByteArray) (hk : k.size ≤ maxLen) (hf1 : f k ≤ 100000) : ∃ w', (Instr.mapUpdate 72 (.map (some b)) (.string k) (.int .i64 ((f k : Int) + 1))).run Tryd.prog w = .ok () w' ∧ Cnt w' b (n + 1) (bump f k) ∧ w.grownBy w' (some b) := by
  obtain ⟨D, hown, hf⟩ := h
  have hD := hown.isMap
  obtain ⟨w', hr, h1, ht⟩ := hown.store law9 Tryd.underlying72 hn (WideMaps.keyOf_string_mk Tryd.underlying9 hk) (plainElem_int Tryd.underlying3 (a := (f k : Int) + 1) (WalkArith.wf_i64 (by omega)))
  refine ⟨w', hr, ⟨_, h1, fun q => ?_⟩, ht.grown⟩
  by_cases e : q = k
  · subst e
    rw [atKey_put_same hD (show WideAt.IsKeyLit (Lit.string q.data.toList) from trivial)]
    simp [bump]
  · rw [atKey_put_other (fun e2 => e (bytes_inj (by simpa using e2))), hf q]
    simp [bump, e]
theorem Cnt.lt (h : Cnt w b n f) : b < w.heap.size := by
  obtain ⟨D, hown, _⟩ := h
  exact hown.lt
theorem Cnt.keep (h : Cnt w b n f) (h1 : w'.heap[b]? = w.heap[b]?) : Cnt w' b n f := by
  obtain ⟨D, ⟨es, clock, h2, r⟩, hf⟩ := h
  exact ⟨D, ⟨es, clock, h1.trans h2, r⟩, hf⟩
theorem Cnt.below (h : Cnt w b n f) (hb : Below w.heap.size w w') : Cnt w' b n f := h.keep (hb.block b h.lt)
theorem Cnt.more (h : Cnt w b n f) {m : Nat} (hm : n ≤ m) : Cnt w b m f := by
  obtain ⟨D, hown, hf⟩ := h
  exact ⟨D, hown.mono hm, hf⟩
end
theorem Cnt.made (w : World) : Cnt (w.alloc (.map #[] 0)) w.heap.size 0 (fun _ => 0) := ⟨.map [], World.ownsMap_made _ _ _ _, fun k => rfl⟩
/-! What the law says. -/
theorem chk_right {us : List Usr} {u nm sec : ByteArray} {n : List Int} (h : secretOf us u = (sec, true)) : chk us u nm n (answer sec nm n) = 0 := by
  unfold chk
  rw [h, if_pos ⟨rfl, rfl⟩]
theorem chk_zero {us : List Usr} {u nm : ByteArray} {n s : List Int} (h : chk us u nm n s = 0) : (secretOf us u).2 = true ∧ answer (secretOf us u).1 nm n = s := by
  unfold chk at h
  split at h
  · assumption
  · cases h
theorem found_mem {ms : List Md} {name : ByteArray} (h : (found ms name).2 = true) : (found ms name).1 ∈ ms ∧ (found ms name).1.1 = name := by
  unfold found at h ⊢
  split
  · rename_i m hm
    exact ⟨List.mem_of_find?_eq_some hm, by simpa using List.find?_some hm⟩
  · rename_i hm
    rw [hm] at h
    cases h
theorem found_fin : found [finM] ⟨#[109]⟩ = (finM, true) := by kernel_rfl
theorem key_str {x : ByteArray} {kl : Lit} (h : keyOf Tryd.prog 9 (.string x) = some kl) : kl = .string x.data.toList := by
  have h9 := Tryd.underlying9
  simp [keyOf, h9, mapKey] at h
  exact h.2.symm
/-- The step of a range over a map of counts. -/
theorem next_si (w : World) {ops : Array Oper} {rest : List Oper} {o : Oper} {a : Act} {Q : Exit → Act → World → Prop}
    (hg : o.guard = none) (it : Operand) (hop : o.op = Op.next it false) (b r n : Nat) (D : D1) (left : Lit → Bool) (cnt : Nat) (hit : a.eval it = .pointer (some ⟨r, 0, none⟩)) (h : w.ranges Tryd.prog 9 (plainElem Tryd.prog 3) b r n D left cnt)
    (hDone : wpList Tryd.prog ops Q rest (a.put o.dst (.tuple #[.bool false])) w)
    (hMore : ∀ (x : ByteArray) (c : Int) (w' : World) (cnt' : Nat), (∀ zd, D.atKey (.string x.data.toList) zd = .lit (.int .i64 c)) → w'.ranges Tryd.prog 9 (plainElem Tryd.prog 3) b r n D (fun z => left z && !z.sameKey (.string x.data.toList)) cnt' → cnt' < cnt →
      w.grownBy w' (some r) → (Instr.entry (.pointer (some ⟨r, 0, none⟩))).run Tryd.prog w' = .ok (.tuple #[.string x, .int .i64 c]) w' → wpList Tryd.prog ops Q rest (a.put o.dst (.tuple #[.bool true, .string x, .int .i64 c])) w') :
    wpList Tryd.prog ops Q (o :: rest) a w :=
  wpList_next_ranges w hg it hop 9 law9 (plainElem Tryd.prog 3) Value.string (Value.int .i64) (fun key kl hkey => keyOf_string_inv Tryd.underlying9 hkey) (fun v y hv => by obtain ⟨a, e, _⟩ := plainElem_int_inv Tryd.underlying3 hv; exact ⟨a, e⟩) b r n D left cnt hit h (fun _ _ => hDone)
    (fun x c kl y w' cnt' hkey _ hv hat hrg hlt hgr _ hen => by
      obtain rfl := key_str hkey
      obtain ⟨c', ec, rfl, _⟩ := plainElem_int_inv Tryd.underlying3 hv
      cases ec
      exact hMore x c w' cnt' hat hrg hlt hgr hen)
end Go.Proofs.YtgoephcembgmcaaDoor.Cf
