/-
  Of those who come, by the modules of any text, just those are let in who answer with the secret of a user there, as long as there are slots: the law returns true for every input. Its listed variables (tables and sentinels of Go's library) are tied to the program's text (the tie is given). No conditions beyond the statement.
-/
import Derived.Test.YtgoephcembgmcaaDoorZ09
import Derived.Deep.Slices
import Derived.Deep.SlicePairs
import Derived.ProofKit
import Derived.OpenShut
import Derived.HandedShaped
import Derived.LaidMore
import Derived.Lay
import Derived.Lib.LaidTab
import Derived.Stop.LaidErr
import Derived.Shelf.Vars
import Derived.Stop.Joined
import Derived.Test.YtgoephcembgmcaaDoorRows
import Derived.Test.YtgoephcembgmcaaDoorCards
import Derived.Test.YtgoephcembgmcaaDoorTie
import Derived.WalkKit
import Derived.ShutString
import Derived.ChangeOld
import Derived.Below
import Derived.SizedLaws
import Derived.LaidLaws
import Derived.LaidHandle
import Derived.SevenTiedAt
import Derived.Test.YtgoephcembgmcaaDoorWSized
set_option linter.unusedSimpArgs false
set_option linter.unusedVariables false
namespace Go.Proofs.YtgoephcembgmcaaDoor.Cf
open Go.RowKit Go.ChangeShapes Go.WideShapes Go.ChangeAt Go.Deep Go.Proofs.YtgoephcembgmcaaDoorW.PrintWords
open Go.Proofs.YtgoephcembgmcaaDoor.WkM (w64 Bytes)
/-! The arguments opened: the guests. -/
theorem nums_of : ∀ l : List Value, (∀ i, i < l.length → ∃ z, (l.drop i).take 1 = [Value.int .u8 z] ∧ (Lit.int .u8 z).wf = true) → ∃ n : List Int, l = n.map (Value.int .u8) ∧ ∀ z ∈ n, (Lit.int .u8 z).wf = true
  | [], _ => ⟨[], rfl, fun z hz => by cases hz⟩
  | v :: l, h => by
    obtain ⟨z, h1, h2⟩ := h 0 (by simp)
    obtain ⟨n, hn, hz⟩ := nums_of l (fun i hi => by
      obtain ⟨z, h3, h4⟩ := h (i + 1) (by simpa using hi)
      exact ⟨z, by simpa using h3, h4⟩)
    have e : v = .int .u8 z := by simpa using h1
    refine ⟨z :: n, by rw [e, hn]; rfl, ?_⟩
    intro y hy
    rcases List.mem_cons.1 hy with rfl | hy
    · exact h2
    · exact hz y hy
section
variable {H : Type} {enc : TypeId × Value → H} {W : World} {base : Nat} {fuel : Nat}
theorem nonce_of {cs : List Value} {x : DataW H × List MemPlace} (h : DataW.trod enc Tryd.prog W base (fun _ => true) true fuel 30 cs = some x) : ∃ n : List Int, cs = n.map (Value.int .u8) ∧ n.length = 16 ∧ Bytes n := by
  obtain ⟨xs, m, _, _, hl, hx, hel⟩ := DataW.trod_array Tryd.underlying30 h
  have c5 : Tryd.prog.cellsOf 5 = 1 := by kernel_rfl
  have c30 : Tryd.prog.cellsOf 30 = 16 := by kernel_rfl
  rw [c30] at hl
  obtain ⟨n, hn, hz⟩ := nums_of cs (fun i hi => by
    have h1 := hel i (by omega)
    rw [c5, Nat.mul_one, List.getElem?_eq_getElem (by omega)] at h1
    obtain ⟨z, e1, _, e3⟩ := DataW.trod_int Tryd.underlying5 h1
    exact ⟨z, e1, e3⟩)
  refine ⟨n, hn, by rw [hn, List.length_map] at hl; exact hl, WkM.bytes_wf hz⟩
set_option maxRecDepth 100000 in
theorem guest_of {cs : List Value} {x : DataW H × List MemPlace} (hl : cs.length = 19) (h : DataW.trod enc Tryd.prog W base (fun _ => true) true fuel 74 cs = some x) : ∃ y : Gst, cs = gc y ∧ Guest y := by
  obtain ⟨xs, n, _, _, _, hx, hf⟩ := DataW.trod_struct Tryd.underlying74 h
  have c9 : Tryd.prog.cellsOf 9 = 1 := by kernel_rfl
  have c30 : Tryd.prog.cellsOf 30 = 16 := by kernel_rfl
  match xs, hx with
  | [y0, y1, y2, y3], _ =>
    have g0 := hf 0 _ rfl
    have g1 := hf 1 _ rfl
    have g2 := hf 2 _ rfl
    have g3 := hf 3 _ rfl
    simp only [c9, c30, List.getElem?_cons_zero, List.getElem?_cons_succ] at g0 g1 g2 g3
    obtain ⟨s0, e0, _⟩ := DataW.trod_string Tryd.underlying9 g0
    obtain ⟨s1, e1, _⟩ := DataW.trod_string Tryd.underlying9 g1
    obtain ⟨s2, e2, _⟩ := DataW.trod_string Tryd.underlying9 g2
    obtain ⟨nc, e3, h3, h4⟩ := nonce_of g3
    rcases cs with _ | ⟨v0, _ | ⟨v1, _ | ⟨v2, r⟩⟩⟩
    · exact absurd hl (by decide)
    · exact absurd hl (by simp)
    · exact absurd hl (by simp)
    · have f0 : v0 = .string s0 := (List.cons.inj (show [v0] = [Value.string s0] from e0)).1
      have f1 : v1 = .string s1 := (List.cons.inj (show [v1] = [Value.string s1] from e1)).1
      have f2 : v2 = .string s2 := (List.cons.inj (show [v2] = [Value.string s2] from e2)).1
      have f3 : r = nc.map (Value.int .u8) := by
        have hr : r.length = 16 := by
          have h9 : r.length + 3 = 19 := hl
          omega
        have : r.take 16 = r := List.take_of_length_le (by omega)
        have e4 : r.take 16 = nc.map (Value.int .u8) := e3
        rw [this] at e4
        exact e4
      subst f0 f1 f2 f3
      exact ⟨(s0, s1, s2, nc), rfl, h3, h4⟩
theorem guests_of {a : Option Addr} {len cap : Nat} {x : DataW H × List MemPlace} (h : DataW.trod enc Tryd.prog W base (fun _ => true) true fuel 57 [.slice a len cap] = some x) : len ≤ cap ∧ ∃ gs : List Gst, len = gs.length ∧ Gs W a gs ∧ ∀ y ∈ gs, Guest y := by
  rcases open_slice Tryd.underlying57 h with ⟨hcs, _⟩ | ⟨ad, l, c, m, n, D, Pl, hcs, _, hl, hm, hmm, _, hi⟩
  · simp at hcs
    obtain ⟨rfl, rfl, rfl⟩ := hcs
    exact ⟨Nat.le_refl _, [], rfl, fun h => absurd h (by decide), fun y hy => by cases hy⟩
  · simp at hcs
    obtain ⟨rfl, rfl, rfl⟩ := hcs
    have hmc : m = cap := by simpa using hmm
    have c74 : Tryd.prog.cellsOf 74 = 19 := by kernel_rfl
    have each : ∀ i, i < len → ∃ y : Gst, Guest y ∧ ∀ j v, (gc y)[j]? = some v → W.cell? ((ad.add (i * 19)).add j) = some v := by
      intro i hlt
      obtain ⟨cs', h1, h2⟩ := hi i (by omega)
      rw [c74] at h1
      obtain ⟨_, hlen, hcell⟩ := World.cells?_some h1
      obtain ⟨y, rfl, hy⟩ := guest_of hlen h2
      refine ⟨y, hy, fun j v hj => ?_⟩
      have hj' : j < 19 := by
        have := (List.getElem?_eq_some_iff.1 hj).1
        omega
      have := hcell j hj'
      rw [hj] at this
      exact this
    refine ⟨hl, ?_⟩
    have all : ∀ k, k ≤ len → ∃ gs : List Gst, gs.length = k ∧ (∀ y ∈ gs, Guest y) ∧ ∀ i y, gs[i]? = some y → ∀ j v, (gc y)[j]? = some v → W.cell? ((ad.add (i * 19)).add j) = some v := by
      intro k
      induction k with
      | zero => exact fun _ => ⟨[], rfl, fun y hy => (by cases hy), fun i y h => by simp at h⟩
      | succ k ih =>
        intro hk
        obtain ⟨gs, g1, g2, g3⟩ := ih (by omega)
        obtain ⟨y, hy1, hy2⟩ := each k (by omega)
        refine ⟨gs ++ [y], by rw [List.length_append, g1]; rfl, ?_, ?_⟩
        · intro z hz
          rcases List.mem_append.1 hz with hz | hz
          · exact g2 z hz
          · rw [List.mem_singleton.1 hz]
            exact hy1
        · intro i z hz j v hj
          by_cases hik : i < gs.length
          · rw [List.getElem?_append_left hik] at hz
            exact g3 i z hz j v hj
          · have hi2 : i = k := by
              have := (List.getElem?_eq_some_iff.1 hz).1
              rw [List.length_append, List.length_singleton] at this
              omega
            subst hi2
            rw [List.getElem?_append_right (by omega), g1, Nat.sub_self] at hz
            obtain rfl := Option.some.inj hz
            exact hy2 j v hj
    obtain ⟨gs, g1, g2, g3⟩ := all len (Nat.le_refl _)
    exact ⟨gs, g1.symm, fun _ => ⟨ad, rfl, g3⟩, g2⟩
end
end Go.Proofs.YtgoephcembgmcaaDoor.Cf
namespace Go.Proofs.YtgoephcembgmcaaDoor.wholeAdmits
open Go.ChangeShapes Go.WideShapes Go.ChangeAt Go.RowKit
open Go.ChangeMaps (open_string shut_string)
open Go.Proofs.YtgoephcembgmcaaDoorW.PrintWords
theorem own : ownKnob Tryd.prog.godebug = none := by kernel_rfl
theorem laidOut : laidOutB Tryd.prog = true := by kernel_rfl
abbrev laidS : List (String × DataW Unit) := [("math/bits.deBruijn32tab", Rows.laid_math_bits_deBruijn32tab), ("math/bits.deBruijn64tab", Rows.laid_math_bits_deBruijn64tab), ("internal/strconv.uint64pow10", Rows.laid_internal_strconv_uint64pow10), ("unicode/utf8.acceptRanges", Rows.laid_unicode_utf8_acceptRanges), ("strconv.ErrRange", Rows.laid_strconv_ErrRange), ("strconv.ErrSyntax", Rows.laid_strconv_ErrSyntax), ("unicode/utf8.first", Rows.laid_unicode_utf8_first)]
/-- The world's shape handed on beside the row's condition on the listed variables. -/
theorem change_and_shaped {H : Type} {enc : TypeId × Value → H} {a : Assume} {C : Checked} {os : Os} {f : FuncId} {fn : Func} {s : ChangeSpec} {conds : List PathCond} {apart fresh handsOn again : Bool} {X : World → Array Value → Prop}
    (hX : ∀ (w w' : World) (args : Array Value), w.heap = w'.heap → X w args → X w' args) (own : ownKnob C.prog.godebug = none) (started : os.Started) (noInit : C.prog.inits.idxOf? f = none) (hfn : C.prog.funcs[f]? = some fn)
    (witness : ∃ (w : World) (tape : Tape) (i : Input), w.os = os ∧ (w.forCall tape i).Shaped C.prog ∧ i.vars = [] ∧ Input.okWide C.prog (w.forCall tape i) .any w.heap.size f i ∧
      ((s.pre enc C.prog fn conds apart (w.forCall tape i).memory i.args ∧ X (w.forCall tape i).memory i.args) ∧ sizedMet enc C.prog fn (OpenSpec.ofChange s) apart (w.forCall tape i).memory i.args) ∧ a.holds C.prog (lone (Frame.enter C.prog f i.args .normal) [] (w.forCall tape i)))
    (contract : ∀ (W : World) (base : Nat) (args : Array Value) (ds gs : List (DataW H)) (before : List MemPlace),
      (∀ (j : Nat) t v, fn.params[j]? = some t → args[j]? = some v → Value.okWide C.prog W .any base t v) → DataW.Whole enc C.prog fn.params.toList s.vars apart W args.toList ds gs before → X W args → W.ShapedOpen C.prog →
      Calls C.prog f args W fun e W' => ∃ v, e = .returned v ∧ s.post enc C.prog fn apart fresh handsOn again W args v W') :
    ReturnsInHanded a C os f .any (fun w args => (s.pre enc C.prog fn conds apart w args ∧ X w args) ∧ sizedMet enc C.prog fn (OpenSpec.ofChange s) apart w args) (s.post enc C.prog fn apart fresh handsOn again) := by
  refine returnsInHanded_of_calls own started noInit witness ?_
  intro w tape i _ hsh _ hok hpre _
  obtain ⟨_, _, _, fn', hfn', _, _, _, _, hval⟩ := hok
  obtain rfl : fn' = fn := Option.some.inj (hfn'.symm.trans hfn)
  obtain ⟨⟨⟨ds, gs, before, hw, _⟩, hx⟩, _⟩ := hpre
  refine (contract (w.forCall tape i) w.heap.size i.args ds gs before hval (DataW.Whole.of_heap (w' := w.forCall tape i) (by rfl) hw) (hX _ _ _ (by rfl) hx) hsh).mono fun e W' ⟨v, he, hp⟩ => ?_
  subst he
  exact ChangeSpec.post_blind hp
theorem star : "*" ++ "errors.errorString" = "*errors.errorString" := by decide
theorem row252 (u : TypeId) (h : Tryd.prog.typeName? 3 u = some "*errors.errorString") : u = 252 :=
  typeName_ptr_named (nm := "errors.errorString") (by rw [star]; kernel_rfl) (by kernel_rfl) (by decide) u (by rw [star]; exact h)
theorem gSyn : Tryd.prog.globalNamed "strconv.ErrSyntax" = some 4 := by kernel_rfl
theorem gRng : Tryd.prog.globalNamed "strconv.ErrRange" = some 5 := by kernel_rfl
theorem gTab : Tryd.prog.globalNamed "internal/strconv.uint64pow10" = some 6 := by kernel_rfl
theorem tSyn : (Tryd.prog.globals[4]?).map (·.type) = some 45 := by kernel_rfl
theorem tRng : (Tryd.prog.globals[5]?).map (·.type) = some 45 := by kernel_rfl
theorem tTab : (Tryd.prog.globals[6]?).map (·.type) = some 256 := by kernel_rfl
theorem cells254 : Tryd.prog.cellsOf 254 = 1 := by kernel_rfl
theorem cells9 : Tryd.prog.cellsOf 9 = 1 := by kernel_rfl
theorem cells195 : Tryd.prog.cellsOf 195 = 1 := by kernel_rfl
theorem cells256 : Tryd.prog.cellsOf 256 = 20 := by kernel_rfl
/-- What the condition and the world's shape give: the library's variables. -/
theorem glob_of_laid {W : World} (h : laidMetH Tryd.prog laidS W) (hs : W.ShapedOpen Tryd.prog) : Cf.Glob W := by
  rw [MakeChecks.laidMetH_plain _ _ _ (by kernel_rfl)] at h
  have h2 := h.tail.tail
  have ht : Lib.TabIs Tryd.prog W "internal/strconv.uint64pow10" .u64 Lib.pow10Tab := Lib.tabIs_of_head gTab tTab Tryd.underlying256 Tryd.underlying195 cells195 cells256 h2
  have h4 := h2.tail.tail
  obtain ⟨a5, s5, hv5, _⟩ := laid_sentinel h4 gRng tRng Tryd.underlying45 row252 Tryd.underlying252 Tryd.underlying254 rfl rfl Tryd.underlying9 cells254 cells9
  obtain ⟨a4, s4, hv4, _⟩ := laid_sentinel h4.tail gSyn tSyn Tryd.underlying45 row252 Tryd.underlying252 Tryd.underlying254 rfl rfl Tryd.underlying9 cells254 cells9
  have c5 := World.var?_cell gRng hv5 0
  have c4 := World.var?_cell gSyn hv4 0
  exact ⟨⟨_, _, c4⟩, ⟨_, _, c5⟩, ht, cell_of_shapedOpen_int (zero := #[.int .i64 0]) (t := 3) hs (of_decide_eq_true (by kernel_rfl)) (by kernel_rfl) rfl (by kernel_rfl) (by kernel_rfl) Tryd.underlying3⟩
set_option maxRecDepth 100000 in
theorem lifted (os : Os) (started : os.Started) (H : Type) (enc : TypeId × Value → H) :
    ReturnsInHanded {} Tryd.checked os 4 .any (fun w args => (Rows.wholeAdmitsSpec.pre enc Tryd.prog Tryd.f4 [] false w args ∧ laidMetH Tryd.prog laidS w) ∧ sizedMet enc Tryd.prog Tryd.f4 (OpenSpec.ofChange Rows.wholeAdmitsSpec) false w args)
      (Rows.wholeAdmitsSpec.post enc Tryd.prog Tryd.f4 false true false false) := by
  refine change_and_shaped (C := Tryd.checked) (X := fun w _ => laidMetH Tryd.prog laidS w) (fun _ _ _ hh h => h.of_heap hh) own started (by kernel_rfl) Tryd.func4
    (ChangeSpec.witness_shaped (enc := enc) (C := Tryd.checked) (os := os) (X := fun w _ => laidMetH Tryd.prog laidS w) false (World.laidAll Tryd.prog os laidS) #[.string ⟨#[]⟩, .slice none 0 0] 8 (World.laidAll_os _ _ _)
      (World.shaped_of_ZipB (by kernel_rfl) (by kernel_rfl)) (by kernel_rfl) (by kernel_rfl) (by kernel_rfl)
      (by rw [MakeChecks.laidMetH_plain _ _ _ (by kernel_rfl)]; exact laidMet_laidAll _ (by kernel_rfl) (by kernel_rfl))) ?_
  intro W base args ds gs before hval0 hW hL hSh
  have hval : ∀ (j : Nat) t v, Tryd.f4.params[j]? = some t → args[j]? = some v → Value.okWide Tryd.prog W .any base t v := hval0
  have hW' := hW
  obtain ⟨p, q, hA0, hV, rfl, hfz, hnd⟩ := hW
  have hA : DataW.TrodAll enc Tryd.prog W 0 (fun _ => true) true Tryd.f4.params.toList args.toList ds p := hA0
  rw [Tryd.params4] at hA hval
  obtain ⟨v0, vs0, d0, ds0, p0, q0, hargs, rfl, rfl, h0, r0⟩ := trodAll_cons hA
  obtain ⟨v1, vs1, d1, ds1, p1, q1, rfl, rfl, rfl, h1, r1⟩ := trodAll_cons r0
  obtain ⟨rfl, rfl, rfl⟩ := trodAll_nil r1
  obtain rfl : args = #[v0, v1] := by cases args; simp_all
  obtain ⟨rfl, rfl⟩ := trodVars_none hV
  obtain ⟨s, rfl, rfl, rfl, ws⟩ := open_string Tryd.underlying9 (hval 0 9 v0 rfl rfl) h0
  obtain ⟨a1, len1, cap1, rfl⟩ := okWide_slice Tryd.underlying57 (hval 1 57 v1 rfl rfl)
  have k1 := h1
  have lt1 : ∀ x ∈ p1, x.block < W.heap.size := by obtain ⟨m, hm⟩ := k1; exact DataW.trod_lt m _ _ _ hm
  obtain ⟨hc, xs, rfl, hG, hg⟩ : len1 ≤ cap1 ∧ ∃ xs : List Cf.Gst, len1 = xs.length ∧ Cf.Gs W a1 xs ∧ ∀ y ∈ xs, Cf.Guest y := by
    obtain ⟨fuel, hf⟩ := h1
    exact Cf.guests_of hf
  have hglob := glob_of_laid hL hSh
  clear hA0 hval0
  refine (Cf.law_any a1 cap1 xs s W hglob hG hc hg).mono fun e W' ⟨he, bel⟩ => ?_
  subst he
  exact ⟨_, rfl, _, _, _, [], _, [], hW', trodAll_mk1 (shut_bool Tryd.underlying4 _), (trodAll_cons_mk (shut_string Tryd.underlying9 ws) (trodAll_cons_mk (Below.trod laidOut (by kernel_rfl) (of_decide_eq_true (by kernel_rfl)) k1 bel lt1) trodAll_mk0)), rfl, bel.frame _, fun h => by cases h⟩
theorem holds_row : Rows.WholeAdmitsSaid :=
  OpenClaim.holds_of_wide 4 Tryd.f4 rfl rfl rfl rfl rfl rfl rfl ⟨rfl, rfl, rfl, rfl, rfl⟩ rfl rfl rfl rfl rfl (by kernel_rfl) Tryd.func4 (by kernel_rfl)
    (of_decide_eq_true (by kernel_rfl)) (by unfold Func.isWrapper; first | (rw [if_pos (by decide +kernel)]; kernel_rfl) | (rw [if_neg (by decide +kernel)]; exact ⟨rfl, rfl⟩))
    (fun os started H enc _ => lifted os started H enc)
end Go.Proofs.YtgoephcembgmcaaDoor.wholeAdmits
namespace Go.Proofs.YtgoephcembgmcaaDoor
open Go
theorem wholeAdmits_card : Rows.WholeAdmitsCardSaid :=
  Claim7.holds_tied_plain_at .later [] [.data, .data, .data, .data, .sentinel, .sentinel, .pinned] true (true, "f5ac34827a4a7ef543d6c70500b536c80b1088aee01bcb72b96a2c4ae270f92d") true
    wholeAdmits.holds_row (fun _ h => by cases h) (by kernel_rfl) (fun _ h => by cases h) wholeAdmits_row_tie rfl ⟨rfl, rfl⟩ (by kernel_rfl) rfl
    (fun f fn hf hfn => by
      obtain rfl : f = 4 := Option.some.inj ((show Tryd.prog.funcNamed "wharfinger/wharfingertop.WholeAdmits" = some 4 by kernel_rfl).symm.trans hf) |>.symm
      obtain rfl : fn = Tryd.f4 := (Option.some.inj (Tryd.func4.symm.trans hfn)).symm
      exact ⟨by kernel_rfl, fun j t ht => by
        rw [Tryd.params4] at ht
        have hm : t ∈ [9, 57] := by simpa using Array.mem_of_getElem? ht
        have hall : ([9, 57].all fun u => !Tryd.prog.wantsStandIn u) = true := by kernel_rfl
        exact (show Tryd.prog.wantsStandIn t = false by simpa using List.all_eq_true.1 hall t hm)⟩)
    (by kernel_rfl)
end Go.Proofs.YtgoephcembgmcaaDoor
#print axioms Go.Proofs.YtgoephcembgmcaaDoor.wholeAdmits_card
