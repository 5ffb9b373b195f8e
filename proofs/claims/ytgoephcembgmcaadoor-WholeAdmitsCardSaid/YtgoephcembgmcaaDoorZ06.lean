/- Texts of the proof, merged: So4 So5 So6 Cn1 Cn2 Cn3 Cn4 Cn5 Cn6 Cn7 Cm1 Cm2. -/
import Derived.Test.YtgoephcembgmcaaDoorZ05
import Derived.Laws.RangeAny
import Derived.Test.YtgoephcembgmcaaDoorShelf
import Derived.Lib.SplitLaws
import Derived.Test.YtgoephcembgmcaaDoorWApart
import Derived.Maps.Views
set_option linter.unusedSimpArgs false
set_option linter.unusedVariables false
namespace Go.Proofs.YtgoephcembgmcaaDoor.Cf
open Go.RowKit Go.Proofs.YtgoephcembgmcaaDoorW.PrintWords Go.Proofs.YtgoephcembgmcaaDoorW.PrintLast Go.Proofs.YtgoephcembgmcaaDoor.Wk Go.Proofs.YtgoephcembgmcaaDoor.Fr Go.Proofs.YtgoephcembgmcaaDoor.Sh Go.Proofs.YtgoephcembgmcaaDoor.Sl
/-! A config's rows: users, modules. Module.Secret. -/
abbrev Usr := ByteArray × ByteArray
def KU : Kd Usr := Kd.pair Kd.string Kd.string
abbrev Md := ByteArray × ByteArray × Bool × Int × Int × List Usr
def KM : Kd Md := Kd.pair Kd.string (Kd.pair Kd.string (Kd.pair Kd.bool (Kd.pair (Kd.int .i64) (Kd.pair (Kd.int .i64) (Kd.slice 126 KU)))))
theorem KU_K {w : World} {x : Usr} {cs : List Value} (h : KU.K w x cs) : cs = [.string x.1, .string x.2] := by
  obtain ⟨c0, c1, rfl, h0, h1⟩ := h
  rw [show c0 = [Value.string x.1] from h0, show c1 = [Value.string x.2] from h1]
  rfl
theorem add_add (ad : Addr) (i j : Nat) : (ad.add i).add j = ad.add (i + j) := by
  unfold Addr.add
  by_cases h1 : i = 0 <;> by_cases h2 : j = 0 <;> simp [h1, h2, Nat.add_assoc]
theorem KU_get {w : World} {A : Option Addr} {n : Nat} {us : List Usr} (h : KU.C w A n us) (i : Nat) (x : Usr) (hx : us[i]? = some x) : ∃ ad, A = some ad ∧ w.cell? (ad.add (i * 2)) = some (.string x.1) ∧ w.cell? ⟨(ad.add (i * 2)).block, (ad.add (i * 2)).off + 1, none⟩ = some (.string x.2) := by
  have hi : i < us.length := (List.getElem?_eq_some_iff.1 hx).1
  obtain ⟨ad, c, e, _, hK, hc⟩ := Kd.C_get h x (i : Int) (by omega) (by have := h.1; omega)
  rw [Int.toNat_natCast, List.getD_eq_getElem?_getD, hx, Option.getD_some] at hK
  rw [KU_K hK] at hc
  rw [Int.toNat_natCast] at hc
  exact ⟨ad, e, hc 0 _ rfl, (congrArg w.cell? (add_add ad (i * 2) 1)).trans (hc 1 _ rfl)⟩
def secretOf (us : List Usr) (u : ByteArray) : ByteArray × Bool := match us.find? (fun p => decide (p.1 = u)) with
  | some p => (p.2, true)
  | none => (ByteArray.empty, false)
theorem secret_hit (x : Usr) (l : List Usr) (u : ByteArray) (h : x.1 = u) : secretOf (x :: l) u = (x.2, true) := by
  unfold secretOf
  rw [List.find?_cons_of_pos (by simpa using h)]
theorem secret_miss (x : Usr) (l : List Usr) (u : ByteArray) (h : ¬ x.1 = u) : secretOf (x :: l) u = secretOf l u := by
  unfold secretOf
  rw [List.find?_cons_of_neg (by simpa using h)]
theorem secret_nil (u : ByteArray) : secretOf [] u = (ByteArray.empty, false) := rfl
set_option maxHeartbeats 1000000 in
set_option maxRecDepth 100000 in
theorem secret_ok (nm rt u : ByteArray) (x2 x3 x4 : Value) (A : Option Addr) (c : Nat) (us : List Usr) (w : World) (hC : KU.C w A us.length us) (hl : us.length ≤ 1000) :
    Calls Tryd.prog 17 #[.agg #[.string nm, .string rt, x2, x3, x4, .slice A us.length c], .string u] w fun e w' => e = .returned (.tuple #[.string (secretOf us u).1, .bool (secretOf us u).2]) ∧ Below w.heap.size w w' := by
  obtain ⟨n, hn⟩ : ∃ z, z = us.length := ⟨_, rfl⟩
  rw [← hn] at hC hl ⊢
  have HC := hide hC
  have HL := hide hl
  have HN := hide hn
  have hu65 := Tryd.underlying65
  have hu126 := Tryd.underlying126
  have B1 : Hid (Below w.heap.size w (w.alloc (.cells #[.string nm, .string rt, x2, x3, x4, .slice A n c] 65))) := below_alloc (Below.refl _ _) _
  clear hC hl hn
  go_enter Tryd.func17, Tryd.ntmps17
  go_wp2_with fail
  go_loopg [11] n (fun kq v11 wr => ∃ (i : Nat), v11 = .int .i64 (i : Int) ∧ Hid (i + kq = n) ∧ Hid (Below w.heap.size w wr) ∧ Hid (secretOf us u = secretOf (us.drop i) u))
  case atStart => exact ⟨0, rfl, Nat.zero_add _, B1, rfl⟩
  case round =>
    obtain ⟨i, rfl, HI, HB, HE⟩ := hrel
    by_cases hlt : i < n
    · have hu : i < us.length := by have := unhide HN; omega
      obtain ⟨x, hx⟩ : ∃ x, us[i]? = some x := ⟨_, List.getElem?_eq_getElem hu⟩
      obtain ⟨ad, rfl, k0, k1⟩ := KU_get (Kd.C_below (unhide HC) (unhide HB)) i x hx
      have hd : us.drop i = x :: us.drop (i + 1) := by
        rw [List.drop_eq_getElem_cons hu]
        congr 1
        exact Option.some.inj ((List.getElem?_eq_getElem hu).symm.trans hx)
      have d1 : (i : Int) < (n : Int) := by omega
      have HD := hide hd
      have HX := hide hx
      have HLT := hide hlt
      clear hd hx hlt hu
      have B2 : Hid (Below w.heap.size w (wr.alloc (.cells #[.string x.1, .string x.2] 126))) := below_alloc (unhide HB) _
      by_cases e : x.1 = u
      · have hq := str_eq e
        have HQ := hide e
        clear e
        go_wp2_with fail
        go_ret2
        refine ⟨?_, unhide B2⟩
        rw [unhide HE, unhide HD, secret_hit _ _ _ (unhide HQ)]
        rfl
      · have hq := str_ne e
        have HQ := hide e
        clear e
        go_wp2_with fail
        go_roundg (gk - 1)
        case measure => have := unhide HI; have := unhide HLT; omega
        case rel =>
          refine ⟨i + 1, congrArg (Value.int .i64) (by have := unhide HL; have := unhide HLT; unfold wrap64; omega), by have := unhide HI; have := unhide HLT; show _ = _; omega, B2, ?_⟩
          show _ = _
          rw [unhide HE, unhide HD, secret_miss _ _ _ (unhide HQ)]
    · have d1 : ¬ (i : Int) < (n : Int) := by omega
      have hd : us.drop i = [] := List.drop_of_length_le (by have := unhide HN; omega)
      have HD := hide hd
      clear hd
      go_wp2_with fail
      go_ret2
      refine ⟨?_, unhide HB⟩
      rw [unhide HE, unhide HD, secret_nil]
      rfl
end Go.Proofs.YtgoephcembgmcaaDoor.Cf
namespace Go.Proofs.YtgoephcembgmcaaDoor.Cf
open Go.RowKit Go.Proofs.YtgoephcembgmcaaDoorW.PrintWords Go.Proofs.YtgoephcembgmcaaDoorW.PrintLast Go.Proofs.YtgoephcembgmcaaDoor.Wk Go.Proofs.YtgoephcembgmcaaDoor.Fr Go.Proofs.YtgoephcembgmcaaDoor.Sh Go.Proofs.YtgoephcembgmcaaDoor.Sl
/-! Config.Find. -/
/-- A module's cells. -/
def mv (m : Md) (A : Option Addr) (c : Nat) : Array Value := #[.string m.1, .string m.2.1, .bool m.2.2.1, .int .i64 m.2.2.2.1, .int .i64 m.2.2.2.2.1, .slice A m.2.2.2.2.2.length c]
def noM : Md := (ByteArray.empty, ByteArray.empty, false, 0, 0, [])
theorem KM_K {w : World} {m : Md} {cs : List Value} (h : KM.K w m cs) : ∃ A c, cs = (mv m A c).toList ∧ m.2.2.2.2.2.length ≤ c ∧ KU.C w A m.2.2.2.2.2.length m.2.2.2.2.2 := by
  obtain ⟨c0, d0, rfl, h0, c1, d1, rfl, h1, c2, d2, rfl, h2, c3, d3, rfl, h3, c4, d4, rfl, h4, A, c, rfl, h5, h6⟩ := h
  rw [show c0 = [Value.string m.1] from h0, show c1 = [Value.string m.2.1] from h1, show c2 = [Value.bool m.2.2.1] from h2, show c3 = [Value.int .i64 m.2.2.2.1] from h3, show c4 = [Value.int .i64 m.2.2.2.2.1] from h4]
  exact ⟨A, c, rfl, h5, h6⟩
theorem KM_of {w : World} {m : Md} (A : Option Addr) (c : Nat) (h : m.2.2.2.2.2.length ≤ c) (hC : KU.C w A m.2.2.2.2.2.length m.2.2.2.2.2) : KM.K w m (mv m A c).toList :=
  ⟨_, _, rfl, rfl, _, _, rfl, rfl, _, _, rfl, rfl, _, _, rfl, rfl, _, _, rfl, rfl, A, c, rfl, h, hC⟩
theorem KM_get {w : World} {A : Option Addr} {n : Nat} {ms : List Md} (h : KM.C w A n ms) (i : Nat) (m : Md) (hm : ms[i]? = some m) : ∃ ad A1 c1, A = some ad ∧ m.2.2.2.2.2.length ≤ c1 ∧ KU.C w A1 m.2.2.2.2.2.length m.2.2.2.2.2 ∧
    w.cell? (ad.add (i * 6)) = some (.string m.1) ∧ w.cell? ⟨(ad.add (i * 6)).block, (ad.add (i * 6)).off + 1, none⟩ = some (.string m.2.1) ∧ w.cell? ⟨(ad.add (i * 6)).block, (ad.add (i * 6)).off + 2, none⟩ = some (.bool m.2.2.1) ∧
    w.cell? ⟨(ad.add (i * 6)).block, (ad.add (i * 6)).off + 3, none⟩ = some (.int .i64 m.2.2.2.1) ∧ w.cell? ⟨(ad.add (i * 6)).block, (ad.add (i * 6)).off + 4, none⟩ = some (.int .i64 m.2.2.2.2.1) ∧ w.cell? ⟨(ad.add (i * 6)).block, (ad.add (i * 6)).off + 5, none⟩ = some (.slice A1 m.2.2.2.2.2.length c1) := by
  have hi : i < ms.length := (List.getElem?_eq_some_iff.1 hm).1
  obtain ⟨ad, c, e, _, hK, hc⟩ := Kd.C_get h m (i : Int) (by omega) (by have := h.1; omega)
  rw [Int.toNat_natCast, List.getD_eq_getElem?_getD, hm, Option.getD_some] at hK
  obtain ⟨A1, c1, rfl, h1, h2⟩ := KM_K hK
  rw [Int.toNat_natCast] at hc
  exact ⟨ad, A1, c1, e, h1, h2, hc 0 _ rfl, (congrArg w.cell? (add_add ad (i * 6) 1)).trans (hc 1 _ rfl), (congrArg w.cell? (add_add ad (i * 6) 2)).trans (hc 2 _ rfl), (congrArg w.cell? (add_add ad (i * 6) 3)).trans (hc 3 _ rfl), (congrArg w.cell? (add_add ad (i * 6) 4)).trans (hc 4 _ rfl), (congrArg w.cell? (add_add ad (i * 6) 5)).trans (hc 5 _ rfl)⟩
theorem KM_at {w : World} {A : Option Addr} {n : Nat} {ms : List Md} (h : KM.C w A n ms) (i : Nat) (nm rt : ByteArray) (b : Bool) (sl q : Int) (us : List Usr) (hm : ms[i]? = some (nm, rt, b, sl, q, us)) : ∃ ad A1 c1, A = some ad ∧ us.length ≤ c1 ∧ KU.C w A1 us.length us ∧
    w.cell? (ad.add (i * 6)) = some (.string nm) ∧ w.cell? ⟨(ad.add (i * 6)).block, (ad.add (i * 6)).off + 1, none⟩ = some (.string rt) ∧ w.cell? ⟨(ad.add (i * 6)).block, (ad.add (i * 6)).off + 2, none⟩ = some (.bool b) ∧
    w.cell? ⟨(ad.add (i * 6)).block, (ad.add (i * 6)).off + 3, none⟩ = some (.int .i64 sl) ∧ w.cell? ⟨(ad.add (i * 6)).block, (ad.add (i * 6)).off + 4, none⟩ = some (.int .i64 q) ∧ w.cell? ⟨(ad.add (i * 6)).block, (ad.add (i * 6)).off + 5, none⟩ = some (.slice A1 us.length c1) := KM_get h i _ hm
def found (ms : List Md) (name : ByteArray) : Md × Bool := match ms.find? (fun m => decide (m.1 = name)) with
  | some m => (m, true)
  | none => (noM, false)
theorem found_hit (m : Md) (l : List Md) (u : ByteArray) (h : m.1 = u) : found (m :: l) u = (m, true) := by
  unfold found
  rw [List.find?_cons_of_pos (by simpa using h)]
theorem found_miss (m : Md) (l : List Md) (u : ByteArray) (h : ¬ m.1 = u) : found (m :: l) u = found l u := by
  unfold found
  rw [List.find?_cons_of_neg (by simpa using h)]
theorem found_nil (u : ByteArray) : found [] u = (noM, false) := rfl
theorem mv_one (m : Md) (A : Option Addr) (c : Nat) : (mv m A c).all (·.oneCell') = true := by
  rw [Array.all_eq_true_iff_forall_mem]
  intro v hv
  simp only [mv, List.mem_toArray, List.mem_cons, List.mem_nil_iff, or_false] at hv
  rcases hv with rfl | rfl | rfl | rfl | rfl | rfl <;> rfl
theorem size65 : (Tryd.prog.info? 65).map (·.size) = some 6 := by kernel_rfl
/-- A whole cell row, and a number beside it. -/
theorem results_cell_and {P : Program} {fn : Func} {p q : Tmp} {ty : TypeId} (h : fn.results = #[.cell p ty, .tmp q]) (tmps : Array Value) (w : World) (g : Nat) (t : TypeId) (cs : Array Value) (fr : Nat × Nat) (d : TypeDesc) (u : Value)
    (hp : tmps.getD p undef = .pointer (some ⟨g, 0, none⟩)) (hq : tmps.getD q undef = u) (hg : w.heap[g]? = some (.cells cs t fr))
    (hu : P.underlying ty = some d) (hd : (match d with | .struct _ | .array _ _ => true | _ => false) = true) (hi : (P.info? ty).map (·.size) = some cs.size) :
    (results fn tmps).run P w = .ok (.tuple #[.agg cs, u]) w := by
  have hp' : tmps[p]?.getD undef = .pointer (some ⟨g, 0, none⟩) := by simpa using hp
  have hq' : tmps[q]?.getD undef = u := by simpa using hq
  simp [results, h, hp', hq', asAddr, run_loadVar_row w g t ty cs fr d hg hu hd hi]
set_option maxHeartbeats 1000000 in
set_option maxRecDepth 100000 in
theorem find_ok (name : ByteArray) (A : Option Addr) (c : Nat) (ms : List Md) (w : World) (hC : KM.C w A ms.length ms) (hl : ms.length ≤ 1000) :
    Calls Tryd.prog 13 #[.agg #[.slice A ms.length c], .string name] w fun e w' => ∃ A1 c1, e = .returned (.tuple #[.agg (mv (found ms name).1 A1 c1), .bool (found ms name).2]) ∧ (found ms name).1.2.2.2.2.2.length ≤ c1 ∧ KU.C w' A1 (found ms name).1.2.2.2.2.2.length (found ms name).1.2.2.2.2.2 ∧ Below w.heap.size w w' := by
  obtain ⟨n, hn⟩ : ∃ z, z = ms.length := ⟨_, rfl⟩
  rw [← hn] at hC hl ⊢
  have HC := hide hC
  have HL := hide hl
  have HN := hide hn
  have hu65 := Tryd.underlying65
  have hu60 := Tryd.underlying60
  have B1 : Hid (Below w.heap.size w ((w.alloc (.cells #[.slice A n c] 60)).alloc (.cells (mv noM none 0) 65))) := below_alloc (below_alloc (Below.refl _ _) _) _
  have Z1 : Hid (((w.alloc (.cells #[.slice A n c] 60)).alloc (.cells (mv noM none 0) 65)).heap[w.heap.size + 1]? = some (.cells (mv noM none 0) 65 (0, 0))) := by
    have h := blk_new (w.alloc (.cells #[.slice A n c] 60)) (.cells (mv noM none 0) 65)
    rw [World.size_alloc] at h
    exact h
  clear hC hl hn
  go_enter Tryd.func13, Tryd.ntmps13
  go_wp2_with fail
  go_loopg [11] n (fun kq v11 wr => ∃ (i : Nat), v11 = .int .i64 (i : Int) ∧ Hid (i + kq = n) ∧ Hid (Below w.heap.size w wr) ∧ Hid (found ms name = found (ms.drop i) name) ∧ Hid (wr.heap[w.heap.size + 1]? = some (.cells (mv noM none 0) 65 (0, 0))))
  case atStart => exact ⟨0, rfl, Nat.zero_add _, B1, rfl, Z1⟩
  case round =>
    obtain ⟨i, rfl, HI, HB, HE, HZ⟩ := hrel
    by_cases hlt : i < n
    · have hu : i < ms.length := by have := unhide HN; omega
      obtain ⟨⟨nm, rt, b, sl, q, us⟩, hm⟩ : ∃ m, ms[i]? = some m := ⟨_, List.getElem?_eq_getElem hu⟩
      obtain ⟨ad, A1, c1, rfl, h1, h2, q0, q1, q2, q3, q4, q5⟩ := KM_at (unhide HC) i nm rt b sl q us hm
      have k0 := pw_cell_below (unhide HB) q0
      have k1 := pw_cell_below (unhide HB) q1
      have k2 := pw_cell_below (unhide HB) q2
      have k3 := pw_cell_below (unhide HB) q3
      have k4 := pw_cell_below (unhide HB) q4
      have k5 := pw_cell_below (unhide HB) q5
      clear q0 q1 q2 q3 q4 q5
      have hd : ms.drop i = (nm, rt, b, sl, q, us) :: ms.drop (i + 1) := by
        rw [List.drop_eq_getElem_cons hu]
        congr 1
        exact Option.some.inj ((List.getElem?_eq_getElem hu).symm.trans hm)
      obtain ⟨N, hN⟩ : ∃ z, z = us.length := ⟨_, rfl⟩
      rw [← hN] at k5
      have d1 : (i : Int) < (n : Int) := by omega
      have HD := hide hd
      have HLT := hide hlt
      have H1 := hide h1
      have H2 := hide h2
      have HNN := hide hN
      have B2 : Hid (Below w.heap.size w (wr.alloc (.cells #[.string nm, .string rt, .bool b, .int .i64 sl, .int .i64 q, .slice A1 N c1] 65))) := below_alloc (unhide HB) _
      have Z2 : Hid ((wr.alloc (.cells #[.string nm, .string rt, .bool b, .int .i64 sl, .int .i64 q, .slice A1 N c1] 65)).heap[w.heap.size + 1]? = some (.cells (mv noM none 0) 65 (0, 0))) := blk_alloc (unhide HZ) _
      have SZ : Hid ((Tryd.prog.info? 65).map (·.size) = some (#[Value.string nm, .string rt, .bool b, .int .i64 sl, .int .i64 q, .slice A1 N c1] : Array Value).size) := size65
      have SO : Hid ((mv noM none 0).size = (#[Value.string nm, .string rt, .bool b, .int .i64 sl, .int .i64 q, .slice A1 N c1] : Array Value).size) := rfl
      have ONE : Hid ((#[Value.string nm, .string rt, .bool b, .int .i64 sl, .int .i64 q, .slice A1 N c1] : Array Value).all (·.oneCell') = true) := by show _ = _; rw [hN]; exact mv_one (nm, rt, b, sl, q, us) A1 c1
      clear hd hm hlt hu h1 h2 hN
      by_cases e : nm = name
      · have hq := str_eq e
        have HQ := hide e
        clear e
        go_wp2_with (refine wpList_store_row rfl 65 (.tmp 4) (.tmp 19) rfl (w.heap.size + 1) #[.string nm, .string rt, .bool b, .int .i64 sl, .int .i64 q, .slice A1 N c1] rfl rfl 65 _ (unhide Z2) (unhide SZ) (unhide SO) (unhide ONE) ?_)
        refine bodyPost_ret (v := .tuple #[.agg #[.string nm, .string rt, .bool b, .int .i64 sl, .int .i64 q, .slice A1 N c1], .bool true]) (results_cell_and rfl _ _ (w.heap.size + 1) 65 #[.string nm, .string rt, .bool b, .int .i64 sl, .int .i64 q, .slice A1 N c1] (0, 0) _ _ rfl rfl (setRow_heap _ _ _ _ _ _ (unhide Z2)) Tryd.underlying65 rfl (unhide SZ)) rfl ⟨A1, c1, ?_⟩
        have e2 : found ms name = ((nm, rt, b, sl, q, us), true) := by rw [unhide HE, unhide HD, found_hit _ _ _ (unhide HQ)]
        rw [e2]
        refine ⟨?_, unhide H1, ?_, below_setRow (unhide B2) (by omega) _⟩
        · rw [unhide HNN]
          rfl
        · exact Kd.C_below (unhide H2) (below_setRow (unhide B2) (by omega) _)
      · have hq := str_ne e
        have HQ := hide e
        clear e
        go_wp2_with fail
        go_roundg (gk - 1)
        case measure => have := unhide HI; have := unhide HLT; omega
        case rel =>
          refine ⟨i + 1, congrArg (Value.int .i64) (by have := unhide HL; have := unhide HLT; unfold wrap64; omega), by have := unhide HI; have := unhide HLT; show _ = _; omega, B2, ?_, Z2⟩
          show _ = _
          rw [unhide HE, unhide HD, found_miss _ _ _ (unhide HQ)]
    · have d1 : ¬ (i : Int) < (n : Int) := by omega
      have hd : ms.drop i = [] := List.drop_of_length_le (by have := unhide HN; omega)
      have HD := hide hd
      have SZ : Hid ((Tryd.prog.info? 65).map (·.size) = some (mv noM none 0).size) := size65
      clear hd
      go_wp2_with (refine wpList_store_row rfl 65 (.tmp 4) (.tmp 21) rfl (w.heap.size + 1) (mv noM none 0) rfl rfl 65 _ (unhide HZ) (unhide SZ) rfl (mv_one _ _ _) ?_)
      refine bodyPost_ret (v := .tuple #[.agg (mv noM none 0), .bool false]) (results_cell_and rfl _ _ (w.heap.size + 1) 65 (mv noM none 0) (0, 0) _ _ rfl rfl (setRow_heap _ _ _ _ _ _ (unhide HZ)) Tryd.underlying65 rfl (unhide SZ)) rfl ⟨none, 0, ?_⟩
      have e2 : found ms name = (noM, false) := by rw [unhide HE, unhide HD, found_nil]
      rw [e2]
      exact ⟨rfl, Nat.le_refl _, Kd.C_nil KU _, below_setRow (unhide HB) (by omega) _⟩
end Go.Proofs.YtgoephcembgmcaaDoor.Cf
namespace Go.Proofs.YtgoephcembgmcaaDoor.Cf
open Go.RowKit Go.Proofs.YtgoephcembgmcaaDoorW.PrintWords Go.Proofs.YtgoephcembgmcaaDoorW.PrintLast Go.Proofs.YtgoephcembgmcaaDoor.Wk Go.Proofs.YtgoephcembgmcaaDoor.Fr Go.Proofs.YtgoephcembgmcaaDoor.Sh Go.Proofs.YtgoephcembgmcaaDoor.Sl
open Go.Proofs.YtgoephcembgmcaaDoor.WkM (w64 Bytes)
/-! auth.Check. -/
theorem nat_xor_zero {a b : Nat} : a ^^^ b = 0 ↔ a = b := by
  constructor
  · intro h
    apply Nat.eq_of_testBit_eq
    intro i
    have := congrArg (fun z => z.testBit i) h
    simpa using this
  · rintro rfl
    exact Nat.xor_self a
/-- One round: what differed so far, or what differs here. -/
theorem or_xor (x a b : Int) (hx : 0 ≤ x ∧ x ≤ 255) (ha : 0 ≤ a ∧ a ≤ 255) (hb : 0 ≤ b ∧ b ≤ 255) :
    (bits .or .u8 x (bits .xor .u8 a b) = 0 ↔ x = 0 ∧ a = b) ∧ 0 ≤ bits .or .u8 x (bits .xor .u8 a b) ∧ bits .or .u8 x (bits .xor .u8 a b) ≤ 255 := by
  obtain ⟨x, rfl⟩ := Int.eq_ofNat_of_zero_le hx.1
  obtain ⟨a, rfl⟩ := Int.eq_ofNat_of_zero_le ha.1
  obtain ⟨b, rfl⟩ := Int.eq_ofNat_of_zero_le hb.1
  have h1 : a ^^^ b < 2 ^ 8 := Nat.xor_lt_two_pow (by omega) (by omega)
  have h2 : x ||| (a ^^^ b) < 2 ^ 8 := Nat.or_lt_two_pow (by omega) h1
  have e1 : bits .xor .u8 (a : Int) (b : Int) = ((a ^^^ b : Nat) : Int) := by
    unfold bits
    simp only [BitVec.toNat_xor, BitVec.toNat_ofInt, show IntKind.u8.bits = 8 from rfl, IntKind.wrap_u8]
    rw [show ((a : Int) % ((2 ^ 8 : Nat) : Int)).toNat = a by omega, show ((b : Int) % ((2 ^ 8 : Nat) : Int)).toNat = b by omega]
    omega
  have e2 : bits .or .u8 (x : Int) ((a ^^^ b : Nat) : Int) = ((x ||| (a ^^^ b) : Nat) : Int) := by
    generalize a ^^^ b = y at h1 h2
    unfold bits
    simp only [BitVec.toNat_or, BitVec.toNat_ofInt, show IntKind.u8.bits = 8 from rfl, IntKind.wrap_u8]
    rw [show ((x : Int) % ((2 ^ 8 : Nat) : Int)).toNat = x by omega, show ((y : Int) % ((2 ^ 8 : Nat) : Int)).toNat = y by omega]
    omega
  rw [e1, e2]
  refine ⟨?_, by omega, by omega⟩
  constructor
  · intro h
    have h3 : x ||| (a ^^^ b) = 0 := by omega
    rw [Nat.or_eq_zero_iff, nat_xor_zero] at h3
    exact ⟨by omega, by omega⟩
  · rintro ⟨h3, h4⟩
    have h5 : x = 0 := by omega
    have h6 : a = b := by omega
    subst h5 h6
    simp
theorem idx28 (xs : List Int) (i : Nat) (hl : xs.length = 32) (hi : i < 32) (W : World) : (Instr.index 28 (.agg (bys xs)) (.int .i64 (i : Int))).run Tryd.prog W = .ok (.int .u8 (rd xs (i : Int))) W := by
  have h1 := bys_get xs i (by omega)
  have hu := Tryd.underlying28
  have d : (i : Int) < 32 := by omega
  have hs : (sizeOf 5).run Tryd.prog W = .ok 1 W := by
    have hz := size5
    cases hq : Tryd.prog.info? 5 with
    | none => simp [hq] at hz
    | some i => simp [sizeOf, typeInfo, hq] at hz ⊢; exact hz
  have ha : (isAgg 5).run Tryd.prog W = .ok false W := by
    have h27 := Tryd.underlying5
    unfold isAgg
    rw [Sem.run_bind, run_underlying h27 W]
    rfl
  simp [Instr.index, run_underlying hu, asIntOf, d, part, h1, hs, ha]
  omega
theorem rd_byte (xs : List Int) (i : Nat) (h : Bytes xs) (hi : i < xs.length) : 0 ≤ rd xs (i : Int) ∧ rd xs (i : Int) ≤ 255 := by
  have e : rd xs (i : Int) = xs[i] := by
    unfold rd
    rw [Int.toNat_natCast, List.getD_eq_getElem?_getD, List.getElem?_eq_getElem hi]
    rfl
  rw [e]
  exact h _ (List.getElem_mem hi)
theorem take_same (a s : List Int) (i : Nat) (ha : i < a.length) (hs : i < s.length) : a.take (i + 1) = s.take (i + 1) ↔ a.take i = s.take i ∧ rd a (i : Int) = rd s (i : Int) := by
  have ea : rd a (i : Int) = a[i] := by
    unfold rd
    rw [Int.toNat_natCast, List.getD_eq_getElem?_getD, List.getElem?_eq_getElem ha]
    rfl
  have es : rd s (i : Int) = s[i] := by
    unfold rd
    rw [Int.toNat_natCast, List.getD_eq_getElem?_getD, List.getElem?_eq_getElem hs]
    rfl
  rw [ea, es, List.take_succ_eq_append_getElem ha, List.take_succ_eq_append_getElem hs]
  constructor
  · intro h
    have h2 := List.append_inj h (by rw [List.length_take, List.length_take]; omega)
    exact ⟨h2.1, by simpa using h2.2⟩
  · rintro ⟨h1, h2⟩
    rw [h1, h2]
def chk (us : List Usr) (u nm : ByteArray) (n s : List Int) : Int := if (secretOf us u).2 = true ∧ answer (secretOf us u).1 nm n = s then 0 else 140
theorem secret_size (us : List Usr) (u : ByteArray) (h : ∀ x ∈ us, x.2.size ≤ 1000) : (secretOf us u).1.size ≤ 1000 := by
  unfold secretOf
  split
  · rename_i p hp
    exact h p (List.mem_of_find?_eq_some hp)
  · decide
theorem secret_m (nm rt u : ByteArray) (x2 x3 x4 : Value) (A : Option Addr) (c N : Nat) (us : List Usr) (w : World) (hN : N = us.length) (hC : KU.C w A us.length us) (hl : us.length ≤ 1000) :
    Calls Tryd.prog 17 #[.agg #[.string nm, .string rt, x2, x3, x4, .slice A N c], .string u] w fun e w' => e = .returned (.tuple #[.string (secretOf us u).1, .bool (secretOf us u).2]) ∧ Below w.heap.size w w' := by
  subst hN
  exact secret_ok nm rt u x2 x3 x4 A c us w hC hl
set_option maxHeartbeats 4000000 in
set_option maxRecDepth 100000 in
theorem check_ok (nm rt u : ByteArray) (b : Bool) (sl q : Int) (A : Option Addr) (c N : Nat) (us : List Usr) (n s : List Int) (w : World) (hN : N = us.length) (hC : KU.C w A us.length us) (hl : us.length ≤ 1000) (hsec : ∀ x ∈ us, x.2.size ≤ 1000) (hnm : nm.size ≤ 1000)
    (hn : n.length = 16) (hnb : Bytes n) (hs : s.length = 32) (hsb : Bytes s) :
    Calls Tryd.prog 14 #[.agg #[.string nm, .string rt, .bool b, .int .i64 sl, .int .i64 q, .slice A N c], .string u, .agg (bys n), .agg (bys s)] w fun e w' => e = .returned (.int .i64 (chk us u nm n s)) ∧ Below w.heap.size w w' := by
  have HNN := hide hN
  have HC := hide hC
  have HL := hide hl
  have HSEC := hide (secret_size us u hsec)
  have HNM := hide hnm
  have HN := hide hn
  have HNB := hide hnb
  have HS := hide hs
  have HSB := hide hsb
  have hu65 := Tryd.underlying65
  have B3 : Hid (Below w.heap.size w (((w.alloc (.cells #[.string nm, .string rt, .bool b, .int .i64 sl, .int .i64 q, .slice A N c] 65)).alloc (.cells (bys n) 30)).alloc (.cells (bys s) 28))) := below_alloc (below_alloc (below_alloc (Below.refl _ _) _) _) _
  have N3 : Hid (Bs (((w.alloc (.cells #[.string nm, .string rt, .bool b, .int .i64 sl, .int .i64 q, .slice A N c] 65)).alloc (.cells (bys n) 30)).alloc (.cells (bys s) 28)) (w.heap.size + 1) 30 n) := by
    have h := blk_new (w.alloc (.cells #[.string nm, .string rt, .bool b, .int .i64 sl, .int .i64 q, .slice A N c] 65)) (.cells (bys n) 30)
    rw [World.size_alloc] at h
    exact blk_alloc h _
  have S3 : Hid (Bs (((w.alloc (.cells #[.string nm, .string rt, .bool b, .int .i64 sl, .int .i64 q, .slice A N c] 65)).alloc (.cells (bys n) 30)).alloc (.cells (bys s) 28)) (w.heap.size + 1 + 1) 28 s) := by
    have h := blk_new ((w.alloc (.cells #[.string nm, .string rt, .bool b, .int .i64 sl, .int .i64 q, .slice A N c] 65)).alloc (.cells (bys n) 30)) (.cells (bys s) 28)
    rw [World.size_alloc, World.size_alloc] at h
    exact h
  have M3 : Hid ((((w.alloc (.cells #[.string nm, .string rt, .bool b, .int .i64 sl, .int .i64 q, .slice A N c] 65)).alloc (.cells (bys n) 30)).alloc (.cells (bys s) 28)).heap[w.heap.size]? = some (.cells #[.string nm, .string rt, .bool b, .int .i64 sl, .int .i64 q, .slice A N c] 65 (0, 0))) := blk_alloc (blk_alloc (blk_new _ _) _) _
  clear hN hC hl hsec hnm hn hnb hs hsb
  go_enter Tryd.func14, Tryd.ntmps14
  go_wp2_with fail
  generalize ((w.alloc (.cells #[.string nm, .string rt, .bool b, .int .i64 sl, .int .i64 q, .slice A N c] 65)).alloc (.cells (bys n) 30)).alloc (.cells (bys s) 28) = w3 at B3 N3 S3 M3 ⊢
  refine (secret_m nm rt u (.bool b) (.int .i64 sl) (.int .i64 q) A c N us w3 (unhide HNN) (Kd.C_below (unhide HC) (unhide B3)) (unhide HL)).mono ?_
  rintro e w4 ⟨rfl, hb4⟩
  have B4 := hide (below_step (unhide B3) hb4)
  have N4 := hide ((unhide N3).below hb4)
  have S4 := hide ((unhide S3).below hb4)
  have M4 := hide (blk_below (unhide M3) hb4)
  have SZN : Hid ((Tryd.prog.info? 30).map (·.size) = some (bys n).size) := by show _ = _; rw [bys_size, unhide HN]; exact size30
  have HCHK : Hid (chk us u nm n s = if (secretOf us u).2 = true ∧ answer (secretOf us u).1 nm n = s then 0 else 140) := rfl
  generalize hst : secretOf us u = st at HSEC HCHK ⊢
  obtain ⟨sec, known⟩ := st
  clear hst B3 N3 S3 M3 hb4
  have k0 := (blk_cell (unhide M4) 0).trans rfl
  have kf := blk_lt (unhide M4)
  cases known with
  | false =>
    go_wp2_with fail
    go_ret
    refine ⟨?_, unhide B4⟩
    show Ending.returned (.int .i64 140) = _
    rw [unhide HCHK, if_neg (by simp)]
  | true =>
    go_wp2_with (refine wpList_load_row rfl 30 (.tmp 6) rfl (w.heap.size + 1) rfl 30 _ (0, 0) _ (unhide N4) Tryd.underlying30 rfl (unhide SZN) ?_)
    refine (answer_ok sec nm n w4 (unhide HN) (unhide HNB) (unhide HSEC) (unhide HNM)).mono ?_
    rintro e w5 ⟨rfl, hb5⟩
    have HCHK2 : Hid (chk us u nm n s = if answer sec nm n = s then 0 else 140) := by
      show _ = _
      rw [unhide HCHK]
      simp
    obtain ⟨a, ha⟩ : ∃ z, z = answer sec nm n := ⟨_, rfl⟩
    have la : a.length = 32 := by rw [ha]; exact answer_len _ _ _
    have ba : Bytes a := by rw [ha]; exact answer_bytes _ _ _
    rw [← ha] at HCHK2 ⊢
    have SZ : Hid ((Tryd.prog.info? 28).map (·.size) = some (bys a).size) := by show _ = _; rw [bys_size, la]; exact size25
    have SO : Hid ((bys (List.replicate 32 0)).size = (bys a).size) := by show _ = _; rw [bys_size, bys_size, la, List.length_replicate]
    have S6 : Hid (Bs (w5.alloc (.cells (bys a) 28)) (w.heap.size + 1 + 1) 28 s) := blk_alloc ((unhide S4).below hb5) _
    have B6 : Hid (Below w.heap.size w (w5.alloc (.cells (bys a) 28))) := below_alloc (below_step (unhide B4) hb5) _
    have LA := hide la
    have BA := hide ba
    clear hb5 ha la ba k0 kf
    go_wp2_with (first | (refine wpList_store_row rfl 28 (.tmp 11) (.tmp 27) rfl w5.heap.size (bys a) rfl rfl 28 _ (blk_new _ _) (unhide SZ) (unhide SO) (bys_one _) ?_; rw [World.setRow_alloc_new]) | refine wpList_load_row rfl 28 (.tmp 11) rfl w5.heap.size rfl 28 _ (0, 0) _ (blk_new _ _) Tryd.underlying28 rfl (unhide SZ) ?_)
    go_loopg [12, 29] 32 (fun kq v12 v29 wr => ∃ (i : Nat) (x : Int), v29 = .int .i64 (i : Int) ∧ v12 = .int .u8 x ∧ Hid (i + kq = 32) ∧ Hid (Below w.heap.size w wr) ∧ Hid (Bs wr (w.heap.size + 1 + 1) 28 s) ∧ Hid (0 ≤ x ∧ x ≤ 255) ∧ Hid (x = 0 ↔ a.take i = s.take i))
    case atStart => exact ⟨0, 0, rfl, rfl, Nat.zero_add _, B6, S6, ⟨by decide, by decide⟩, by show _ ↔ _; simp⟩
    case round =>
      obtain ⟨i, x, rfl, rfl, HI, HB, HSS, HX, HE⟩ := hrel
      by_cases hlt : i < 32
      · have d1 : (i : Int) < 32 := by omega
        have c7 := (unhide HSS).cell i (by rw [unhide HS]; exact hlt)
        have kx := idx28 a i (unhide LA) hlt
        have ho := or_xor x (rd a (i : Int)) (rd s (i : Int)) (unhide HX) (rd_byte a i (unhide BA) (by rw [unhide LA]; exact hlt)) (rd_byte s i (unhide HSB) (by rw [unhide HS]; exact hlt))
        have ht := take_same a s i (by rw [unhide LA]; exact hlt) (by rw [unhide HS]; exact hlt)
        obtain ⟨a1, ha1⟩ : ∃ z, z = rd a (i : Int) := ⟨_, rfl⟩
        obtain ⟨s1, hs1⟩ : ∃ z, z = rd s (i : Int) := ⟨_, rfl⟩
        rw [← ha1] at kx ho ht
        rw [← hs1] at c7 ho ht
        have HO := hide ho
        have HT := hide ht
        have HLT := hide hlt
        clear ho ht hlt ha1 hs1
        go_wp2_with fail
        go_roundg (gk - 1)
        case measure => have := unhide HI; have := unhide HLT; omega
        case rel =>
          refine ⟨i + 1, bits .or .u8 x (bits .xor .u8 a1 s1), congrArg (Value.int .i64) (by omega), rfl, by have := unhide HI; have := unhide HLT; show _ = _; omega, HB, HSS, (unhide HO).2, ?_⟩
          show _ ↔ _
          rw [(unhide HO).1, unhide HT, unhide HE]
      · have d1 : ¬ (i : Int) < 32 := by omega
        have h32 : i = 32 := by have := unhide HI; omega
        have he := unhide HE
        rw [h32, List.take_of_length_le (by rw [unhide LA]; decide), List.take_of_length_le (by rw [unhide HS]; decide)] at he
        have HE2 := hide he
        clear he h32
        by_cases hx : x = 0
        · subst hx
          go_wp2_with fail
          go_ret
          refine ⟨?_, unhide HB⟩
          show Ending.returned (.int .i64 0) = _
          rw [unhide HCHK2, if_pos (by have := unhide HE2; simpa using this)]
        · go_wp2_with fail
          go_ret
          refine ⟨?_, unhide HB⟩
          show Ending.returned (.int .i64 140) = _
          rw [unhide HCHK2, if_neg (fun h => hx ((unhide HE2).2 h))]
end Go.Proofs.YtgoephcembgmcaaDoor.Cf
namespace Go.Proofs.YtgoephcembgmcaaDoor.Cf
open Go.RowKit Go.Proofs.YtgoephcembgmcaaDoorW.PrintWords Go.Proofs.YtgoephcembgmcaaDoorW.PrintLast Go.Proofs.YtgoephcembgmcaaDoor.Wk Go.Proofs.YtgoephcembgmcaaDoor.Fr Go.Proofs.YtgoephcembgmcaaDoor.Sh Go.Proofs.YtgoephcembgmcaaDoor.Sl
/-! conf.name. -/
def alnum (r : Int) : Bool := (decide (97 ≤ r) && decide (r ≤ 122)) || (decide (65 ≤ r) && decide (r ≤ 90)) || (decide (48 ≤ r) && decide (r ≤ 57))
def nameOK (s : ByteArray) : Bool := decide (s.size ≠ 0) && decide (s.size ≤ 16) && (bytesOf s).all alnum
theorem iter_below (w : World) (s : ByteArray) (p : Nat) : Below w.heap.size w (w.iter s p) := below_alloc (Below.refl _ _) _
theorem empty_size (s : ByteArray) (h : s.toList.isEmpty = true) : s.size = 0 := by
  rw [ByteArray.toList_eq] at h
  have h2 := List.isEmpty_iff.1 h
  rw [← data_length, h2]
  rfl
theorem size_of (s : ByteArray) (h : s.toList.isEmpty = false) : s.size ≠ 0 := by
  intro e
  rw [ByteArray.toList_eq] at h
  rw [← data_length] at e
  rw [List.length_eq_zero_iff.1 e] at h
  cases h
theorem byte_at (s : ByteArray) (pos : Nat) (h : pos < s.size) : (bytesOf s)[pos]? = some (((s[pos]'h).toNat : Nat) : Int) := by
  unfold bytesOf
  rw [List.getElem?_map]
  have h2 : pos < s.data.toList.length := by rw [data_length]; exact h
  rw [List.getElem?_eq_getElem h2]
  rfl
/-- What the rune at pos says. -/
def RuneAt (s : ByteArray) (pos : Nat) (r : Int) : Prop := (r < 128 → (bytesOf s)[pos]? = some r ∧ pos + (Utf8.decode s pos).2 = pos + 1 ∧ ((bytesOf s).take (pos + 1)).all alnum = (((bytesOf s).take pos).all alnum && alnum r)) ∧ (¬ r < 128 → ∃ y : Int, (bytesOf s)[pos]? = some y ∧ 128 ≤ y)
theorem rune_at (s : ByteArray) (pos : Nat) (h : pos < s.size) : RuneAt s pos ((Utf8.decode s pos).1 : Int) := by
  have hb := byte_at s pos h
  by_cases ha : (s[pos]'h).toNat < 128
  · rw [RuneAt, decode_ascii s pos h ha]
    refine ⟨fun _ => ⟨hb, rfl, ?_⟩, fun hn => absurd (by exact_mod_cast ha) hn⟩
    rw [List.take_add_one, List.all_append, hb]
    simp
  · have hd := decode_high s pos h (by omega)
    exact ⟨fun hn => by omega, fun _ => ⟨_, hb, by omega⟩⟩
theorem bad_name (s : ByteArray) (pos : Nat) (r : Int) (h : pos < s.size) (hr : RuneAt s pos r) (ha : alnum r = false) : nameOK s = false := by
  have hx : ∃ y : Int, (bytesOf s)[pos]? = some y ∧ alnum y = false := by
    by_cases h1 : r < 128
    · exact ⟨r, (hr.1 h1).1, ha⟩
    · obtain ⟨y, h2, h3⟩ := hr.2 h1
      refine ⟨y, h2, ?_⟩
      unfold alnum
      have : ¬ y ≤ 122 := by omega
      have : ¬ y ≤ 90 := by omega
      have : ¬ y ≤ 57 := by omega
      simp [*]
  obtain ⟨y, h2, h3⟩ := hx
  have h4 : (bytesOf s).all alnum = false := by
    rw [List.all_eq_false]
    exact ⟨y, List.mem_of_getElem? h2, by simp [h3]⟩
  unfold nameOK
  rw [h4, Bool.and_false]
set_option maxHeartbeats 4000000 in
set_option maxRecDepth 100000 in
theorem name_ok (s : ByteArray) (w : World) :
    Calls Tryd.prog 46 #[.string s] w fun e w' => e = .returned (.bool (nameOK s)) ∧ Below w.heap.size w w' := by
  have hu9 := Tryd.underlying9
  go_enter Tryd.func46, Tryd.ntmps46
  cases hq : s.toList.isEmpty with
  | true =>
    have HE := hide (empty_size s hq)
    go_wp2_with fail
    go_ret
    refine ⟨?_, Below.refl _ _⟩
    show Ending.returned (.bool false) = _
    have : nameOK s = false := by unfold nameOK; rw [unhide HE]; rfl
    rw [this]
  | false =>
    have HE := hide (size_of s hq)
    by_cases h16 : 16 < s.size
    · have d1 : 16 < (s.size : Int) := by omega
      have H16 := hide h16
      clear h16
      go_wp2_with fail
      go_ret
      refine ⟨?_, Below.refl _ _⟩
      show Ending.returned (.bool false) = _
      have : nameOK s = false := by
        unfold nameOK
        have h := unhide H16
        rw [show decide (s.size ≤ 16) = false by simp; omega]
        simp
      rw [this]
    · have d1 : ¬ 16 < (s.size : Int) := by omega
      have H16 := hide h16
      clear h16
      go_wp2_with fail
      go_loopg [] s.size (fun kq wr => ∃ pos : Nat, wr = w.iter s pos ∧ Hid (pos + kq = s.size) ∧ Hid (((bytesOf s).take pos).all alnum = true))
      case atStart => exact ⟨0, rfl, Nat.zero_add _, rfl⟩
      case round =>
      obtain ⟨pos, rfl, HI, HP⟩ := hrel
      by_cases hlt : pos < s.size
      case neg =>
        have kn := run_next_end (P := Tryd.prog) w s pos 0 hlt
        have hpos : pos = s.size := by have := unhide HI; omega
        have HA : Hid (nameOK s = true) := by
          show _ = _
          have h := unhide HP
          have h1 := unhide HE
          have h2 := unhide H16
          rw [List.take_of_length_le (by rw [bytesOf_length]; omega)] at h
          unfold nameOK
          rw [h, show decide (s.size ≠ 0) = true from decide_eq_true h1, show decide (s.size ≤ 16) = true from decide_eq_true (by omega)]
          rfl
        clear hpos hlt
        go_wp2_with fail
        go_ret
        refine ⟨?_, iter_below w s _⟩
        show Ending.returned (.bool true) = _
        rw [unhide HA]
      have kn := run_next_any (P := Tryd.prog) w s pos 0 hlt
      have HR := hide (rune_at s pos hlt)
      have HLT := hide hlt
      obtain ⟨r, hr⟩ : ∃ r : Int, r = ((Utf8.decode s pos).1 : Int) := ⟨_, rfl⟩
      rw [← hr] at kn HR
      clear hr hlt
      rcases (by omega : (r < 48) ∨ (48 ≤ r ∧ r ≤ 57) ∨ (58 ≤ r ∧ r ≤ 64) ∨ (65 ≤ r ∧ r ≤ 90) ∨ (91 ≤ r ∧ r ≤ 96) ∨ (97 ≤ r ∧ r ≤ 122) ∨ (122 < r)) with hr | hr | hr | hr | hr | hr | hr
      · have f0 : ¬ 97 ≤ r := by omega
        have f1 : ¬ 65 ≤ r := by omega
        have f2 : ¬ 48 ≤ r := by omega
        have f3 : r ≤ 122 := by omega
        have f4 : r ≤ 90 := by omega
        have f5 : r ≤ 57 := by omega
        have HA : Hid (alnum r = false) := by show _ = _; unfold alnum; simp [f0, f1, f2, f3, f4, f5]
        go_wp2_with fail
        go_ret
        refine ⟨?_, iter_below w s _⟩
        show Ending.returned (.bool false) = _
        rw [bad_name s pos r (unhide HLT) (unhide HR) (unhide HA)]
      · have f0 : ¬ 97 ≤ r := by omega
        have f1 : ¬ 65 ≤ r := by omega
        have f2 : 48 ≤ r := by omega
        have f3 : r ≤ 122 := by omega
        have f4 : r ≤ 90 := by omega
        have f5 : r ≤ 57 := by omega
        have HA : Hid (r < 128 ∧ alnum r = true) := ⟨by omega, by unfold alnum; simp [f0, f1, f2, f3, f4, f5]⟩
        have h128 := (unhide HA).1
        go_wp2_with fail
        go_roundg (gk - 1)
        case measure => have := unhide HI; have := unhide HLT; omega
        case rel =>
          obtain ⟨e1, e2, e3⟩ := (unhide HR).1 (unhide HA).1
          refine ⟨pos + 1, by rw [e2], by have := unhide HI; have := unhide HLT; show _ = _; omega, ?_⟩
          show _ = _
          rw [e3, unhide HP, (unhide HA).2]
          rfl
      · have f0 : ¬ 97 ≤ r := by omega
        have f1 : ¬ 65 ≤ r := by omega
        have f2 : 48 ≤ r := by omega
        have f3 : r ≤ 122 := by omega
        have f4 : r ≤ 90 := by omega
        have f5 : ¬ r ≤ 57 := by omega
        have HA : Hid (alnum r = false) := by show _ = _; unfold alnum; simp [f0, f1, f2, f3, f4, f5]
        go_wp2_with fail
        go_ret
        refine ⟨?_, iter_below w s _⟩
        show Ending.returned (.bool false) = _
        rw [bad_name s pos r (unhide HLT) (unhide HR) (unhide HA)]
      · have f0 : ¬ 97 ≤ r := by omega
        have f1 : 65 ≤ r := by omega
        have f2 : 48 ≤ r := by omega
        have f3 : r ≤ 122 := by omega
        have f4 : r ≤ 90 := by omega
        have f5 : ¬ r ≤ 57 := by omega
        have HA : Hid (r < 128 ∧ alnum r = true) := ⟨by omega, by unfold alnum; simp [f0, f1, f2, f3, f4, f5]⟩
        have h128 := (unhide HA).1
        go_wp2_with fail
        go_roundg (gk - 1)
        case measure => have := unhide HI; have := unhide HLT; omega
        case rel =>
          obtain ⟨e1, e2, e3⟩ := (unhide HR).1 (unhide HA).1
          refine ⟨pos + 1, by rw [e2], by have := unhide HI; have := unhide HLT; show _ = _; omega, ?_⟩
          show _ = _
          rw [e3, unhide HP, (unhide HA).2]
          rfl
      · have f0 : ¬ 97 ≤ r := by omega
        have f1 : 65 ≤ r := by omega
        have f2 : 48 ≤ r := by omega
        have f3 : r ≤ 122 := by omega
        have f4 : ¬ r ≤ 90 := by omega
        have f5 : ¬ r ≤ 57 := by omega
        have HA : Hid (alnum r = false) := by show _ = _; unfold alnum; simp [f0, f1, f2, f3, f4, f5]
        go_wp2_with fail
        go_ret
        refine ⟨?_, iter_below w s _⟩
        show Ending.returned (.bool false) = _
        rw [bad_name s pos r (unhide HLT) (unhide HR) (unhide HA)]
      · have f0 : 97 ≤ r := by omega
        have f1 : 65 ≤ r := by omega
        have f2 : 48 ≤ r := by omega
        have f3 : r ≤ 122 := by omega
        have f4 : ¬ r ≤ 90 := by omega
        have f5 : ¬ r ≤ 57 := by omega
        have HA : Hid (r < 128 ∧ alnum r = true) := ⟨by omega, by unfold alnum; simp [f0, f1, f2, f3, f4, f5]⟩
        have h128 := (unhide HA).1
        go_wp2_with fail
        go_roundg (gk - 1)
        case measure => have := unhide HI; have := unhide HLT; omega
        case rel =>
          obtain ⟨e1, e2, e3⟩ := (unhide HR).1 (unhide HA).1
          refine ⟨pos + 1, by rw [e2], by have := unhide HI; have := unhide HLT; show _ = _; omega, ?_⟩
          show _ = _
          rw [e3, unhide HP, (unhide HA).2]
          rfl
      · have f0 : 97 ≤ r := by omega
        have f1 : 65 ≤ r := by omega
        have f2 : 48 ≤ r := by omega
        have f3 : ¬ r ≤ 122 := by omega
        have f4 : ¬ r ≤ 90 := by omega
        have f5 : ¬ r ≤ 57 := by omega
        have HA : Hid (alnum r = false) := by show _ = _; unfold alnum; simp [f0, f1, f2, f3, f4, f5]
        go_wp2_with fail
        go_ret
        refine ⟨?_, iter_below w s _⟩
        show Ending.returned (.bool false) = _
        rw [bad_name s pos r (unhide HLT) (unhide HR) (unhide HA)]
end Go.Proofs.YtgoephcembgmcaaDoor.Cf
namespace Go.Proofs.YtgoephcembgmcaaDoor.Cf
open Go.RowKit Go.Proofs.YtgoephcembgmcaaDoorW.PrintWords Go.Proofs.YtgoephcembgmcaaDoorW.PrintLast Go.Proofs.YtgoephcembgmcaaDoor.Wk Go.Proofs.YtgoephcembgmcaaDoor.Fr Go.Proofs.YtgoephcembgmcaaDoor.Sh Go.Proofs.YtgoephcembgmcaaDoor.Sl
/-! path.Clash. -/
set_option maxHeartbeats 1000000 in
set_option maxRecDepth 100000 in
theorem clash_ok (a b : ByteArray) (w : World) (ha : a.size ≤ 10000) (hb : b.size ≤ 10000) :
    Calls Tryd.prog 88 #[.string a, .string b] w fun e w' => ∃ r : Bool, e = .returned (.bool r) ∧ w' = w := by
  have hu9 := Tryd.underlying9
  go_enter Tryd.func88, Tryd.ntmps88
  go_wp2_with fail
  refine (Tryd.strings_HasPrefix _ _ _).mono ?_
  rintro e w1 ⟨rfl, rfl⟩
  generalize Lib.hasPrefix _ _ = r
  cases r with
  | true =>
    go_wp2_with fail
    go_ret
    exact ⟨true, rfl, rfl⟩
  | false =>
    go_wp2_with fail
    refine (Tryd.strings_HasPrefix _ _ _).mono ?_
    rintro e w1 ⟨rfl, rfl⟩
    go_wp2_with fail
    go_ret
    exact ⟨_, rfl, rfl⟩
end Go.Proofs.YtgoephcembgmcaaDoor.Cf
namespace Go.Proofs.YtgoephcembgmcaaDoor.Cf
open Go.RowKit Go.Proofs.YtgoephcembgmcaaDoorW.PrintWords Go.Proofs.YtgoephcembgmcaaDoorW.PrintLast Go.Proofs.YtgoephcembgmcaaDoor.Wk Go.Proofs.YtgoephcembgmcaaDoor.Fr Go.Proofs.YtgoephcembgmcaaDoor.Sh Go.Proofs.YtgoephcembgmcaaDoor.Sl
/-! path.sign. -/
def signOK (c : Int) : Bool := (decide (97 ≤ c) && decide (c ≤ 122)) || (decide (48 ≤ c) && decide (c ≤ 57)) || decide (c = 95) || decide (c = 45) || decide (c = 46)
set_option maxHeartbeats 1000000 in
set_option maxRecDepth 100000 in
theorem sign_ok (c : Int) (w : World) : Calls Tryd.prog 105 #[.int .u8 c] w fun e w' => e = .returned (.bool (signOK c)) ∧ w' = w := by
  go_enter Tryd.func105, Tryd.ntmps105
  rcases (by omega : (c ≤ 44) ∨ (c = 45) ∨ (c = 46) ∨ (c = 47) ∨ (48 ≤ c ∧ c ≤ 57) ∨ (58 ≤ c ∧ c ≤ 94) ∨ (c = 95) ∨ (c = 96) ∨ (97 ≤ c ∧ c ≤ 122) ∨ (123 ≤ c)) with h | h | h | h | h | h | h | h | h | h
  · have f0 : ¬ 97 ≤ c := by omega
    have f1 : ¬ 48 ≤ c := by omega
    have f2 : c ≤ 122 := by omega
    have f3 : c ≤ 57 := by omega
    have f4 : ¬ c = 95 := by omega
    have f5 : ¬ c = 45 := by omega
    have f6 : ¬ c = 46 := by omega
    have HA : Hid (signOK c = false) := by show _ = _; unfold signOK; simp [f0, f1, f2, f3, f4, f5, f6]
    go_wp2_with fail
    go_ret
    refine ⟨?_, rfl⟩
    show Ending.returned (.bool false) = _
    rw [unhide HA]
  · have f0 : ¬ 97 ≤ c := by omega
    have f1 : ¬ 48 ≤ c := by omega
    have f2 : c ≤ 122 := by omega
    have f3 : c ≤ 57 := by omega
    have f4 : ¬ c = 95 := by omega
    have f5 : c = 45 := by omega
    have f6 : ¬ c = 46 := by omega
    have HA : Hid (signOK c = true) := by show _ = _; unfold signOK; simp [f0, f1, f2, f3, f4, f5, f6]
    subst h
    go_wp2_with fail
    go_ret
    refine ⟨?_, rfl⟩
    show Ending.returned (.bool true) = _
    rw [unhide HA]
  · have f0 : ¬ 97 ≤ c := by omega
    have f1 : ¬ 48 ≤ c := by omega
    have f2 : c ≤ 122 := by omega
    have f3 : c ≤ 57 := by omega
    have f4 : ¬ c = 95 := by omega
    have f5 : ¬ c = 45 := by omega
    have f6 : c = 46 := by omega
    have HA : Hid (signOK c = true) := by show _ = _; unfold signOK; simp [f0, f1, f2, f3, f4, f5, f6]
    subst h
    go_wp2_with fail
    go_ret
    refine ⟨?_, rfl⟩
    show Ending.returned (.bool true) = _
    rw [unhide HA]
  · have f0 : ¬ 97 ≤ c := by omega
    have f1 : ¬ 48 ≤ c := by omega
    have f2 : c ≤ 122 := by omega
    have f3 : c ≤ 57 := by omega
    have f4 : ¬ c = 95 := by omega
    have f5 : ¬ c = 45 := by omega
    have f6 : ¬ c = 46 := by omega
    have HA : Hid (signOK c = false) := by show _ = _; unfold signOK; simp [f0, f1, f2, f3, f4, f5, f6]
    subst h
    go_wp2_with fail
    go_ret
    refine ⟨?_, rfl⟩
    show Ending.returned (.bool false) = _
    rw [unhide HA]
  · have f0 : ¬ 97 ≤ c := by omega
    have f1 : 48 ≤ c := by omega
    have f2 : c ≤ 122 := by omega
    have f3 : c ≤ 57 := by omega
    have f4 : ¬ c = 95 := by omega
    have f5 : ¬ c = 45 := by omega
    have f6 : ¬ c = 46 := by omega
    have HA : Hid (signOK c = true) := by show _ = _; unfold signOK; simp [f0, f1, f2, f3, f4, f5, f6]
    go_wp2_with fail
    go_ret
    refine ⟨?_, rfl⟩
    show Ending.returned (.bool true) = _
    rw [unhide HA]
  · have f0 : ¬ 97 ≤ c := by omega
    have f1 : 48 ≤ c := by omega
    have f2 : c ≤ 122 := by omega
    have f3 : ¬ c ≤ 57 := by omega
    have f4 : ¬ c = 95 := by omega
    have f5 : ¬ c = 45 := by omega
    have f6 : ¬ c = 46 := by omega
    have HA : Hid (signOK c = false) := by show _ = _; unfold signOK; simp [f0, f1, f2, f3, f4, f5, f6]
    go_wp2_with fail
    go_ret
    refine ⟨?_, rfl⟩
    show Ending.returned (.bool false) = _
    rw [unhide HA]
  · have f0 : ¬ 97 ≤ c := by omega
    have f1 : 48 ≤ c := by omega
    have f2 : c ≤ 122 := by omega
    have f3 : ¬ c ≤ 57 := by omega
    have f4 : c = 95 := by omega
    have f5 : ¬ c = 45 := by omega
    have f6 : ¬ c = 46 := by omega
    have HA : Hid (signOK c = true) := by show _ = _; unfold signOK; simp [f0, f1, f2, f3, f4, f5, f6]
    subst h
    go_wp2_with fail
    go_ret
    refine ⟨?_, rfl⟩
    show Ending.returned (.bool true) = _
    rw [unhide HA]
  · have f0 : ¬ 97 ≤ c := by omega
    have f1 : 48 ≤ c := by omega
    have f2 : c ≤ 122 := by omega
    have f3 : ¬ c ≤ 57 := by omega
    have f4 : ¬ c = 95 := by omega
    have f5 : ¬ c = 45 := by omega
    have f6 : ¬ c = 46 := by omega
    have HA : Hid (signOK c = false) := by show _ = _; unfold signOK; simp [f0, f1, f2, f3, f4, f5, f6]
    subst h
    go_wp2_with fail
    go_ret
    refine ⟨?_, rfl⟩
    show Ending.returned (.bool false) = _
    rw [unhide HA]
  · have f0 : 97 ≤ c := by omega
    have f1 : 48 ≤ c := by omega
    have f2 : c ≤ 122 := by omega
    have f3 : ¬ c ≤ 57 := by omega
    have f4 : ¬ c = 95 := by omega
    have f5 : ¬ c = 45 := by omega
    have f6 : ¬ c = 46 := by omega
    have HA : Hid (signOK c = true) := by show _ = _; unfold signOK; simp [f0, f1, f2, f3, f4, f5, f6]
    go_wp2_with fail
    go_ret
    refine ⟨?_, rfl⟩
    show Ending.returned (.bool true) = _
    rw [unhide HA]
  · have f0 : 97 ≤ c := by omega
    have f1 : 48 ≤ c := by omega
    have f2 : ¬ c ≤ 122 := by omega
    have f3 : ¬ c ≤ 57 := by omega
    have f4 : ¬ c = 95 := by omega
    have f5 : ¬ c = 45 := by omega
    have f6 : ¬ c = 46 := by omega
    have HA : Hid (signOK c = false) := by show _ = _; unfold signOK; simp [f0, f1, f2, f3, f4, f5, f6]
    go_wp2_with fail
    go_ret
    refine ⟨?_, rfl⟩
    show Ending.returned (.bool false) = _
    rw [unhide HA]
end Go.Proofs.YtgoephcembgmcaaDoor.Cf
namespace Go.Proofs.YtgoephcembgmcaaDoor.Cf
open Go.RowKit Go.Proofs.YtgoephcembgmcaaDoorW.PrintWords Go.Proofs.YtgoephcembgmcaaDoorW.PrintLast Go.Proofs.YtgoephcembgmcaaDoor.Wk Go.Proofs.YtgoephcembgmcaaDoor.Fr Go.Proofs.YtgoephcembgmcaaDoor.Sh Go.Proofs.YtgoephcembgmcaaDoor.Sl
/-! conf.number. -/
/-- The package variables that the library reads. -/
structure Glob (w : World) : Prop where
  syn : ∃ te pe, w.cell? ⟨4, 0, none⟩ = some (.iface te pe)
  rng : ∃ te pe, w.cell? ⟨5, 0, none⟩ = some (.iface te pe)
  tab : Lib.TabIs Tryd.prog w "internal/strconv.uint64pow10" .u64 Lib.pow10Tab
  max : ∃ m, w.cell? ⟨1, 0, none⟩ = some (.int .i64 m)
theorem var_below {P : Program} {w w1 : World} {n : String} {cs : Array Value} (h : w.var? P n = some cs) (hb : Below w.heap.size w w1) : w1.var? P n = some cs := by
  unfold World.var? at h ⊢
  cases hg : P.globalNamed n with
  | none => simp [hg] at h
  | some g =>
    simp only [hg, Option.bind_some] at h ⊢
    have hlt : g < w.heap.size := by
      rcases Nat.lt_or_ge g w.heap.size with h' | h'
      · exact h'
      · simp [Array.getElem?_eq_none h'] at h
    rw [hb.block g hlt]
    exact h
theorem Glob.below {w w1 : World} (h : Glob w) (hb : Below w.heap.size w w1) : Glob w1 := by
  obtain ⟨⟨te, pe, h1⟩, ⟨t2, p2, h2⟩, h3, ⟨m, h4⟩⟩ := h
  refine ⟨⟨te, pe, pw_cell_below hb h1⟩, ⟨t2, p2, pw_cell_below hb h2⟩, ?_, ⟨m, pw_cell_below hb h4⟩⟩
  exact var_below h3 hb
theorem atoi_bound {l : List UInt8} {v : Int} (h : Lib.atoiAll l = .ok v) : -9223372036854775808 ≤ v ∧ v ≤ 9223372036854775807 := by
  unfold Lib.atoiAll at h
  split at h
  · cases h
  · rename_i c r
    simp only at h
    split at h
    · cases h
    · cases h
    · rename_i u hu
      split at h
      · cases h
      · rename_i h1
        split at h
        · cases h
        · rename_i h2
          have h3 : (if c.toNat = 45 then -(u : Int) else (u : Int)) = v := by injection h
          rw [← h3]
          split
          · rename_i hc
            have : u ≤ 9223372036854775808 := by
              rcases Nat.lt_or_ge 9223372036854775808 u with hh | hh
              · exact absurd ⟨hc, hh⟩ h2
              · exact hh
            omega
          · rename_i hc
            have : u < 9223372036854775808 := by
              rcases Nat.lt_or_ge u 9223372036854775808 with hh | hh
              · exact hh
              · exact absurd ⟨hc, hh⟩ h1
            omega
/-- What number answers. -/
def numOf (s : ByteArray) (lo hi : Int) : Int × Bool := match Lib.atoiAll s.data.toList with
  | .ok v => (v, (((⟨(Lib.itoa v).toArray⟩ : ByteArray).toList == s.toList) && decide (lo ≤ v)) && decide (v ≤ hi))
  | .range => (Lib.atoiSat s.data.toList, false)
  | _ => (0, false)
set_option maxHeartbeats 1000000 in
set_option maxRecDepth 100000 in
theorem number_ok (s : ByteArray) (lo hi : Int) (w : World) (hG : Glob w) (hs : s.size ≤ 100000) :
    Calls Tryd.prog 87 #[.string s, .int .i64 lo, .int .i64 hi] w fun e w' => e = .returned (.tuple #[.int .i64 (numOf s lo hi).1, .bool (numOf s lo hi).2]) ∧ Below w.heap.size w w' := by
  have HG := hide hG
  have HSZ := hide hs
  clear hG hs
  go_enter Tryd.func87, Tryd.ntmps87
  go_wp2_with fail
  cases hA : Lib.atoiAll s.data.toList with
  | range =>
    obtain ⟨te, pe, h1⟩ := (unhide HG).rng
    refine (Tryd.strconv_Atoi_range s (by have := unhide HSZ; omega) hA _ w h1 (.inr ⟨te, pe, rfl⟩)).mono ?_
    rintro e w1 ⟨N, rfl, hN, hc, hb⟩
    have HB := hide hb
    have HA := hide hA
    clear h1 hN hc hb hA
    go_wp2_with fail
    go_ret2
    refine ⟨?_, unhide HB⟩
    unfold numOf
    rw [unhide HA]
    rfl
  | ok v =>
    obtain ⟨v0, v1⟩ := atoi_bound hA
    refine (Tryd.strconv_Atoi_ok s (by have := unhide HSZ; omega) v hA w).mono ?_
    rintro e w1 ⟨rfl, hw⟩
    have HB : Hid (Below w.heap.size w w1) := by
      rcases hw with rfl | ⟨t, rfl⟩
      · exact Below.refl _ _
      · exact bytes_below (Below.refl _ _) (Nat.le_refl _) 5 t
    have HG1 := hide ((unhide HG).below (unhide HB))
    have HA := hide hA
    have HV := hide (And.intro v0 v1)
    clear hw hA v0 v1
    go_wp2_with fail
    refine (Tryd.strconv_Itoa v (unhide HV).1 (unhide HV).2 w1 (unhide HG1).tab).mono ?_
    rintro e w2 ⟨rfl, k, os, hw2⟩
    have HB2 : Hid (Below w.heap.size w w2) := by
      rw [hw2]
      refine below_step (unhide HB) ⟨rfl, rfl, rfl, ?_, fun j hj => ?_⟩
      · simp [Sort.grow]
      · simp only [Sort.grow, World.heap_drewN]
        exact Array.getElem?_append_left hj
    have HNUM : Hid (numOf s lo hi = (v, (((⟨(Lib.itoa v).toArray⟩ : ByteArray).toList == s.toList) && decide (lo ≤ v)) && decide (v ≤ hi))) := by
      show _ = _
      unfold numOf
      rw [unhide HA]
    generalize (⟨(Lib.itoa v).toArray⟩ : ByteArray) = t at HNUM ⊢
    clear hw2 HV
    cases hq : (t.toList == s.toList) with
    | false =>
      rw [hq] at HNUM
      go_wp2_with fail
      go_ret2
      refine ⟨?_, unhide HB2⟩
      show Ending.returned (.tuple #[.int .i64 v, .bool false]) = _
      rw [unhide HNUM]
      simp []
    | true =>
      rw [hq] at HNUM
      by_cases h1 : lo ≤ v
      · have H1 := hide h1
        go_wp2_with fail
        go_ret2
        refine ⟨?_, unhide HB2⟩
        show Ending.returned (.tuple #[.int .i64 v, .bool (decide (v ≤ hi))]) = _
        rw [unhide HNUM]
        simp [unhide H1]
      · have H1 := hide h1
        go_wp2_with fail
        go_ret2
        refine ⟨?_, unhide HB2⟩
        show Ending.returned (.tuple #[.int .i64 v, .bool false]) = _
        rw [unhide HNUM]
        simp
        intro h
        have h9 := unhide H1
        omega
  | _ =>
    obtain ⟨te, pe, h1⟩ := (unhide HG).syn
    refine (Tryd.strconv_Atoi_syntax s (by have := unhide HSZ; omega) ⟨(by rw [hA]; intro h; cases h), (fun v h => by rw [hA] at h; cases h)⟩ _ w h1 (.inr ⟨te, pe, rfl⟩)).mono ?_
    rintro e w1 ⟨N, rfl, hN, hc, hb⟩
    have HB := hide hb
    have HA := hide hA
    clear h1 hN hc hb hA
    go_wp2_with fail
    go_ret2
    refine ⟨?_, unhide HB⟩
    unfold numOf
    rw [unhide HA]
    rfl
end Go.Proofs.YtgoephcembgmcaaDoor.Cf
namespace Go.Proofs.YtgoephcembgmcaaDoor.Cf
open Go.RowKit Go.Proofs.YtgoephcembgmcaaDoorW.PrintWords Go.Proofs.YtgoephcembgmcaaDoorW.PrintLast Go.Proofs.YtgoephcembgmcaaDoor.Wk Go.Proofs.YtgoephcembgmcaaDoor.Fr Go.Proofs.YtgoephcembgmcaaDoor.Sh Go.Proofs.YtgoephcembgmcaaDoor.Sl
/-! strings.Split, told with the row of parts. -/
def parts (s sep : ByteArray) : List ByteArray := Lib.splitB sep 0 (Lib.countB s sep) s
theorem parts_len (s sep : ByteArray) (h1 : 1 ≤ sep.size) : (parts s sep).length = Lib.countB s sep + 1 := Lib.splitB_all sep h1 0 _ s rfl
theorem parts_row (w : World) (ps : List ByteArray) (hp : ps.length ≤ 1000000) : Kd.string.C (w.alloc (.cells (ps.map Value.string).toArray 9)) (some ⟨w.heap.size, 0, none⟩) ps.length ps := by
  refine ⟨rfl, by omega, fun _ => ⟨_, rfl, fun j p hj => ⟨[.string p], rfl, rfl, fun i u hu => ?_⟩⟩⟩
  have hi : i = 0 := by
    rcases i with _ | i
    · rfl
    · simp at hu
  subst hi
  simp only [List.getElem?_cons_zero, Option.some.injEq] at hu
  subst hu
  rw [add_plain]
  refine (blk_cell (blk_new w (.cells (ps.map Value.string).toArray 9)) _).trans ?_
  have e : j * Kd.string.sz + 0 = j := by show j * 1 + 0 = j; omega
  rw [e]
  simp [hj]
theorem split_ok (s sep : ByteArray) (w : World) (hG : Glob w) (hs : s.size ≤ 100000) (h1 : 1 ≤ sep.size) (hp : (parts s sep).length ≤ 1000000) :
    Calls Tryd.prog 42 #[.string s, .string sep] w fun e w' => e = .returned (.slice (some ⟨w.heap.size, 0, none⟩) (parts s sep).length (parts s sep).length) ∧ Kd.string.C w' (some ⟨w.heap.size, 0, none⟩) (parts s sep).length (parts s sep) ∧ Below w.heap.size w w' := by
  obtain ⟨m, hm⟩ := hG.max
  refine (Tryd.strings_Split s sep m w (by omega) hm h1).mono ?_
  rintro e w' ⟨rfl, rfl⟩
  refine ⟨?_, parts_row w (parts s sep) hp, below_alloc (Below.refl _ _) _⟩
  rw [parts_len s sep h1]
end Go.Proofs.YtgoephcembgmcaaDoor.Cf
namespace Go.Proofs.YtgoephcembgmcaaDoor.Cf
open Go.RowKit Go.Proofs.YtgoephcembgmcaaDoorW.PrintWords Go.Proofs.YtgoephcembgmcaaDoorW.PrintLast Go.Proofs.YtgoephcembgmcaaDoor.Wk Go.Proofs.YtgoephcembgmcaaDoor.Fr Go.Proofs.YtgoephcembgmcaaDoor.Sh Go.Proofs.YtgoephcembgmcaaDoor.Sl
/-! path.Check: some answer. -/
def IsErr (v : Value) : Prop := v = .nilIface ∨ ∃ g, v = .iface 95 (.pointer (some ⟨g, 0, none⟩))
set_option maxHeartbeats 4000000 in
set_option maxRecDepth 100000 in
theorem pathcheck_ok (s : ByteArray) (w : World) (hG : Glob w) (hs : s.size ≤ 10000) :
    Calls Tryd.prog 86 #[.string s] w fun e w' => ∃ v, e = .returned v ∧ IsErr v ∧ Below w.heap.size w w' := by
  have HG := hide hG
  have HSZ := hide hs
  clear hG hs
  go_enter Tryd.func86, Tryd.ntmps86
  cases hq : s.toList.isEmpty with
  | true =>
    go_wp2_with fail
    go_ret
    exact ⟨_, rfl, .inr ⟨_, rfl⟩, below_alloc (Below.refl _ _) _⟩
  | false =>
    by_cases h64 : 64 < s.size
    · have d1 : 64 < (s.size : Int) := by omega
      go_wp2_with fail
      go_ret
      exact ⟨_, rfl, .inr ⟨_, rfl⟩, below_alloc (Below.refl _ _) _⟩
    · have d1 : ¬ 64 < (s.size : Int) := by omega
      go_wp2_with fail
      have hc : (parts s ⟨#[47]⟩).length ≤ 1000000 := by
        rw [parts_len _ _ (by decide)]
        have := Lib.countB_le ⟨#[47]⟩ (by decide) s.size s (Nat.le_refl _)
        omega
      refine (split_ok s ⟨#[47]⟩ w (unhide HG) (by have := unhide HSZ; omega) (by decide) hc).mono ?_
      rintro e w1 ⟨rfl, hC, hb⟩
      obtain ⟨ps, hps⟩ : ∃ z, z = parts s ⟨#[47]⟩ := ⟨_, rfl⟩
      rw [← hps] at hc hC ⊢
      have HPS := hide hps
      have HC := hide hC
      have HB := hide hb
      have HCN := hide hc
      clear hps hC hb hc
      go_wp2_with fail
      obtain ⟨n, hn⟩ : ∃ z, z = ps.length := ⟨_, rfl⟩
      rw [← hn] at HC ⊢
      have HN := hide hn
      clear hn
      go_loopg [3, 23] n (fun gk1 v3 v23 wr => ∃ (j : Nat) (x : Int), v23 = .int .i64 (j : Int) ∧ v3 = .int .i64 x ∧ Hid (j + gk1 = n) ∧ Hid (Below w.heap.size w wr) ∧ Hid (Below w1.heap.size w1 wr))
      case atStart => exact ⟨0, 0, rfl, rfl, Nat.zero_add _, HB, Below.refl _ _⟩
      case round =>
        obtain ⟨j, x, rfl, rfl, HI, HB2, HB3⟩ := hrel
        by_cases hlt : j < n
        · have d2 : (j : Int) < (n : Int) := by omega
          obtain ⟨ad, had, hcell⟩ := Kd.at_string (Kd.C_below (unhide HC) (unhide HB3)) (j : Int) (by omega) d2
          obtain rfl := Option.some.inj had
          rw [Int.toNat_natCast, add_plain] at hcell
          obtain ⟨p, hp⟩ : ∃ z, z = rdOf ByteArray.empty ps (j : Int) := ⟨_, rfl⟩
          rw [← hp] at hcell
          have HLT := hide hlt
          clear hp had hlt
          by_cases h6 : j = 6
          · subst h6
            go_wp2_with fail
            go_ret
            exact ⟨_, rfl, .inr ⟨_, rfl⟩, below_alloc (unhide HB2) _⟩
          · have d3 : ((j : Int) == 6) = false := by simpa using (by omega : ¬ (j : Int) = 6)
            cases hp : p.toList.isEmpty with
            | true =>
              go_wp2_with fail
              go_ret
              exact ⟨_, rfl, .inr ⟨_, rfl⟩, below_alloc (unhide HB2) _⟩
            | false =>
              cases h46 : (p.toList == [46]) with
              | true =>
                go_wp2_with fail
                go_ret
                exact ⟨_, rfl, .inr ⟨_, rfl⟩, below_alloc (unhide HB2) _⟩
              | false =>
                cases h4646 : (p.toList == [46, 46]) with
                | true =>
                  go_wp2_with fail
                  go_ret
                  exact ⟨_, rfl, .inr ⟨_, rfl⟩, below_alloc (unhide HB2) _⟩
                | false =>
                  by_cases h16 : 16 < p.size
                  · have d5 : 16 < (p.size : Int) := by omega
                    go_wp2_with fail
                    go_ret
                    exact ⟨_, rfl, .inr ⟨_, rfl⟩, below_alloc (unhide HB2) _⟩
                  · have d5 : ¬ 16 < (p.size : Int) := by omega
                    go_wp2_with fail
                    have HP := hide d5
                    obtain ⟨gk1, hk1⟩ : ∃ z, z = gk := ⟨_, rfl⟩
                    have HK1 := hide hk1
                    clear hk1
                    clear d5 h46 h4646 hp d3 h6 hcell d2
                    go_loopg [52] p.size (fun kp v52 wp => ∃ (i : Nat), v52 = .int .i64 (i : Int) ∧ Hid (i + kp = p.size) ∧ wp = wr)
                    case atStart => exact ⟨0, rfl, Nat.zero_add _, rfl⟩
                    case round =>
                      obtain ⟨i, rfl, HI2, rfl⟩ := hrel
                      by_cases hi : i < p.size
                      · have d6 : (i : Int) < (p.size : Int) := by omega
                        have HI3 := hide hi
                        go_wp2_with fail
                        refine (sign_ok _ _).mono ?_
                        rintro e w5 ⟨rfl, rfl⟩
                        generalize signOK _ = sg
                        cases sg with
                        | false =>
                          go_wp2_with fail
                          go_ret
                          exact ⟨_, rfl, .inr ⟨_, rfl⟩, below_alloc (unhide HB2) _⟩
                        | true =>
                          go_wp2_with fail
                          go_roundg (gk - 1)
                          case measure => have := unhide HI2; have := unhide HI3; omega
                          case rel => exact ⟨i + 1, congrArg (Value.int .i64) (by have := unhide HP; have := unhide HI3; (try unfold wrap64); omega), by have := unhide HI2; have := unhide HI3; show _ = _; omega, rfl⟩
                      · have d6 : ¬ (i : Int) < (p.size : Int) := by omega
                        go_wp2_with fail
                        go_roundg (gk1 - 1)
                        case measure => have := unhide HI; have := unhide HLT; have := unhide HK1; omega
                        case rel => exact ⟨j + 1, _, congrArg (Value.int .i64) (by have := unhide HLT; have := unhide HCN; have := unhide HN; (try unfold wrap64); omega), rfl, by have := unhide HI; have := unhide HLT; have := unhide HK1; show _ = _; omega, HB2, HB3⟩
        · have d2 : ¬ (j : Int) < (n : Int) := by omega
          go_wp2_with fail
          go_ret
          exact ⟨_, rfl, .inl rfl, unhide HB2⟩
end Go.Proofs.YtgoephcembgmcaaDoor.Cf
namespace Go.Proofs.YtgoephcembgmcaaDoor.Cf
open Go.RowKit Go.Proofs.YtgoephcembgmcaaDoorW.PrintWords Go.Proofs.YtgoephcembgmcaaDoorW.PrintLast Go.Proofs.YtgoephcembgmcaaDoor.Wk Go.Proofs.YtgoephcembgmcaaDoor.Fr Go.Proofs.YtgoephcembgmcaaDoor.Sh Go.Proofs.YtgoephcembgmcaaDoor.Sl
/-! path.Check at the fixed text's root. -/
theorem parts_r : parts ⟨#[114]⟩ ⟨#[47]⟩ = [⟨#[114]⟩] := by kernel_rfl
set_option maxHeartbeats 4000000 in
set_option maxRecDepth 100000 in
theorem pathcheck_r (w : World) (hG : Glob w) : Calls Tryd.prog 86 #[.string ⟨#[114]⟩] w fun e w' => e = .returned .nilIface ∧ Below w.heap.size w w' := by
  have HG := hide hG
  clear hG
  go_enter Tryd.func86, Tryd.ntmps86
  go_wp2_with fail
  refine (split_ok ⟨#[114]⟩ ⟨#[47]⟩ w (unhide HG) (by decide) (by decide) (by rw [parts_r]; decide)).mono ?_
  rw [parts_r]
  rintro e w1 ⟨rfl, hC, hb⟩
  have HC := hide hC
  have HB := hide hb
  clear hC hb
  go_wp2_with fail
  go_loopg [3, 23] 1 (fun kq v3 v23 wr => ∃ (j : Nat) (x : Int), v23 = .int .i64 (j : Int) ∧ v3 = .int .i64 x ∧ Hid (j + kq = 1) ∧ wr = w1)
  case atStart => exact ⟨0, 0, rfl, rfl, rfl, rfl⟩
  case round =>
    obtain ⟨j, x, rfl, rfl, HI, rfl⟩ := hrel
    by_cases hj : j = 0
    · subst hj
      obtain ⟨ad, had, hcell⟩ := Kd.at_string (unhide HC) (0 : Int) (by decide) (by decide)
      obtain rfl := Option.some.inj had
      have hc : wr.cell? ⟨w.heap.size, 0, none⟩ = some (.string ⟨#[114]⟩) := hcell
      obtain ⟨gk1, hk1⟩ : ∃ z, z = gk := ⟨_, rfl⟩
      have HK1 := hide hk1
      clear had hcell hk1
      go_wp2_with fail
      go_loopg [52] 1 (fun kp v52 wp => ∃ (i : Nat), v52 = .int .i64 (i : Int) ∧ Hid (i + kp = 1) ∧ wp = wr)
      case atStart => exact ⟨0, rfl, rfl, rfl⟩
      case round =>
        obtain ⟨i, rfl, HI2, rfl⟩ := hrel
        by_cases hi : i = 0
        · subst hi
          go_wp2_with fail
          refine (sign_ok _ _).mono ?_
          rintro e w5 ⟨rfl, rfl⟩
          have hsg : signOK 114 = true := by decide
          go_wp2_with fail
          go_roundg (gk - 1)
          case measure => have := unhide HI2; omega
          case rel => exact ⟨1, rfl, by have := unhide HI2; show _ = _; omega, rfl⟩
        · have d6 : ¬ (i : Int) < 1 := by omega
          go_wp2_with fail
          go_roundg (gk1 - 1)
          case measure => have := unhide HI; have := unhide HK1; omega
          case rel => exact ⟨1, _, rfl, rfl, by have := unhide HI; have := unhide HK1; show _ = _; omega, rfl⟩
    · have d2 : ¬ (j : Int) < 1 := by omega
      go_wp2_with fail
      go_ret
      exact ⟨rfl, unhide HB⟩
end Go.Proofs.YtgoephcembgmcaaDoor.Cf
namespace Go.Proofs.YtgoephcembgmcaaDoor.Cf
open Go.RowKit Go.Maps Go.Proofs.YtgoephcembgmcaaDoorW.PrintWords Go.Proofs.YtgoephcembgmcaaDoorW.PrintLast Go.Proofs.YtgoephcembgmcaaDoor.Wk Go.Proofs.YtgoephcembgmcaaDoor.Fr Go.Proofs.YtgoephcembgmcaaDoor.Sh Go.Proofs.YtgoephcembgmcaaDoor.Sl
/-! The keys that a module has had: a map of strings; a module in its row, cell by cell. -/
theorem law9 : Keyed Tryd.prog 9 := string_keyed Tryd.underlying9
theorem bool_inv {P : Program} {e : TypeId} (he : P.underlying e = some .bool) {v : Value} {z : D1 × List MemPlace} (h : plainElem P e v = some z) : ∃ x : Bool, v = .bool x ∧ z = (.lit (.bool x), []) := by
  unfold plainElem at h
  rw [he] at h
  cases v <;> simp at h
  exact ⟨_, rfl, h.symm⟩
/-- Block b is a map of at most n keys that holds true at just those that f says. -/
def Seen (w : World) (b n : Nat) (f : ByteArray → Bool) : Prop :=
  ∃ D : D1, w.ownsMap Tryd.prog 9 (plainElem Tryd.prog 4) b n D ∧ ∀ k : ByteArray, D.atKey (.string k.data.toList) (.lit (.bool false)) = .lit (.bool (f k))
theorem zero4 (w : World) : (zeroValue 4).run Tryd.prog w = .ok (.bool false) w := by kernel_rfl
section
variable {w w' : World} {b n : Nat} {f : ByteArray → Bool}
theorem Seen.look (h : Seen w b n f) (k : ByteArray) (hk : k.size ≤ maxLen) : (Instr.lookup 112 (.map (some b)) (.string k) false).run Tryd.prog w = .ok (.bool (f k)) w := by
  obtain ⟨D, hown, hf⟩ := h
  obtain ⟨v, ps, hr, hv⟩ := hown.lookup law9 Tryd.underlying112 (zero4 w) (zd := .lit (.bool false)) (zp := []) (plainElem_bool Tryd.underlying4 false) (WideMaps.keyOf_string_mk Tryd.underlying9 hk)
  obtain ⟨x, rfl, hx⟩ := bool_inv Tryd.underlying4 hv
  rw [hf k] at hx
  obtain rfl : x = f k := by
    have := congrArg Prod.fst hx
    simpa using this.symm
  exact hr
def with_ (f : ByteArray → Bool) (k : ByteArray) : ByteArray → Bool := fun q => f q || decide (q = k)
theorem Seen.put (h : Seen w b n f) (hn : n < maxLen) (k : ByteArray) (hk : k.size ≤ maxLen) : ∃ w', (Instr.mapUpdate 112 (.map (some b)) (.string k) (.bool true)).run Tryd.prog w = .ok () w' ∧ Seen w' b (n + 1) (with_ f k) ∧ w.grownBy w' (some b) := by
  obtain ⟨D, hown, hf⟩ := h
  have hD := hown.isMap
  obtain ⟨w', hr, h1, ht⟩ := hown.store law9 Tryd.underlying112 hn (WideMaps.keyOf_string_mk Tryd.underlying9 hk) (plainElem_bool Tryd.underlying4 true)
  refine ⟨w', hr, ⟨_, h1, fun q => ?_⟩, ht.grown⟩
  by_cases e : q = k
  · subst e
    rw [atKey_put_same hD (show WideAt.IsKeyLit (Lit.string q.data.toList) from trivial)]
    simp [with_]
  · rw [atKey_put_other (fun e2 => e (bytes_inj (by simpa using e2))), hf q]
    simp [with_, e]
theorem Seen.lt (h : Seen w b n f) : b < w.heap.size := by
  obtain ⟨D, hown, _⟩ := h
  exact hown.lt
theorem Seen.kept {row : Option Nat} (h : Seen w b n f) (hg : w.grownBy w' row) (hne : some b ≠ row) : Seen w' b n f := by
  obtain ⟨D, hown, hf⟩ := h
  exact ⟨D, hown.kept hg hne, hf⟩
theorem Seen.below (h : Seen w b n f) (hb : Below w.heap.size w w') : Seen w' b n f := by
  have hlt := h.lt
  obtain ⟨D, ⟨es, clock, h1, r⟩, hf⟩ := h
  exact ⟨D, ⟨es, clock, (hb.block b hlt).trans h1, r⟩, hf⟩
theorem Seen.set (h : Seen w b n f) {a : Addr} (u : Value) (h1 : b ≠ a.block) : Seen (w.setCell a u) b n f := by
  obtain ⟨D, hown, hf⟩ := h
  exact ⟨D, hown.setCell h1 u, hf⟩
theorem Seen.more (h : Seen w b n f) {m : Nat} (hm : n ≤ m) : Seen w b m f := by
  obtain ⟨D, hown, hf⟩ := h
  exact ⟨D, hown.mono hm, hf⟩
theorem Seen.isMap (h : Seen w b n f) : ∃ es clock, w.heap[b]? = some (.map es clock) := by
  obtain ⟨D, ⟨es, clock, h1, r⟩, hf⟩ := h
  exact ⟨es, clock, h1⟩
end
theorem Seen.made (w : World) : Seen (w.alloc (.map #[] 0)) w.heap.size 0 (fun _ => false) := ⟨.map [], World.ownsMap_made _ _ _ _, fun k => rfl⟩
/-- A row of one's own is none of a map's block. -/
theorem R_nomap {α : Type} {d : Kd α} {e : Nat} {w : World} {base : Nat} {ok : Nat → Prop} {v : Value} {xs : List α} (h : d.R e w base ok v xs) {b : Nat} (hb : ∃ es clock, w.heap[b]? = some (.map es clock)) : d.R e w base (fun k => ok k ∧ k ≠ b) v xs :=
  Kd.R_mono (Kd.R_bound h) (fun k hk => ⟨hk.1, by
    obtain ⟨_, _, _, q, hq, cells', hc⟩ := hk
    obtain ⟨es, clock, hb⟩ := hb
    rintro rfl
    rw [hc] at hb
    cases hb⟩)
/-- A module's cells, its users' slice given. -/
def mw (m : Md) (v : Value) : List Value := [.string m.1, .string m.2.1, .bool m.2.2.1, .int .i64 m.2.2.2.1, .int .i64 m.2.2.2.2.1, v]
/-- A users' slice, as it lies in a module's cell. -/
abbrev Sc := Option Addr × Nat × Nat
def slv (s : Sc) : Value := .slice s.1 s.2.1 s.2.2
def KR : Kd (ByteArray × ByteArray × Bool × Int × Int × Sc) := Kd.pair Kd.string (Kd.pair Kd.string (Kd.pair Kd.bool (Kd.pair (Kd.int .i64) (Kd.pair (Kd.int .i64) (Kd.scalar slv (fun _ => rfl))))))
def raw (z : Md × Sc) : ByteArray × ByteArray × Bool × Int × Int × Sc := (z.1.1, z.1.2.1, z.1.2.2.1, z.1.2.2.2.1, z.1.2.2.2.2.1, z.2)
def KZ : Kd (Md × Sc) := Kd.iso KR raw
theorem KZ_M {w : World} {base : Nat} {ok : Nat → Prop} {z : Md × Sc} {cs : List Value} (h : KZ.M w base ok z cs) : cs = mw z.1 (slv z.2) := by
  obtain ⟨c0, d0, rfl, h0, c1, d1, rfl, h1, c2, d2, rfl, h2, c3, d3, rfl, h3, c4, d4, rfl, h4, h5⟩ := h
  rw [show c0 = [Value.string z.1.1] from h0, show c1 = [Value.string z.1.2.1] from h1, show c2 = [Value.bool z.1.2.2.1] from h2, show c3 = [Value.int .i64 z.1.2.2.2.1] from h3, show c4 = [Value.int .i64 z.1.2.2.2.2.1] from h4, show d4 = [slv z.2] from h5]
  rfl
theorem KZ_mk {w : World} {base : Nat} {ok : Nat → Prop} {m : Md} {s : Sc} : KZ.M w base ok (m, s) (mw m (slv s)) :=
  ⟨_, _, rfl, rfl, _, _, rfl, rfl, _, _, rfl, rfl, _, _, rfl, rfl, _, _, rfl, rfl, rfl⟩
/-- A row of modules; the users' row of module i is none of the others'. -/
def MR (w : World) (base g n cap i : Nat) (ms : List Md) : Prop :=
  ∃ zs : List (Md × Sc), ms = zs.map Prod.fst ∧ KZ.R 65 w base (fun _ => True) (.slice (some ⟨g, 0, none⟩) n cap) zs ∧
    ∀ j z, zs[j]? = some z → KU.R 126 w base (fun k => j = i ∨ ∀ y, zs[i]? = some y → some k ≠ (slv y.2).ownBlock) (slv z.2) z.1.2.2.2.2.2
section
variable {w w1 : World} {base g n cap i : Nat} {ms : List Md}
theorem MR.move (h : MR w base g n cap i ms) (hm : ∀ k, k < w.heap.size → base ≤ k → (∃ cells q, w.heap[k]? = some (.cells cells q (0, 0))) → w1.heap[k]? = w.heap[k]?) : MR w1 base g n cap i ms := by
  obtain ⟨zs, h1, hR, hU⟩ := h
  refine ⟨zs, h1, Kd.R_mono (Kd.R_move (Kd.R_bound hR) (fun k hk => hm k hk.2.2.1 hk.2.1 ?_)) (fun _ hk => hk.1), fun j z hz => Kd.R_mono (Kd.R_move (Kd.R_bound (hU j z hz)) (fun k hk => hm k hk.2.2.1 hk.2.1 ?_)) (fun _ hk => hk.1)⟩
  · obtain ⟨_, _, _, q, _, cells, hc⟩ := hk
    exact ⟨cells, q, hc⟩
  · obtain ⟨_, _, _, q, _, cells, hc⟩ := hk
    exact ⟨cells, q, hc⟩
theorem MR.below (h : MR w base g n cap i ms) (hb : Below w.heap.size w w1) : MR w1 base g n cap i ms := h.move (fun k hk _ _ => hb.block k hk)
theorem MR.typed (h : MR w base g n cap i ms) : ∃ cells, w.heap[g]? = some (.cells cells 65 (0, 0)) := by
  obtain ⟨zs, h1, hR, hU⟩ := h
  exact Kd.R_typed hR g rfl
theorem MR.len (h : MR w base g n cap i ms) : n = ms.length := by
  obtain ⟨zs, rfl, hR, hU⟩ := h
  rw [List.length_map]
  exact (Kd.R_reads' hR).1
/-- Another block, a map's, is written. -/
theorem MR.other (h : MR w base g n cap i ms) {b : Nat} (hg : w.grownBy w1 (some b)) (hb : ∃ es clock, w.heap[b]? = some (.map es clock)) : MR w1 base g n cap i ms := by
  refine h.move (fun k hk _ hc => hg.block k hk (fun e => ?_))
  obtain ⟨cells, q, hc⟩ := hc
  obtain ⟨es, clock, hb⟩ := hb
  obtain rfl := Option.some.inj e
  rw [hc] at hb
  cases hb
theorem no65 : ∀ q, q ∈ 126 :: KU.E → q ≠ 65 := by
  intro q hq
  rcases List.mem_cons.1 hq with rfl | hq
  · decide
  · cases hq
/-- Module j of the row: its cells. -/
theorem MR.at_ (h : MR w base g n cap i ms) (j : Nat) (nm rt : ByteArray) (b : Bool) (sl q : Int) (us : List Usr) (hm : ms[j]? = some (nm, rt, b, sl, q, us)) :
    ∃ A1 c1, us.length ≤ c1 ∧ KU.R 126 w base (fun _ => True) (.slice A1 us.length c1) us ∧ w.cell? ⟨g, j * 6, none⟩ = some (.string nm) ∧ w.cell? ⟨g, j * 6 + 1, none⟩ = some (.string rt) ∧ w.cell? ⟨g, j * 6 + 2, none⟩ = some (.bool b) ∧
      w.cell? ⟨g, j * 6 + 3, none⟩ = some (.int .i64 sl) ∧ w.cell? ⟨g, j * 6 + 4, none⟩ = some (.int .i64 q) ∧ w.cell? ⟨g, j * 6 + 5, none⟩ = some (.slice A1 us.length c1) ∧ ∀ l, w.frozen? ⟨g, j * 6 + l, none⟩ = false := by
  obtain ⟨zs, rfl, hR, hU⟩ := h
  rw [List.getElem?_map] at hm
  cases hz : zs[j]? with
  | none => rw [hz] at hm; cases hm
  | some z =>
    rw [hz] at hm
    obtain ⟨z0, s⟩ := z
    obtain rfl : z0 = (nm, rt, b, sl, q, us) := Option.some.inj hm
    have hj : j < zs.length := (List.getElem?_eq_some_iff.1 hz).1
    have hn := (Kd.R_reads' hR).1
    obtain ⟨c, hc, hM, hcell, hfr⟩ := Kd.R_elem hR ((nm, rt, b, sl, q, us), s) (j : Int) (by omega) (by omega)
    rw [Int.toNat_natCast, List.getD_eq_getElem?_getD, hz, Option.getD_some] at hM
    rw [Int.toNat_natCast] at hcell hfr
    obtain rfl := KZ_M hM
    have hu := hU j _ hz
    obtain ⟨A1, c1, e, hl, _⟩ := Kd.R_reads hu
    have hu2 := Kd.R_mono (ok' := fun _ => True) hu (fun _ _ => trivial)
    have h5 := hcell 5 _ rfl
    simp only at e hu2 h5
    rw [e] at hu2 h5
    exact ⟨A1, c1, hl, hu2, hcell 0 _ rfl, hcell 1 _ rfl, hcell 2 _ rfl, hcell 3 _ rfl, hcell 4 _ rfl, h5, hfr⟩
/-- A cell of module j, but the users', is written. -/
theorem MR.put (h : MR w base g n cap i ms) (j : Nat) (m : Md) (hm : ms[j]? = some m) (m' : Md) (l : Nat) (hl : l < 6) (u : Value) (hM : ∀ s, (mw m (slv s)).set l u = mw m' (slv s)) (hus : m'.2.2.2.2.2 = m.2.2.2.2.2) :
    MR (w.setCell ⟨g, j * 6 + l, none⟩ u) base g n cap i (ms.set j m') ∧ w.grownBy (w.setCell ⟨g, j * 6 + l, none⟩ u) (some g) := by
  obtain ⟨cells, hty⟩ := h.typed
  obtain ⟨zs, rfl, hR, hU⟩ := h
  rw [List.getElem?_map] at hm
  cases hz : zs[j]? with
  | none => rw [hz] at hm; cases hm
  | some z =>
    rw [hz] at hm
    obtain ⟨z0, s⟩ := z
    obtain rfl : z0 = m := Option.some.inj hm
    have hj : j < zs.length := (List.getElem?_eq_some_iff.1 hz).1
    have hn := (Kd.R_reads' hR).1
    obtain ⟨c, hc, hM0, hcell, hfr⟩ := Kd.R_elem hR (z0, s) (j : Int) (by omega) (by omega)
    rw [Int.toNat_natCast, List.getD_eq_getElem?_getD, hz, Option.getD_some] at hM0
    obtain rfl := KZ_M hM0
    have hM1 : KZ.M w base (fun k => True ∧ k ≠ g) (m', s) ((mw z0 (slv s)).set l u) := by rw [hM s]; exact KZ_mk
    have e : (mw z0 (slv s)).set l u = (mw z0 (slv s)).take l ++ [u] ++ (mw z0 (slv s)).drop (l + [u].length) := by
      rw [List.append_assoc]
      rcases l with _ | _ | _ | _ | _ | _ | l
      all_goals first | rfl | omega
    rw [e] at hM1
    have hseg := Kd.R_seg hR (j : Int) (by omega) (by omega) hc hcell (by show l + 1 ≤ 6; omega) hM1 (fun k hk => hk)
    rw [Int.toNat_natCast] at hseg
    refine ⟨⟨zs.set j (m', s), by rw [List.map_set], hseg.1, fun a y hy => ?_⟩, hseg.2⟩
    have key : ∃ y0, zs[a]? = some y0 ∧ y0.2 = y.2 ∧ y0.1.2.2.2.2.2 = y.1.2.2.2.2.2 := by
      by_cases haj : a = j
      · subst haj
        rw [List.getElem?_set_self hj] at hy
        obtain rfl := Option.some.inj hy
        exact ⟨_, hz, rfl, hus.symm⟩
      · rw [List.getElem?_set_ne (fun e => haj e.symm)] at hy
        exact ⟨y, hy, rfl, rfl⟩
    obtain ⟨y0, hy0, e1, e2⟩ := key
    have hu := hU a y0 hy0
    rw [e1, e2] at hu
    refine Kd.R_mono (Kd.R_set hu hty no65 _ u) ?_
    rintro k (rfl | hk)
    · exact .inl rfl
    · refine .inr (fun x hx => ?_)
      by_cases hij : i = j
      · subst hij
        rw [List.getElem?_set_self hj] at hx
        obtain rfl := Option.some.inj hx
        have h9 := hk (z0, s) hz
        exact h9
      · rw [List.getElem?_set_ne (fun e => hij e.symm)] at hx
        exact hk x hx
/-- The users of module i have grown, and their new slice is put into its cell. -/
theorem MR.grow (h : MR w base g n cap i ms) (nm rt : ByteArray) (b : Bool) (sl q : Int) (us us' : List Usr) (hm : ms[i]? = some (nm, rt, b, sl, q, us)) (v0 v1 : Value) (hcell : w.cell? ⟨g, i * 6 + 5, none⟩ = some v0) (hU1 : KU.R 126 w1 base (fun _ => True) v1 us')
    (hg : w.grownBy w1 v0.ownBlock) (hat : v1.ownBlock = v0.ownBlock ∨ ∃ b, v1.ownBlock = some b ∧ w.heap.size ≤ b) : MR (w1.setCell ⟨g, i * 6 + 5, none⟩ v1) base g n cap i (ms.set i (nm, rt, b, sl, q, us')) := by
  obtain ⟨cells, hty⟩ := h.typed
  obtain ⟨zs, rfl, hR, hU⟩ := h
  rw [List.getElem?_map] at hm
  cases hz : zs[i]? with
  | none => rw [hz] at hm; cases hm
  | some z =>
    rw [hz] at hm
    obtain ⟨z0, s⟩ := z
    obtain rfl : z0 = (nm, rt, b, sl, q, us) := Option.some.inj hm
    have hj : i < zs.length := (List.getElem?_eq_some_iff.1 hz).1
    have hn := (Kd.R_reads' hR).1
    have hlt : g < w.heap.size := (Array.getElem?_eq_some_iff.1 hty).1
    obtain ⟨A, c1, rfl⟩ := Kd.R_slice hU1
    have hs : v0 = slv s := by
      obtain ⟨c, hc, hM0, hcl, hfr⟩ := Kd.R_elem hR ((nm, rt, b, sl, q, us), s) (i : Int) (by omega) (by omega)
      rw [Int.toNat_natCast, List.getD_eq_getElem?_getD, hz, Option.getD_some] at hM0
      obtain rfl := KZ_M hM0
      have h5 := hcl 5 _ rfl
      rw [Int.toNat_natCast] at h5
      exact Option.some.inj (hcell.symm.trans h5)
    subst hs
    have hgs : some g ≠ (slv s).ownBlock := by
      intro e
      obtain ⟨cells', hc'⟩ := Kd.R_typed (hU i _ hz) g e.symm
      rw [hty] at hc'
      injection hc' with hc'
      injection hc' with _ hc'
      exact absurd hc' (by decide)
    have hty1 : w1.heap[g]? = some (.cells cells 65 (0, 0)) := (hg.block g hlt hgs).trans hty
    have hR1 := Kd.R_mono (ok' := fun _ => True) (Kd.R_grown (Kd.R_tight rfl hR) hg (fun k hk e => hgs (by rw [← e, hk]; rfl))) (fun _ _ => trivial)
    obtain ⟨c, hc, hM0, hcl, hfr⟩ := Kd.R_elem hR1 ((nm, rt, b, sl, q, us), s) (i : Int) (by omega) (by omega)
    rw [Int.toNat_natCast, List.getD_eq_getElem?_getD, hz, Option.getD_some] at hM0
    obtain rfl := KZ_M hM0
    have hM1 : KZ.M w1 base (fun k => True ∧ k ≠ g) ((nm, rt, b, sl, q, us'), (A, us'.length, c1)) ((mw (nm, rt, b, sl, q, us) (slv s)).take 5 ++ [Value.slice A us'.length c1] ++ (mw (nm, rt, b, sl, q, us) (slv s)).drop (5 + [Value.slice A us'.length c1].length)) := KZ_mk
    have hseg := Kd.R_seg hR1 (i : Int) (by omega) (by omega) hc hcl (by show 5 + 1 ≤ 6; omega) hM1 (fun k hk => hk)
    rw [Int.toNat_natCast] at hseg
    refine ⟨zs.set i ((nm, rt, b, sl, q, us'), (A, us'.length, c1)), by rw [List.map_set], hseg.1, fun a y hy => ?_⟩
    by_cases hai : a = i
    · subst hai
      rw [List.getElem?_set_self hj] at hy
      obtain rfl := Option.some.inj hy
      exact Kd.R_mono (Kd.R_set hU1 hty1 no65 _ _) (fun _ _ => .inl rfl)
    · rw [List.getElem?_set_ne (fun e => hai e.symm)] at hy
      have hu := Kd.R_bound (hU a y hy)
      have hok : ∀ k, ((a = i ∨ ∀ y, zs[i]? = some y → some k ≠ (slv y.2).ownBlock) ∧ base ≤ k ∧ k < w.heap.size ∧ ∃ q, q ∈ 126 :: KU.E ∧ ∃ cells, w.heap[k]? = some (.cells cells q (0, 0))) → some k ≠ (slv s).ownBlock := by
        rintro k ⟨h1, _⟩
        rcases h1 with h1 | h1
        · exact absurd h1 hai
        · exact h1 _ hz
      refine Kd.R_mono (Kd.R_set (Kd.R_grown hu hg hok) hty1 no65 _ _) (fun k hk => .inr (fun x hx => ?_))
      rw [List.getElem?_set_self hj] at hx
      obtain rfl := Option.some.inj hx
      have h1 := hok k hk
      rcases hat with hat | ⟨nb, hat, hle⟩
      · show some k ≠ (Value.slice A us'.length c1).ownBlock
        rw [hat]
        exact h1
      · show some k ≠ (Value.slice A us'.length c1).ownBlock
        rw [hat]
        intro e
        have := Option.some.inj e
        have := hk.2.2.1
        omega
end
/-- What may be read of it. -/
theorem MR.reads {w : World} {base g n cap i : Nat} {ms : List Md} (h : MR w base g n cap i ms) : n ≤ cap ∧ KM.C w (some ⟨g, 0, none⟩) ms.length ms := by
  obtain ⟨zs, rfl, hR, hU⟩ := h
  obtain ⟨hn, hc, hC⟩ := Kd.R_reads' hR
  refine ⟨hc, ?_⟩
  obtain ⟨h1, h2, h3⟩ := hC
  refine ⟨rfl, by rw [List.length_map]; exact h2, fun hp => ?_⟩
  rw [List.length_map] at hp
  obtain ⟨ad, e, h4⟩ := h3 hp
  refine ⟨ad, e, fun j p hj => ?_⟩
  rw [List.getElem?_map] at hj
  cases hz : zs[j]? with
  | none => rw [hz] at hj; cases hj
  | some z =>
    rw [hz] at hj
    obtain rfl : z.1 = p := Option.some.inj hj
    obtain ⟨cs, hl0, hK, hcs⟩ := h4 j z hz
    refine ⟨cs, hl0, ?_, hcs⟩
    obtain ⟨A1, c1, e1, hl, hC1⟩ := Kd.R_reads (hU j z hz)
    obtain ⟨c0, d0, rfl, h0, c1, d1, rfl, h1, c2, d2, rfl, h2, c3, d3, rfl, h3, c4, d4, rfl, h4, h5⟩ := hK
    refine ⟨c0, _, rfl, h0, c1, _, rfl, h1, c2, _, rfl, h2, c3, _, rfl, h3, c4, _, rfl, h4, A1, _, ?_, hl, hC1⟩
    rw [show d4 = [slv z.2] from h5, e1]
end Go.Proofs.YtgoephcembgmcaaDoor.Cf
namespace Go.Proofs.YtgoephcembgmcaaDoor.Cf
open Go.RowKit Go.Maps Go.Proofs.YtgoephcembgmcaaDoorW.PrintWords Go.Proofs.YtgoephcembgmcaaDoorW.PrintLast Go.Proofs.YtgoephcembgmcaaDoor.Wk Go.Proofs.YtgoephcembgmcaaDoor.Fr Go.Proofs.YtgoephcembgmcaaDoor.Sh Go.Proofs.YtgoephcembgmcaaDoor.Sl
/-! Module.set: the frame; the keys twice, root. -/
/-- The row of modules, of which module i is m; the keys that it has had. -/
structure In (w0 w : World) (base g n cap b sn i : Nat) (f : ByteArray → Bool) (ms : List Md) (m : Md) : Prop where
  R : MR w base g n cap i ms
  mi : ms[i]? = some m
  S : Seen w b sn f
  G : Glob w0
  B : Below w0.heap.size w0 w
  b0 : w0.heap.size ≤ base
  bb : base ≤ b
  bw : base ≤ w.heap.size
  bg : base ≤ g
def Out (w : World) (base g n cap b sn i : Nat) (f : ByteArray → Bool) (ms : List Md) (key : ByteArray) (r : Option Md) (e : Ending) (w' : World) : Prop :=
  Below base w w' ∧ match r with
    | none => ∃ c : Int, e = .returned (.int .i64 c) ∧ c ≠ 0
    | some m' => e = .returned (.int .i64 0) ∧ MR w' base g n cap i (ms.set i m') ∧ Seen w' b (sn + 1) (with_ f key)
section
variable {w0 w w' : World} {base g n cap b sn i : Nat} {f : ByteArray → Bool} {ms : List Md} {m : Md}
theorem In.glob (I : In w0 w base g n cap b sn i f ms m) : Glob w := I.G.below I.B
theorem In.gb (I : In w0 w base g n cap b sn i f ms m) : g ≠ b := by
  intro e
  obtain ⟨es, clock, hb⟩ := I.S.isMap
  obtain ⟨cells, h⟩ := I.R.typed
  rw [e, hb] at h
  cases h
theorem In.after (I : In w0 w base g n cap b sn i f ms m) (h : Below base w w') : Below w0.heap.size w0 w' := I.B.trans (h.mono I.b0)
/-- A key is noted. -/
theorem In.keyed (I : In w0 w base g n cap b sn i f ms m) (hn : sn ≤ 100000) (k : ByteArray) (hk : k.size ≤ maxLen) : ∃ w1, (Instr.mapUpdate 112 (.map (some b)) (.string k) (.bool true)).run Tryd.prog w = .ok () w1 ∧ In w0 w1 base g n cap b (sn + 1) i (with_ f k) ms m ∧ Below base w w1 := by
  obtain ⟨w1, hr, hS, hg⟩ := I.S.put (by unfold maxLen; omega) k hk
  have hb1 : Below base w w1 := (Below.refl base w).grown hg I.bw (fun k hk => by cases hk; exact I.bb)
  refine ⟨w1, hr, ⟨I.R.other hg I.S.isMap, I.mi, hS, I.G, I.after hb1, I.b0, I.bb, Nat.le_trans I.bw hg.size, I.bg⟩, hb1⟩
theorem In.below (I : In w0 w base g n cap b sn i f ms m) (h : Below w.heap.size w w') : In w0 w' base g n cap b sn i f ms m :=
  ⟨I.R.below h, I.mi, I.S.below h, I.G, I.after (h.mono I.bw), I.b0, I.bb, Nat.le_trans I.bw h.size, I.bg⟩
/-- A cell of the module is written. -/
theorem In.put (I : In w0 w base g n cap b sn i f ms m) (m' : Md) (j : Nat) (hj : j < 6) (u : Value)
    (hM : ∀ s, (mw m (slv s)).set j u = mw m' (slv s)) (hus : m'.2.2.2.2.2 = m.2.2.2.2.2) :
    In w0 (w.setCell ⟨g, i * 6 + j, none⟩ u) base g n cap b sn i f (ms.set i m') m' ∧ Below base w (w.setCell ⟨g, i * 6 + j, none⟩ u) := by
  obtain ⟨hR, hg⟩ := I.R.put i m I.mi m' j hj u hM hus
  have hb : Below base w (w.setCell ⟨g, i * 6 + j, none⟩ u) := (Below.refl base w).grown hg I.bw (fun k hk => by cases hk; exact I.bg)
  have hi : i < ms.length := (List.getElem?_eq_some_iff.1 I.mi).1
  refine ⟨⟨hR, ?_, I.S.set u (fun e => I.gb e.symm), I.G, I.after hb, I.b0, I.bb, Nat.le_trans I.bw hg.size, I.bg⟩, hb⟩
  rw [List.getElem?_set_self hi]
theorem In.out {key : ByteArray} (I : In w0 w' base g n cap b (sn + 1) i (with_ f key) (ms.set i m) m) (h : Below base w w') : Out w base g n cap b sn i f ms key (some m) (.returned (.int .i64 0)) w' := ⟨h, rfl, I.R, I.S⟩
theorem out_none {key : ByteArray} {c : Int} (h : Below base w w') (hc : c ≠ 0) : Out w base g n cap b sn i f ms key none (.returned (.int .i64 c)) w' := ⟨h, c, rfl, hc⟩
end
theorem pathcheck_b (s : ByteArray) (w : World) (hG : Glob w) (hs : s.size ≤ 10000) :
    Calls Tryd.prog 86 #[.string s] w fun e w' => ∃ pk : Bool, (s = ⟨#[114]⟩ → pk = true) ∧ (if pk then e = .returned .nilIface else ∃ g, e = .returned (.iface 95 (.pointer (some ⟨g, 0, none⟩)))) ∧ Below w.heap.size w w' := by
  by_cases h : s = ⟨#[114]⟩
  · subst h
    refine (pathcheck_r w hG).mono ?_
    rintro e w' ⟨rfl, hb⟩
    exact ⟨true, fun _ => rfl, rfl, hb⟩
  · refine (pathcheck_ok s w hG hs).mono ?_
    rintro e w' ⟨v, rfl, hv, hb⟩
    rcases hv with rfl | ⟨g, rfl⟩
    · exact ⟨true, fun _ => rfl, rfl, hb⟩
    · exact ⟨false, fun e => absurd e h, ⟨g, rfl⟩, hb⟩
set_option maxHeartbeats 1000000 in
set_option maxRecDepth 100000 in
theorem set_root {w0 w : World} {base g n cap b sn i : Nat} {f : ByteArray → Bool} {ms : List Md} {nm rt : ByteArray} {bw : Bool} {sl q : Int} {us : List Usr} (I : In w0 w base g n cap b sn i f ms (nm, rt, bw, sl, q, us)) (hn : sn ≤ 100000) (value : ByteArray) (hv : value.size ≤ 10000)
    (hf : f ⟨#[114, 111, 111, 116]⟩ = false) :
    Calls Tryd.prog 47 #[.pointer (some ⟨g, i * 6, none⟩), .string ⟨#[114, 111, 111, 116]⟩, .string value, .map (some b)] w fun e w' => ∃ pk : Bool, (value = ⟨#[114]⟩ → pk = true) ∧ Out w base g n cap b sn i f ms ⟨#[114, 111, 111, 116]⟩ (if pk then some (nm, value, bw, sl, q, us) else none) e w' := by
  have hlook := I.S.look ⟨#[114, 111, 111, 116]⟩ (by decide)
  rw [hf] at hlook
  obtain ⟨w1, hput, I1, B1⟩ := I.keyed hn ⟨#[114, 111, 111, 116]⟩ (by decide)
  obtain ⟨A1, c1, hl, hU, k0, k1, k2, k3, k4, k5, hfr⟩ := I1.R.at_ i nm rt bw sl q us I1.mi
  have fr1 := hfr 1
  obtain ⟨I2, B2⟩ := I1.put (nm, value, bw, sl, q, us) 1 (by decide) (.string value) (fun _ => rfl) rfl
  have H2 := hide I2
  have HB1 := hide B1
  have HB2 := hide B2
  have HV := hide hv
  obtain ⟨o, ho⟩ : ∃ z, z = i * 6 := ⟨_, rfl⟩
  rw [← ho] at k1 fr1 H2 HB2 ⊢
  have HO := hide ho
  clear I I1 I2 B1 B2 hl hU k0 k2 k3 k4 k5 hfr hv hf hn ho
  go_enter Tryd.func47, Tryd.ntmps47
  go_wp2_with fail
  refine (pathcheck_b value _ (unhide H2).glob (unhide HV)).mono ?_
  rintro e w3 ⟨pk, hpk, he, hb3⟩
  have I3 := hide ((unhide H2).below hb3)
  have B3 := hide ((unhide HB1).trans ((unhide HB2).trans (hb3.mono (unhide H2).bw)))
  have HPK := hide hpk
  clear hpk hb3
  cases pk with
  | true =>
    obtain rfl := he
    go_wp2_with fail
    go_ret
    exact ⟨true, fun _ => rfl, (unhide I3).out (unhide B3)⟩
  | false =>
    obtain ⟨g9, rfl⟩ := he
    go_wp2_with fail
    go_ret
    exact ⟨false, fun h => absurd (unhide HPK h) (by simp), out_none (unhide B3) (by decide)⟩
end Go.Proofs.YtgoephcembgmcaaDoor.Cf
