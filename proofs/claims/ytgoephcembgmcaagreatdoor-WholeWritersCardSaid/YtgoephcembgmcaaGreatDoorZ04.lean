/- Texts of the proof, merged: Co2 Fo1 Vi1 Vi2 Vi3. -/
import Derived.Test.YtgoephcembgmcaaGreatDoorZ03
import Derived.Shelf.SlIterI.Nil
import Derived.Shelf.SortM.Plain
import Derived.Shelf.SortM.SortNone
set_option linter.unusedSimpArgs false
set_option linter.unusedVariables false
namespace Go.Proofs.YtgoephcembgmcaaGreatDoor.G
open Go.RowKit Go.Maps Go.Proofs.YtgoephcembgmcaaGreatDoorW.PrintWords Go.Proofs.YtgoephcembgmcaaGreatDoorW.PrintLast
/-! Tree.Commit, where it can be done. -/
theorem HR_.fm {w w1 : World} {base base' : Nat} {ts : List TypeId} {ms : List Nat} {v : Value} {cs : List Ch} (h : HR_ w base v cs) (hf : Fm base' ts ms w w1) (h1 : 49 ∉ ts) (h2 : 5 ∉ ts) (hm : ∀ k ∈ ms, ∃ es c, w.heap[k]? = some (.map es c)) : HR_ w1 base v cs :=
  h.move fun k _ hlt hq => by
    have hc : ∃ cells q, (q = 49 ∨ q = 5) ∧ w.heap[k]? = some (.cells cells q (0, 0)) := by
      rcases hq with hq | ⟨cells, hc⟩
      · obtain ⟨_, cells, hc⟩ := h.typed k hq
        exact ⟨cells, 49, .inl rfl, hc⟩
      · exact ⟨cells, 5, .inr rfl, hc⟩
    obtain ⟨cells, q, hq, hc⟩ := hc
    refine hf.k k hlt (fun hin => ?_) (fun c t fz hc2 => ?_)
    · obtain ⟨_, _, hmm⟩ := hm k hin
      rw [hmm] at hc
      cases hc
    · rw [hc] at hc2
      cases hc2
      rcases hq with rfl | rfl
      · exact h1
      · exact h2
theorem clone3 (w : World) (base : Nat) (dg dc : Nat) (m : Int) (h : DR w base (some ⟨dg, 0, none⟩, 1, dc) m) :
    Calls Tryz.prog 44 #[.slice (some ⟨dg, 0, none⟩) 1 dc] w fun e w' => ∃ A q c, e = .returned (.slice A q c) ∧ DR w' w.heap.size (A, q, c) m ∧ Below w.heap.size w w' :=
  (clone_ok w base _ m h).mono fun _ _ ⟨⟨A, q, c⟩, h1, h2, h3⟩ => ⟨A, q, c, h1, h2, h3⟩
structure FC (w : World) (T b x : Nat) (now1 : Int) (p : ByteArray) (dg dc : Nat) (v : Value) : Prop where
  t0 : w.cell? ⟨T, 0, none⟩ = some (.int .i64 now1)
  t1 : w.cell? ⟨T, 1, none⟩ = some (.map (some b))
  e0 : w.cell? ⟨x, 0, none⟩ = some (.string p)
  e1 : w.cell? ⟨x, 1, none⟩ = some (.slice (some ⟨dg, 0, none⟩) 1 dc)
  e2 : w.cell? ⟨x, 2, none⟩ = some (.bool false)
  lk : (Instr.lookup 81 (.map (some b)) (.string p) false).run Tryz.prog w = .ok v w
theorem FC.of {w : World} {T b x n : Nat} {now1 : Int} {p : ByteArray} {dg dc : Nat} {F : ByteArray → Option Value} (hT : TC w T now1 b) (hm : MF CS w b n F) (hx : w.heap[x]? = some (.cells #[.string p, .slice (some ⟨dg, 0, none⟩) 1 dc, .bool false] 49 (0, 0))) (hp : p.size ≤ maxLen) : FC w T b x now1 p dg dc ((F p).getD (.slice none 0 0)) :=
  ⟨hT.cells.1, hT.cells.2, blk_cell hx 0, blk_cell hx 1, blk_cell hx 2, hm.look (t := 81) Tryz.underlying81 (zero90 w) (x := p) hp⟩
def Pushed (g g' : ByteArray → List St) (v : Nat) (mk : Int) (qs : List ByteArray) : Prop := (∀ p, p ∉ qs → g' p = g p) ∧ ∀ p ∈ qs, ∃ d, g' p = g p ++ [⟨v, d, mk⟩]
theorem Pushed.step {g g' : ByteArray → List St} {v : Nat} {mk : Int} {qs : List ByteArray} (h : Pushed g g' v mk qs) {p : ByteArray} (hp : p ∉ qs) (d : Sc) : Pushed g (updG g' p (g' p ++ [⟨v, d, mk⟩])) v mk (qs ++ [p]) := by
  refine ⟨fun q hq => ?_, fun q hq => ?_⟩
  · have e : q ≠ p := fun e => hq (by simp [e])
    rw [updG_other e]
    exact h.1 q (fun h2 => hq (List.mem_append_left _ h2))
  · by_cases e : q = p
    · subst e
      rw [updG_same, h.1 q hp]
      exact ⟨d, rfl⟩
    · rw [updG_other e]
      rcases List.mem_append.1 hq with hq | hq
      · exact h.2 q hq
      · exact absurd (List.mem_singleton.1 hq) e
theorem TreeAt.setNow {w : World} {base T b n now : Nat} {F : ByteArray → Option Value} {g : ByteArray → List St} (h : TreeAt w base T b n now F g) (now1 : Nat) : TreeAt (w.setCell ⟨T, 0, none⟩ (.int .i64 (now1 : Int))) base T b n now1 F g := by
  have hT := h.c
  unfold TC at hT
  obtain ⟨es, cl, hm⟩ := h.r.1.isMap
  have hne : ∀ k, k ≠ T → (w.setCell ⟨T, 0, none⟩ (.int .i64 (now1 : Int))).heap[k]? = w.heap[k]? := fun k hk => heap_setCell_other w ⟨T, 0, none⟩ k _ hk
  refine ⟨?_, h.r.move (hne b (fun e => ?_)) (fun k _ _ hq => hne k (fun e => ?_)), h.hT, h.hb⟩
  · have h2 := heap_setCell_same w T 0 #[.int .i64 (now : Int), .map (some b)] 83 (.int .i64 (now1 : Int)) hT
    exact h2
  · rw [e, hT] at hm
    cases hm
  · obtain ⟨cells, q, hq, hc⟩ := hq
    rw [e, hT] at hc
    cases hc
    rcases hq with hq | hq <;> cases hq
def CommitSays (w : World) (base T b n now : Nat) (g : ByteArray → List St) (ps : List ByteArray) (mk : Int) (e : Ending) (w' : World) : Prop :=
  e = .returned (.tuple #[.int .i64 ((now + 1 : Nat) : Int), .nilIface]) ∧ Fm base [83, 100] [b] w w' ∧ ∃ F' g', TreeAt w' base T b (n + ps.length) (now + 1) F' g' ∧ Pushed g g' (now + 1) mk ps
def T28_8 : Bool × List (List Nat × List Nat) := (true, [([], []), ([0], [0]), ([1], [1]), ([2], [2]), ([], []), ([4], [4]), ([], []), ([6], [6]), ([7], [7]), ([8], [8]), ([], []), ([10], [10]), ([9, 11], [9, 11]), ([], []), ([13], [13]), ([14], [14]), ([15], [15]), ([], []), ([17], [17]), ([18], [18]), ([], []), ([20], [20]), ([16, 19, 21], [16, 19, 21]), ([22], [22]), ([12, 23, 19], [12, 23]), ([3, 5, 24, 24, 0, 1, 2, 3, 4, 5, 6, 7, 8, 9, 10, 11, 12, 13, 14, 15, 16, 17, 18, 19, 20, 21, 22, 23, 24], [3, 5, 24])])
def BT28_8 : List Nat := [0, 1, 3, 7, 0, 16, 0, 64, 192, 448, 0, 1024, 4032, 0, 8192, 24576, 57344, 0, 131072, 393216, 0, 1048576, 4186112, 8380416, 16777152, 33554431]
theorem tabT28_8 : rtab .any (opsOf Tryz.f28 8) = T28_8 := by kernel_rfl
theorem bitsT28_8 : waitsOk T28_8.2 BT28_8 = true := by kernel_rfl
set_option maxHeartbeats 8000000 in
set_option maxRecDepth 100000 in
theorem tcommit_ok (base T b n now : Nat) (F : ByteArray → Option Value) (g : ByteArray → List St) (cs : List Ch) (A0 : Option Addr) (c0 : Nat) (mk : Int) (w : World) (hG : Glob w) (h : TreeAt w base T b n now F g) (hbw : base ≤ w.heap.size) (hn : n ≤ 1000) (hg : ∀ p, (g p).length ≤ 500) (hwf : WF g now) (hnow : now ≤ 500)
    (hC : HR_ w base (.slice A0 cs.length c0) cs) (hm : cs.length ≤ 1000) (hps : ∀ c ∈ cs, c.pth.size ≤ 10000) (hmk : ∀ c ∈ cs, c.mrk = mk) (hcan : ∀ ls, Lists g (now : Int) ls → CanL (cs.map (·.pth)) ls) :
    Calls Tryz.prog 28 #[.pointer (some ⟨T, 0, none⟩), .slice A0 cs.length c0] w (CommitSays w base T b n now g (cs.map (·.pth)) mk) := by
  have hcheck := check_ok base T b n now F g cs A0 c0 w hG h hn (fun p => Nat.le_trans (hg p) (by decide)) hwf (by omega) hC hm hps
  have hnd : (cs.map (·.pth)).Nodup := by
    obtain ⟨ls, hls, _⟩ := h.lists (now : Int)
    exact (hcan ls hls).2.1
  obtain ⟨ps, hpsd⟩ : ∃ z, z = cs.map (·.pth) := ⟨_, rfl⟩
  rw [← hpsd] at hcheck hcan hnd ⊢
  obtain ⟨m, hmd⟩ : ∃ z, z = cs.length := ⟨_, rfl⟩
  rw [← hmd] at hC hm hcheck ⊢
  have HPSD := hide hpsd
  have HM := hide hmd
  have HT := hide h
  have HBW := hide hbw
  have HN := hide hn
  have HGL := hide hg
  have HNOW := hide hnow
  have HC := hide hC
  have HML := hide hm
  have HPS := hide hps
  have HMK := hide hmk
  have HCAN := hide hcan
  have HND := hide hnd
  have HCHECK := hide hcheck
  have hu83 := Tryz.underlying83
  have hu49 := Tryz.underlying49
  have hu81 := Tryz.underlying81
  have hu90 := Tryz.underlying90
  have hu100 := Tryz.underlying100
  clear hpsd hmd hG h hbw hn hg hwf hnow hC hm hps hmk hcan hnd hcheck
  go_enter Tryz.func28, Tryz.ntmps28
  go_wp2_with fail
  refine (unhide HCHECK).mono ?_
  rintro e w1 ⟨⟨v, ls, rfl, hls, htold⟩, hb1⟩
  obtain rfl : v = .nilIface := by
    rcases htold with ⟨_, h⟩ | ⟨h, _⟩
    · exact h
    · exact absurd (unhide HCAN ls hls) h
  have HT1 := hide ((unhide HT).below hb1)
  have HB1 := hide hb1
  obtain ⟨t0, t1⟩ := (unhide HT1).c.cells
  have z0 : w1.frozen? ⟨T, 0, none⟩ = false := frozen_of_row w1 T 0 _ 83 (unhide HT1).c
  have hw0 : wrap64 ((now : Int) + 1) = (now : Int) + 1 := by have := unhide HNOW; unfold wrap64; omega
  have HT2 : Hid (TreeAt (w1.setCell ⟨T, 0, none⟩ (.int .i64 ((now : Int) + 1))) base T b n (now + 1) F g) := (unhide HT1).setNow (now + 1)
  have HF2 : Hid (Fm base [83, 100] [b] w (w1.setCell ⟨T, 0, none⟩ (.int .i64 ((now : Int) + 1)))) := (Fm.of_below hb1 (unhide HBW)).trans (Fm.set (cells := _) (fz := (0, 0)) (t := 83) _ (unhide HT).hT (unhide HT1).c (by simp))
  clear hls htold hb1 HCHECK t1
  go_wp2_with fail
  generalize w1.setCell ⟨T, 0, none⟩ (.int .i64 ((now : Int) + 1)) = w2 at HT2 HF2 ⊢
  clear t0 z0 hw0 HT1 HB1
  obtain ⟨now1, hnow1⟩ : ∃ z, z = now + 1 := ⟨_, rfl⟩
  rw [← hnow1] at HT2
  have HNOW1 := hide hnow1
  clear hnow1
  go_loopg [24] m (fun kq v24 wr => ∃ (j : Nat) (F' : ByteArray → Option Value) (g' : ByteArray → List St), v24 = .int .i64 (j : Int) ∧ Hid (j + kq = m) ∧ Hid (TreeAt wr base T b (n + j) now1 F' g') ∧ Hid (Fm base [83, 100] [b] w wr) ∧ Hid (Pushed g g' now1 mk (ps.take j)))
  case atStart => exact ⟨0, F, g, rfl, Nat.zero_add _, unhide HT2, unhide HF2, ⟨fun p _ => rfl, fun p hp => by simp at hp⟩⟩
  case round =>
    obtain ⟨j, F', g', rfl, HI, HTR, HFM, HPU⟩ := hrel
    by_cases hlt : j < m
    · have d1 : (j : Int) < (m : Int) := by omega
      obtain ⟨ch, hch⟩ : ∃ z, cs[j]? = some z := ⟨_, List.getElem?_eq_getElem (by rw [← unhide HM]; exact hlt)⟩
      have hrow : HR_ wr base (.slice A0 m c0) cs := (unhide HC).fm (unhide HFM) (by decide) (by decide) (fun k hk => by rw [List.mem_singleton.1 hk]; exact (unhide HT).r.1.isMap)
      obtain ⟨ad, rfl, k0, k1, k2⟩ := hrow.at_ j ch hch
      have hdr := hrow.2 ch (List.mem_of_getElem? hch)
      have hpz := unhide HPS ch (List.mem_of_getElem? hch)
      have hmj := unhide HMK ch (List.mem_of_getElem? hch)
      have hpj : ps[j]? = some ch.pth := by rw [unhide HPSD, List.getElem?_map, hch]; rfl
      obtain ⟨p, d, mk1⟩ := ch
      obtain rfl : mk1 = mk := hmj
      obtain ⟨dg, dc, rfl, _, _, _, _⟩ := DR.form hdr
      replace k0 : wr.cell? (ad.add (j * 3)) = some (.string p) := k0
      replace k1 : wr.cell? ⟨(ad.add (j * 3)).block, (ad.add (j * 3)).off + 1, none⟩ = some (.slice (some ⟨dg, 0, none⟩) 1 dc) := k1
      replace k2 : wr.cell? ⟨(ad.add (j * 3)).block, (ad.add (j * 3)).off + 2, none⟩ = some (.bool false) := k2
      replace hpz : p.size ≤ 10000 := hpz
      replace hpj : ps[j]? = some p := hpj
      have hnot : p ∉ ps.take j := by
        intro hin
        obtain ⟨i, hi⟩ := List.mem_iff_getElem?.1 hin
        rw [List.getElem?_take] at hi
        split at hi
        · rename_i hij
          have h1 := List.getElem?_eq_some_iff.1 hi
          have h2 := List.getElem?_eq_some_iff.1 hpj
          exact absurd (h1.2.trans h2.2.symm) (List.pairwise_iff_getElem.1 (unhide HND) i j h1.1 h2.1 hij)
        · cases hi
      have hlen : (g' p).length ≤ 1000 := by
        rw [(unhide HPU).1 p hnot]
        exact Nat.le_trans (unhide HGL p) (by decide)
      have ha := below_alloc (Below.refl wr.heap.size wr) (.cells #[.string p, .slice (some ⟨dg, 0, none⟩) 1 dc, .bool false] 49)
      have hbr : base ≤ wr.heap.size := Nat.le_trans (unhide HBW) (unhide HFM).b.size
      have hnb := blk_new wr (.cells #[.string p, .slice (some ⟨dg, 0, none⟩) 1 dc, .bool false] 49)
      have hTX := (unhide HTR).below ha
      have HXB := hide hnb
      have HTX := hide hTX
      have HDX : Hid (DR (wr.alloc (.cells #[.string p, .slice (some ⟨dg, 0, none⟩) 1 dc, .bool false] 49)) base (some ⟨dg, 0, none⟩, 1, dc) mk1) := DR.below hdr ha
      have HFX : Hid (Fm base [83, 100] [b] w (wr.alloc (.cells #[.string p, .slice (some ⟨dg, 0, none⟩) 1 dc, .bool false] 49))) := (unhide HFM).trans (Fm.of_below ha hbr)
      have HPZ := hide hpz
      have HPJ := hide hpj
      have HLT := hide hlt
      have HNOT := hide hnot
      have HLEN := hide hlen
      have HBR : Hid (base ≤ (wr.alloc (.cells #[.string p, .slice (some ⟨dg, 0, none⟩) 1 dc, .bool false] 49)).heap.size) := by show _ ≤ _; rw [World.size_alloc]; omega
      clear hlt hch hrow hdr hpz hpj hnot hlen ha hbr hnb hTX
      go_wp2_with fail
      have hw1 : wrap64 ((j : Int) + 1) = ((j + 1 : Nat) : Int) := by have := unhide HML; have := unhide HLT; unfold wrap64; omega
      have HW1 := hide hw1
      clear hw1
      obtain ⟨x, hx⟩ : ∃ z, z = wr.heap.size := ⟨_, rfl⟩
      rw [← hx] at HXB ⊢
      clear hx k0 k1 k2
      generalize wr.alloc (.cells #[.string p, .slice (some ⟨dg, 0, none⟩) 1 dc, .bool false] 49) = W1 at HXB HTX HDX HFX HBR ⊢
      obtain ⟨v0, hv0⟩ : ∃ z, z = (F' p).getD (.slice none 0 0) := ⟨_, rfl⟩
      have HV0 := hide hv0
      clear hv0
      have HST : Hid (FC W1.drew T b x (now1 : Int) p dg dc v0) := by rw [unhide HV0]; exact FC.of (unhide HTX).c ((unhide HTX).r.1.kept (w' := W1.drew) rfl) (unhide HXB) (by have := unhide HPZ; simp only [maxLen]; omega)
      refine start_ (n := 26) (S := fun w' => FC w' T b x (now1 : Int) p dg dc v0) (ds := [25]) #[false, false, false, false, false, false, false, false, false, false, false, false, false, false, false, false, false, false, false, false, false, false, false, false, false, false] (by kernel_rfl) rfl rfl (unhide HST) (fun hHeld => ?_)
      refine with_tabW tabT28_8 bitsT28_8 (fun HT_ HW_ => ?_)
      refine pure_ (i := 0) (N := some 28) (v := ?_) (a' := ?_) #[true, false, false, false, false, false, false, false, false, false, false, false, false, false, false, false, false, false, false, false, false, false, false, false, false, false] rfl rfl (any_of HT_.out (by kernel_rfl)) (fun _ _ _ h => h) (Or.inl ⟨by rfl, ?_⟩) ?_ ?_
      rotate_left
      · intro w'
        go_simp
        with_reducible rfl
      rotate_left
      · simp only [Act.put, List.setIfInBounds_toArray, List.set_cons_zero, List.set_cons_succ, i64_w, i32_w]
        rfl
      refine pure_ (i := 1) (N := some 29) (v := ?_) (a' := ?_) #[true, true, false, false, false, false, false, false, false, false, false, false, false, false, false, false, false, false, false, false, false, false, false, false, false, false] rfl rfl (any_of HT_.out (by kernel_rfl)) (fun _ _ _ h => h) (Or.inl ⟨by rfl, ?_⟩) ?_ ?_
      rotate_left
      · intro w'
        go_simp
        with_reducible rfl
      rotate_left
      · simp only [Act.put, List.setIfInBounds_toArray, List.set_cons_zero, List.set_cons_succ, i64_w, i32_w]
        rfl
      refine pure_ (i := 2) (N := some 30) (v := ?_) (a' := ?_) #[true, true, true, false, false, false, false, false, false, false, false, false, false, false, false, false, false, false, false, false, false, false, false, false, false, false] rfl rfl (any_of HT_.out (by kernel_rfl)) (fun _ _ _ h => h) (Or.inl ⟨by rfl, ?_⟩) ?_ ?_
      rotate_left
      · intro w'
        go_simp
        with_reducible rfl
      rotate_left
      · simp only [Act.put, List.setIfInBounds_toArray, List.set_cons_zero, List.set_cons_succ, i64_w, i32_w]
        rfl
      refine take_ (i := 3) (N := some 31) (v := ?_) (a' := ?_) #[true, true, true, true, false, false, false, false, false, false, false, false, false, false, false, false, false, false, false, false, false, false, false, false, false, false] rfl rfl (take_ofW HT_.out HW_.out (by kernel_rfl)) (fun _ _ _ h => h) (Or.inl ⟨by rfl, ?_⟩) hHeld ?_ ?_
      rotate_left
      · rintro w' h1_
        obtain ⟨t0_, t1_, e0_, e1_, e2_, lk_⟩ := h1_
        go_simp
        with_reducible rfl
      rotate_left
      · simp only [Act.put, List.setIfInBounds_toArray, List.set_cons_zero, List.set_cons_succ, i64_w, i32_w]
        rfl
      refine pure_ (i := 4) (N := some 32) (v := ?_) (a' := ?_) #[true, true, true, true, true, false, false, false, false, false, false, false, false, false, false, false, false, false, false, false, false, false, false, false, false, false] rfl rfl (any_of HT_.out (by kernel_rfl)) (fun _ _ _ h => h) (Or.inl ⟨by rfl, ?_⟩) ?_ ?_
      rotate_left
      · intro w'
        go_simp
        with_reducible rfl
      rotate_left
      · simp only [Act.put, List.setIfInBounds_toArray, List.set_cons_zero, List.set_cons_succ, i64_w, i32_w]
        rfl
      refine take_ (i := 5) (N := some 33) (v := ?_) (a' := ?_) #[true, true, true, true, true, true, false, false, false, false, false, false, false, false, false, false, false, false, false, false, false, false, false, false, false, false] rfl rfl (take_ofW HT_.out HW_.out (by kernel_rfl)) (fun _ _ _ h => h) (Or.inl ⟨by rfl, ?_⟩) hHeld ?_ ?_
      rotate_left
      · rintro w' h1_
        obtain ⟨t0_, t1_, e0_, e1_, e2_, lk_⟩ := h1_
        go_simp
        with_reducible rfl
      rotate_left
      · simp only [Act.put, List.setIfInBounds_toArray, List.set_cons_zero, List.set_cons_succ, i64_w, i32_w]
        rfl
      refine pure_ (i := 6) (N := some 34) (v := ?_) (a' := ?_) #[true, true, true, true, true, true, true, false, false, false, false, false, false, false, false, false, false, false, false, false, false, false, false, false, false, false] rfl rfl (any_of HT_.out (by kernel_rfl)) (fun _ _ _ h => h) (Or.inl ⟨by rfl, ?_⟩) ?_ ?_
      rotate_left
      · intro w'
        go_simp
        with_reducible rfl
      rotate_left
      · simp only [Act.put, List.setIfInBounds_toArray, List.set_cons_zero, List.set_cons_succ, i64_w, i32_w]
        rfl
      refine pure_ (i := 7) (N := some 35) (v := ?_) (a' := ?_) #[true, true, true, true, true, true, true, true, false, false, false, false, false, false, false, false, false, false, false, false, false, false, false, false, false, false] rfl rfl (any_of HT_.out (by kernel_rfl)) (fun _ _ _ h => h) (Or.inl ⟨by rfl, ?_⟩) ?_ ?_
      rotate_left
      · intro w'
        go_simp
        with_reducible rfl
      rotate_left
      · simp only [Act.put, List.setIfInBounds_toArray, List.set_cons_zero, List.set_cons_succ, i64_w, i32_w]
        rfl
      refine pure_ (i := 8) (N := some 36) (v := ?_) (a' := ?_) #[true, true, true, true, true, true, true, true, true, false, false, false, false, false, false, false, false, false, false, false, false, false, false, false, false, false] rfl rfl (any_of HT_.out (by kernel_rfl)) (fun _ _ _ h => h) (Or.inl ⟨by rfl, ?_⟩) ?_ ?_
      rotate_left
      · intro w'
        go_simp
        with_reducible rfl
      rotate_left
      · simp only [Act.put, List.setIfInBounds_toArray, List.set_cons_zero, List.set_cons_succ, i64_w, i32_w]
        rfl
      refine take_ (i := 9) (N := some 37) (v := ?_) (a' := ?_) #[true, true, true, true, true, true, true, true, true, true, false, false, false, false, false, false, false, false, false, false, false, false, false, false, false, false] rfl rfl (take_ofW HT_.out HW_.out (by kernel_rfl)) (fun _ _ _ h => h) (Or.inl ⟨by rfl, ?_⟩) hHeld ?_ ?_
      rotate_left
      · rintro w' h1_
        obtain ⟨t0_, t1_, e0_, e1_, e2_, lk_⟩ := h1_
        go_simp
        with_reducible rfl
      rotate_left
      · simp only [Act.put, List.setIfInBounds_toArray, List.set_cons_zero, List.set_cons_succ, i64_w, i32_w]
        rfl
      refine pure_ (i := 10) (N := some 38) (v := ?_) (a' := ?_) #[true, true, true, true, true, true, true, true, true, true, true, false, false, false, false, false, false, false, false, false, false, false, false, false, false, false] rfl rfl (any_of HT_.out (by kernel_rfl)) (fun _ _ _ h => h) (Or.inl ⟨by rfl, ?_⟩) ?_ ?_
      rotate_left
      · intro w'
        go_simp
        with_reducible rfl
      rotate_left
      · simp only [Act.put, List.setIfInBounds_toArray, List.set_cons_zero, List.set_cons_succ, i64_w, i32_w]
        rfl
      refine take_ (i := 11) (N := some 39) (v := ?_) (a' := ?_) #[true, true, true, true, true, true, true, true, true, true, true, true, false, false, false, false, false, false, false, false, false, false, false, false, false, false] rfl rfl (take_ofW HT_.out HW_.out (by kernel_rfl)) (fun _ _ _ h => h) (Or.inl ⟨by rfl, ?_⟩) hHeld ?_ ?_
      rotate_left
      · rintro w' h1_
        obtain ⟨t0_, t1_, e0_, e1_, e2_, lk_⟩ := h1_
        go_simp
        with_reducible rfl
      rotate_left
      · simp only [Act.put, List.setIfInBounds_toArray, List.set_cons_zero, List.set_cons_succ, i64_w, i32_w]
        rfl
      refine take_ (i := 12) (N := some 40) (v := ?_) (a' := ?_) #[true, true, true, true, true, true, true, true, true, true, true, true, true, false, false, false, false, false, false, false, false, false, false, false, false, false] rfl rfl (take_ofW HT_.out HW_.out (by kernel_rfl)) (fun _ _ _ h => h) (Or.inl ⟨by rfl, ?_⟩) hHeld ?_ ?_
      rotate_left
      · rintro w' h1_
        obtain ⟨t0_, t1_, e0_, e1_, e2_, lk_⟩ := h1_
        go_simp
        with_reducible rfl
      rotate_left
      · simp only [Act.put, List.setIfInBounds_toArray, List.set_cons_zero, List.set_cons_succ, i64_w, i32_w]
        rfl
      refine pure_ (i := 13) (N := some 41) (v := ?_) (a' := ?_) #[true, true, true, true, true, true, true, true, true, true, true, true, true, true, false, false, false, false, false, false, false, false, false, false, false, false] rfl rfl (any_of HT_.out (by kernel_rfl)) (fun _ _ _ h => h) (Or.inl ⟨by rfl, ?_⟩) ?_ ?_
      rotate_left
      · intro w'
        go_simp
        with_reducible rfl
      rotate_left
      · simp only [Act.put, List.setIfInBounds_toArray, List.set_cons_zero, List.set_cons_succ, i64_w, i32_w]
        rfl
      refine pure_ (i := 14) (N := some 42) (v := ?_) (a' := ?_) #[true, true, true, true, true, true, true, true, true, true, true, true, true, true, true, false, false, false, false, false, false, false, false, false, false, false] rfl rfl (any_of HT_.out (by kernel_rfl)) (fun _ _ _ h => h) (Or.inl ⟨by rfl, ?_⟩) ?_ ?_
      rotate_left
      · intro w'
        go_simp
        with_reducible rfl
      rotate_left
      · simp only [Act.put, List.setIfInBounds_toArray, List.set_cons_zero, List.set_cons_succ, i64_w, i32_w]
        rfl
      refine pure_ (i := 15) (N := some 43) (v := ?_) (a' := ?_) #[true, true, true, true, true, true, true, true, true, true, true, true, true, true, true, true, false, false, false, false, false, false, false, false, false, false] rfl rfl (any_of HT_.out (by kernel_rfl)) (fun _ _ _ h => h) (Or.inl ⟨by rfl, ?_⟩) ?_ ?_
      rotate_left
      · intro w'
        go_simp
        with_reducible rfl
      rotate_left
      · simp only [Act.put, List.setIfInBounds_toArray, List.set_cons_zero, List.set_cons_succ, i64_w, i32_w]
        rfl
      refine take_ (i := 16) (N := some 44) (v := ?_) (a' := ?_) #[true, true, true, true, true, true, true, true, true, true, true, true, true, true, true, true, true, false, false, false, false, false, false, false, false, false] rfl rfl (take_ofW HT_.out HW_.out (by kernel_rfl)) (fun _ _ _ h => h) (Or.inl ⟨by rfl, ?_⟩) hHeld ?_ ?_
      rotate_left
      · rintro w' h1_
        obtain ⟨t0_, t1_, e0_, e1_, e2_, lk_⟩ := h1_
        go_simp
        with_reducible rfl
      rotate_left
      · simp only [Act.put, List.setIfInBounds_toArray, List.set_cons_zero, List.set_cons_succ, i64_w, i32_w]
        rfl
      refine pure_ (i := 17) (N := some 45) (v := ?_) (a' := ?_) #[true, true, true, true, true, true, true, true, true, true, true, true, true, true, true, true, true, true, false, false, false, false, false, false, false, false] rfl rfl (any_of HT_.out (by kernel_rfl)) (fun _ _ _ h => h) (Or.inl ⟨by rfl, ?_⟩) ?_ ?_
      rotate_left
      · intro w'
        go_simp
        with_reducible rfl
      rotate_left
      · simp only [Act.put, List.setIfInBounds_toArray, List.set_cons_zero, List.set_cons_succ, i64_w, i32_w]
        rfl
      refine take_ (i := 18) (N := some 46) (v := ?_) (a' := ?_) #[true, true, true, true, true, true, true, true, true, true, true, true, true, true, true, true, true, true, true, false, false, false, false, false, false, false] rfl rfl (take_ofW HT_.out HW_.out (by kernel_rfl)) (fun _ _ _ h => h) (Or.inl ⟨by rfl, ?_⟩) hHeld ?_ ?_
      rotate_left
      · rintro w' h1_
        obtain ⟨t0_, t1_, e0_, e1_, e2_, lk_⟩ := h1_
        go_simp
        with_reducible rfl
      rotate_left
      · simp only [Act.put, List.setIfInBounds_toArray, List.set_cons_zero, List.set_cons_succ, i64_w, i32_w]
        rfl
      refine pure_ (i := 20) (N := some 48) (v := ?_) (a' := ?_) #[true, true, true, true, true, true, true, true, true, true, true, true, true, true, true, true, true, true, true, false, true, false, false, false, false, false] rfl rfl (any_of HT_.out (by kernel_rfl)) (fun _ _ _ h => h) (Or.inl ⟨by rfl, ?_⟩) ?_ ?_
      rotate_left
      · intro w'
        go_simp
        with_reducible rfl
      rotate_left
      · simp only [Act.put, List.setIfInBounds_toArray, List.set_cons_zero, List.set_cons_succ, i64_w, i32_w]
        rfl
      refine take_ (i := 21) (N := some 49) (v := ?_) (a' := ?_) #[true, true, true, true, true, true, true, true, true, true, true, true, true, true, true, true, true, true, true, false, true, true, false, false, false, false] rfl rfl (take_ofW HT_.out HW_.out (by kernel_rfl)) (fun _ _ _ h => h) (Or.inl ⟨by rfl, ?_⟩) hHeld ?_ ?_
      rotate_left
      · rintro w' h1_
        obtain ⟨t0_, t1_, e0_, e1_, e2_, lk_⟩ := h1_
        go_simp
        with_reducible rfl
      rotate_left
      · simp only [Act.put, List.setIfInBounds_toArray, List.set_cons_zero, List.set_cons_succ, i64_w, i32_w]
        rfl
      refine one_ (i := 19) (N := some 47) #[true, true, true, true, true, true, true, true, true, true, true, true, true, true, true, true, true, true, true, true, true, true, false, false, false, false] rfl rfl (one_of HT_.out (by kernel_rfl)) (by decide) (fun K hK => ?_)
      refine goes_ Tryz.func44 (by kernel_rfl) rfl #[.slice (some ⟨dg, 0, none⟩) 1 dc] (by rfl) rfl rfl (by (try simp only [List.map_toArray, List.map_cons, List.map_nil]); first | done | rfl) ?_
      refine (clone3 W1.drew base dg dc mk1 (unhide HDX)).mono ?_
      rintro e w5 ⟨A5, q5, c5, rfl, hd5, hb5⟩
      refine ⟨_, rfl, ?_⟩
      have hb5 : Below W1.heap.size W1 w5 := below_step (below_drew (Below.refl W1.heap.size W1)) hb5
      have hT5 := (unhide HTX).below hb5
      have hx5 := (hb5.block x (Array.getElem?_eq_some_iff.1 (unhide HXB)).1).trans (unhide HXB)
      have hd5 : DR w5 base (A5, q5, c5) mk1 := World.ownsRow.mono hd5 (unhide HBR)
      have hbs5 : base ≤ w5.heap.size := Nat.le_trans (unhide HBR) hb5.size
      have HF5 := hide ((unhide HFX).trans (Fm.of_below hb5 (unhide HBR)))
      obtain ⟨v6, w6, w7, hr6, hr7, hT7, hF7, hg6, hTC6, hM6, hty6⟩ := hT5.push hbs5 (by have := unhide HN; have := unhide HML; have := unhide HLT; omega) p (unhide HPZ) (unhide HLEN) ⟨now1, (A5, q5, c5), mk1⟩ hd5
      rw [← unhide HV0] at hr6 hg6 hty6
      have ha5 := below_alloc (Below.refl w5.heap.size w5) (.cells #[.int .i64 (now1 : Int), .slice A5 q5 c5, .bool false] 100)
      have HS5 : Hid (FC w5 T b x (now1 : Int) p dg dc v0) := by rw [unhide HV0]; exact FC.of hT5.c hT5.r.1 hx5 (by have := unhide HPZ; simp only [maxLen]; omega)
      have HS5a : Hid (FC (w5.alloc (.cells #[.int .i64 (now1 : Int), .slice A5 q5 c5, .bool false] 100)) T b x (now1 : Int) p dg dc v0) := by rw [unhide HV0]; exact FC.of (hT5.below ha5).c (hT5.below ha5).r.1 ((ha5.block x (Array.getElem?_eq_some_iff.1 hx5).1).trans hx5) (by have := unhide HPZ; simp only [maxLen]; omega)
      have HS6 : Hid (FC w6 T b x (now1 : Int) p dg dc v0) := by
        have hx6 := (hg6.block x (Array.getElem?_eq_some_iff.1 hx5).1 (fun e => by
          obtain ⟨cells, hc⟩ := hty6 x e.symm
          rw [hx5] at hc
          cases hc)).trans hx5
        rw [unhide HV0]
        exact FC.of hTC6 hM6 hx6 (by have := unhide HPZ; simp only [maxLen]; omega)
      have HR6 := hide hr6
      have HR7 := hide hr7
      have HT7 := hide hT7
      have HF7 := hide hF7
      clear hb5 hT5 hx5 hd5 hbs5 hr6 hr7 hT7 hF7 hg6 hTC6 hM6 hty6 ha5
      clear hHeld
      refine hK.out _ _ (unhide HS5) (fun hHeld => ?_)
      clear hK K
      refine norm_ (a' := ?_) ?_ ?_
      rotate_left
      · show Act.put _ (some 47) _ = _
        simp only [Act.put, List.setIfInBounds_toArray, List.set_cons_zero, List.set_cons_succ, i64_w, i32_w]
        rfl
      refine pure_ (i := 22) (N := some 50) (v := ?_) (a' := ?_) #[true, true, true, true, true, true, true, true, true, true, true, true, true, true, true, true, true, true, true, true, true, true, true, false, false, false] rfl rfl (any_of HT_.out (by kernel_rfl)) (fun _ _ _ h => h) (Or.inl ⟨by rfl, ?_⟩) ?_ ?_
      rotate_left
      · intro w'
        go_simp
        with_reducible rfl
      rotate_left
      · simp only [Act.put, List.setIfInBounds_toArray, List.set_cons_zero, List.set_cons_succ, i64_w, i32_w]
        rfl
      refine one_ (i := 23) (N := some 51) #[true, true, true, true, true, true, true, true, true, true, true, true, true, true, true, true, true, true, true, true, true, true, true, true, false, false] rfl rfl (one_of HT_.out (by kernel_rfl)) (by decide) (fun K hK => ?_)
      refine value_ (v := .slice (some ⟨w5.heap.size, 0, none⟩) 1 1) (w1 := w5.alloc (.cells #[.int .i64 (now1 : Int), .slice A5 q5 c5, .bool false] 100)) (wanted_none rfl) rfl ?hrun ?_
      case hrun =>
        first | (go_simp; done) | (go_simp; rfl)
      clear hHeld
      refine hK.out _ _ (unhide HS5a) (fun hHeld => ?_)
      clear hK K
      refine norm_ (a' := ?_) ?_ ?_
      rotate_left
      · show Act.put _ (some 51) _ = _
        simp only [Act.put, List.setIfInBounds_toArray, List.set_cons_zero, List.set_cons_succ, i64_w, i32_w]
        rfl
      refine one_ (i := 24) (N := some 52) #[true, true, true, true, true, true, true, true, true, true, true, true, true, true, true, true, true, true, true, true, true, true, true, true, true, false] rfl rfl (one_of HT_.out (by kernel_rfl)) (by decide) (fun K hK => ?_)
      refine value_ (v := v6) (w1 := w6) (wanted_none rfl) rfl ?hrun ?_
      case hrun =>
        refine exec_append (s := .tmp 40) (x := .tmp 51) ?_ ?_ ?_ ?_ (unhide HR6)
        all_goals rfl
      clear hHeld
      refine hK.out _ _ (unhide HS6) (fun hHeld => ?_)
      clear hK K
      refine norm_ (a' := ?_) ?_ ?_
      rotate_left
      · show Act.put _ (some 52) _ = _
        simp only [Act.put, List.setIfInBounds_toArray, List.set_cons_zero, List.set_cons_succ, i64_w, i32_w]
        rfl
      refine last_ (i := 25) (N := none) #[true, true, true, true, true, true, true, true, true, true, true, true, true, true, true, true, true, true, true, true, true, true, true, true, true, true] rfl rfl (one_of HT_.out (by kernel_rfl)) (by decide) (fun K hK => ?_)
      refine skip_ (w1 := w7) (wanted_none rfl) rfl ?hrun ?_
      case hrun =>
        refine exec_update (m := .tmp 31) (x := .tmp 33) (v := .tmp 52) ?_ ?_ ?_ ?_ (unhide HR7)
        all_goals rfl
      refine hK.out _ _ ?_
      clear hK K
      refine done_ (done_of HT_.out (by kernel_rfl)) ?_
      clear HT_ HW_; (try clear hHeld)
      have HFM9 : Hid (Fm base [83, 100] [b] w w7) := (unhide HF5).trans ((unhide HF7).more (by simp) (by simp))
      have HPU9 : Hid (Pushed g (updG g' p (g' p ++ [⟨now1, (A5, q5, c5), mk1⟩])) now1 mk1 (ps.take (j + 1))) := by
        show Pushed _ _ _ _ _
        rw [take_mem_snoc (unhide HPJ)]
        exact (unhide HPU).step (unhide HNOT) _
      have hTR9 := unhide HT7
      clear HR6 HR7 HT7 HF7 HF5 HST HDX HXB HTX HFX
      have HB := hide hTR9
      clear hTR9
      go_wp2_with fail
      go_roundg (gk - 1)
      case measure => have := unhide HI; have := unhide HLT; omega
      case rel => exact ⟨j + 1, _, _, congrArg (Value.int .i64) (unhide HW1), (by have := unhide HI; have := unhide HLT; show _ = _; omega), unhide HB, unhide HFM9, unhide HPU9⟩
    · have d1 : ¬ (j : Int) < (m : Int) := by omega
      obtain ⟨t0, t1⟩ := (unhide HTR).c.cells
      have hjm : j = m := by have := unhide HI; omega
      subst hjm
      have HEND : Hid (ps.length = j) := by show _ = _; rw [unhide HPSD, List.length_map, ← unhide HM]
      clear hlt
      go_wp2_with fail
      go_ret2
      have hpu := unhide HPU
      have htr := unhide HTR
      rw [List.take_of_length_le (by rw [unhide HEND]; exact Nat.le_refl _)] at hpu
      rw [← unhide HEND, unhide HNOW1] at htr
      rw [unhide HNOW1] at hpu
      exact ⟨by rw [unhide HNOW1]; rfl, unhide HFM, F', g', htr, hpu⟩
end Go.Proofs.YtgoephcembgmcaaGreatDoor.G
namespace Go.Proofs.YtgoephcembgmcaaGreatDoor.G
open Go.RowKit Go.Maps Go.Proofs.YtgoephcembgmcaaGreatDoorW.PrintWords Go.Proofs.YtgoephcembgmcaaGreatDoorW.PrintLast
/-! Tree.Forget. -/
theorem IR.v1 {w : World} {base : Nat} {v : Value} {xs : List Int} (h : IR w base v xs) : V1 w base 3 v (xs.map (Value.int .i64)) := by
  unfold V1
  rw [List.length_map]
  exact h
theorem IR.fm {w w1 : World} {base base' : Nat} {ts : List TypeId} {ms : List Nat} {v : Value} {xs : List Int} (h : IR w base v xs) (hf : Fm base' ts ms w w1) (h3 : 3 ∉ ts) (hm : ∀ k ∈ ms, ∃ es c, w.heap[k]? = some (.map es c)) : IR w1 base v xs :=
  owns_block h (fun k hk => by
    obtain ⟨_, c2, hc2⟩ := h.typed k hk
    refine hf.k k (h.lt k hk) (fun hin => ?_) (fun cells t fz hc => ?_)
    · obtain ⟨_, _, hmm⟩ := hm k hin
      rw [hmm] at hc2
      cases hc2
    · rw [hc2] at hc
      cases hc
      exact h3)
theorem IR.at_ {w : World} {base : Nat} {A : Option Addr} {n c : Nat} {xs : List Int} (h : IR w base (.slice A n c) xs) (j : Nat) (x : Int) (hx : xs[j]? = some x) : ∃ ad, A = some ad ∧ w.cell? (ad.add j) = some (.int .i64 x) :=
  V1.at_ h.v1 j _ (by rw [List.getElem?_map, hx]; rfl)
def GoneTo (g g' : ByteArray → List St) (now : Int) (ks : List Int) (vis : List ByteArray) : Prop := ∀ q, (q ∈ vis → g' q = kept now ks (g q)) ∧ (q ∉ vis → g' q = g q)
theorem GoneTo.step {g g' : ByteArray → List St} {now : Int} {ks : List Int} {vis : List ByteArray} (h : GoneTo g g' now ks vis) (p : ByteArray) : GoneTo g (updG g' p (kept now ks (g p))) now ks (vis ++ [p]) := by
  intro q
  by_cases e : q = p
  · subst e
    rw [updG_same]
    exact ⟨fun _ => rfl, fun h => absurd (List.mem_append_right _ (List.mem_singleton.2 rfl)) h⟩
  · rw [updG_other e]
    refine ⟨fun hq => (h q).1 ?_, fun hq => (h q).2 (fun h2 => hq (List.mem_append_left _ h2))⟩
    rcases List.mem_append.1 hq with hq | hq
    · exact hq
    · exact absurd (List.mem_singleton.1 hq) e
theorem any_snoc {ks : List Int} {k : Nat} {v : Int} (h : ks[k]? = some v) (f : Int → Bool) : (ks.take (k + 1)).any f = ((ks.take k).any f || f v) := by
  rw [take_mem_snoc h, List.any_append]
  simp
theorem kept_step {now : Int} {ks : List Int} {ss : List St} {j : Nat} {s : St} (hs : ss[j]? = some s) : kept now ks (ss.drop j) = (if need1 now ks s ss[j + 1]? = true then [s] else []) ++ kept now ks (ss.drop (j + 1)) := by
  have hj := (List.getElem?_eq_some_iff.1 hs).1
  rw [List.drop_eq_getElem_cons hj, (List.getElem?_eq_some_iff.1 hs).2]
  conv => lhs; unfold kept
  rw [show (ss.drop (j + 1)).head? = ss[j + 1]? from by rw [List.head?_drop]]
  split <;> rfl
def ForgetSays (w : World) (base T b n now : Nat) (g : ByteArray → List St) (ks : List Int) (e : Ending) (w' : World) : Prop :=
  (∃ x, e = .returned (.int .i64 x)) ∧ Fm base [] [b] w w' ∧ ∃ F', TreeAt w' base T b n now F' (fun p => kept (now : Int) ks (g p))
set_option maxHeartbeats 8000000 in
set_option maxRecDepth 100000 in
theorem forget_ok (base T b n now kb : Nat) (F : ByteArray → Option Value) (g : ByteArray → List St) (ks : List Int) (A0 : Option Addr) (c0 : Nat) (w : World) (h : TreeAt w base T b n now F g) (hbw : base ≤ w.heap.size) (hn : n ≤ 1000) (hg : ∀ p, (g p).length ≤ 500) (hnow : now ≤ 500) (hle : ∀ p, ∀ s ∈ g p, s.frm ≤ now)
    (hK : IR w kb (.slice A0 ks.length c0) ks) (hk : ks.length ≤ 1000) :
    Calls Tryz.prog 45 #[.pointer (some ⟨T, 0, none⟩), .slice A0 ks.length c0] w (ForgetSays w base T b n now g ks) := by
  obtain ⟨c0_, c1_⟩ := h.c.cells
  have hmf := h.r.1
  obtain ⟨m, hmd⟩ : ∃ z, z = ks.length := ⟨_, rfl⟩
  rw [← hmd] at hK hk ⊢
  have hu83 := Tryz.underlying83
  have hu100 := Tryz.underlying100
  have HM := hide hmd
  have HT := hide h
  have HBW := hide hbw
  have HN := hide hn
  have HGL := hide hg
  have HNOW := hide hnow
  have HLE := hide hle
  have HK := hide hK
  have HKL := hide hk
  clear hmd h hbw hn hg hnow hle hK hk
  go_enter Tryz.func45, Tryz.ntmps45
  go_wp2_with (first
    | (at_range; refine range_w _ CS rfl _ 81 90 rfl Tryz.underlying81 b n F rfl hmf ?_; intro w0 cnt0 hrg0 hg0 hs0)
    | go_in)
  (try go_frame)
  have HR0 := hide hrg0
  have hB0 : Below w.heap.size w w0 := (Below.refl _ _).grown hg0 (by simp) (fun j hj => by cases hj)
  have B0 : Hid (Fm base [] [b] w w0) := Fm.of_below hB0 (unhide HBW)
  have HT0 := hide ((unhide HT).below hB0)
  clear hmf hrg0 hg0 hs0 c0_ c1_ hB0
  go_loopg [5] cnt0 (fun kq v5 wr => ∃ (vis : List ByteArray) (x : Int) (F' : ByteArray → Option Value) (g' : ByteArray → List St), v5 = .int .i64 x ∧ Hid (MG CS wr b w.heap.size n F' vis kq) ∧ Hid (Fm base [] [b] w wr) ∧ Hid (TreeAt wr base T b n now F' g') ∧ Hid (GoneTo g g' (now : Int) ks vis))
  case atStart => exact ⟨[], 0, F, g, rfl, unhide HR0, unhide B0, unhide HT0, fun q => ⟨fun h => by simp at h, fun _ => rfl⟩⟩
  case round =>
    obtain ⟨vis, x, F', g', rfl, HRG, HFM, HTR, HGO⟩ := hrel
    have hrg := unhide HRG
    have hvis := hrg.visited
    have HV := hide hvis
    clear hvis
    go_wp2_with (first
      | (at_next; refine next_s _ rfl _ rfl b w.heap.size n F' vis _ rfl hrg ?_ ?_)
      | go_in)
    · intro hdone
      have HD := hide hdone
      clear hdone hrg
      go_wp2
      go_ret
      refine ⟨⟨x, rfl⟩, unhide HFM, F', ?_⟩
      have e : g' = fun p => kept (now : Int) ks (g p) := by
        funext q
        by_cases hq : q ∈ vis
        · exact (unhide HGO q).1 hq
        · have h1 : g' q = [] := by
            cases hf : F' q with
            | none => exact (unhide HTR).r.2.1 q hf
            | some v => exact absurd (unhide HD q (by rw [hf]; rfl)) hq
          rw [h1]
          have h2 := (unhide HGO q).2 hq
          rw [h1] at h2
          rw [← h2]
          rfl
      have ht := unhide HTR
      rw [e] at ht
      exact ht
    · intro p v w1 cnt1 hok hnv hfp hrg1 hlt hg1 hen
      have hr1 := hrg.iter
      have hB1 : Fm base [] [b] w w1 := ⟨(unhide HFM).b.trans ⟨hg1.os, hg1.tape, hg1.output, hg1.size, fun k hk => hg1.block k (Nat.lt_of_lt_of_le hk (Nat.le_trans (unhide HBW) (unhide HFM).b.size)) (fun e => by
          have := unhide HBW
          have e2 := Option.some.inj e
          omega)⟩, fun k hk h1 h2 => (hg1.block k (Nat.lt_of_lt_of_le hk (unhide HFM).b.size) (fun e => by
          have e2 := Option.some.inj e
          omega)).trans ((unhide HFM).k k hk h1 h2)⟩
      have hT1 : TreeAt w1 base T b n now F' g' := by
        have hi := hrg.isIter
        have hne : ∀ k, (∃ o, wr.heap[k]? = some o ∧ ∀ s e c, o ≠ Obj.mapIter (some b) s e c) → w1.heap[k]? = wr.heap[k]? := fun k hk => by
          obtain ⟨o, ho, hno⟩ := hk
          refine hg1.block k (Array.getElem?_eq_some_iff.1 ho).1 (fun e => ?_)
          obtain ⟨s, e1, c, hi⟩ := hi
          rw [Option.some.inj e, hi] at ho
          exact hno s e1 c (Option.some.inj ho).symm
        have hT := unhide HTR
        obtain ⟨es, cl, hmb⟩ := hT.r.1.isMap
        exact ⟨(hne T ⟨_, hT.c, fun _ _ _ h => by cases h⟩).trans hT.c, hT.r.move (hne b ⟨_, hmb, fun _ _ _ h => by cases h⟩) (fun k _ _ hq => by
          obtain ⟨cells, q, _, hc⟩ := hq
          exact hne k ⟨_, hc, fun _ _ _ h => by cases h⟩), hT.hT, hT.hb⟩
      have hgp : g' p = g p := (unhide HGO p).2 hnv
      obtain ⟨hgne, hrow⟩ := hT1.r.2.2.1 p v hfp
      rw [hgp] at hgne hrow
      obtain ⟨A1, d1, rfl, _, _⟩ := hrow.slice
      obtain ⟨ss, hss⟩ : ∃ z, z = g p := ⟨_, rfl⟩
      rw [← hss] at hgne hrow hen
      rw [← hss]
      obtain ⟨L, hL⟩ : ∃ z, z = ss.length := ⟨_, rfl⟩
      rw [← hL] at hrow hen
      rw [← hL]
      have hLb : L ≤ 500 := by rw [hL, hss]; exact unhide HGL p
      have hles : ∀ s ∈ ss, s.frm ≤ now := by rw [hss]; exact unhide HLE p
      have hK1 : IR w1 kb (.slice A0 m c0) ks := (unhide HK).fm hB1 (by simp) (fun k hk => by rw [List.mem_singleton.1 hk]; exact (unhide HT).r.1.isMap)
      obtain ⟨t0, t1⟩ := hT1.c.cells
      have HRG1 := hide hrg1
      have HLT := hide hlt
      have HB1 := hide hB1
      have HT1 := hide hT1
      have HFP := hide hfp
      have HOK := hide hok
      have HSS := hide hss
      have HL := hide hL
      have HLB := hide hLb
      have HLES := hide hles
      have HGNE := hide hgne
      have HROW := hide hrow
      have HK1 := hide hK1
      clear hok hnv hfp hrg1 hlt hg1 hr1 hB1 hT1 hgp hgne hrow hss hL hLb hles hK1 hrg t1
      go_wp2_with fail
      clear hen
      obtain ⟨gk1, hgk1⟩ : ∃ z, z = gk := ⟨_, rfl⟩
      have HGK1 := hide hgk1
      clear hgk1
      obtain ⟨W1, rfl⟩ : ∃ z, z = w1 := ⟨_, rfl⟩
      go_loopg [5, 8, 27] L (fun kq v5 v8 v27 wq => ∃ (j : Nat) (x : Int) (A : Option Addr) (q c : Nat) (lft : List St), v5 = .int .i64 x ∧ v8 = .slice A q c ∧ v27 = .int .i64 (j : Int) ∧ Hid (j + kq = L) ∧ Hid (SR wq base (.slice A q c) lft) ∧ Hid (∀ g, (Value.slice A q c).ownBlock = some g → W1.heap.size ≤ g) ∧ Hid (lft ++ kept (now : Int) ks (ss.drop j) = kept (now : Int) ks ss) ∧ Hid (lft.length ≤ j) ∧ Hid (Below W1.heap.size W1 wq))
      case atStart => exact ⟨0, x, none, 0, 0, [], rfl, rfl, rfl, Nat.zero_add _, SR.nil _ _, (fun g hg => by cases hg), (by show [] ++ kept _ _ (ss.drop 0) = _; rw [List.drop_zero]; rfl), Nat.zero_le _, Below.refl _ _⟩
      case round =>
        obtain ⟨j, x, A, q, c, lft, rfl, rfl, rfl, HI, HS, HNEW, HKP, HLL, HB⟩ := hrel
        by_cases hlt : j < L
        · have d1 : (j : Int) < (L : Int) := by omega
          obtain ⟨s, hs⟩ : ∃ z, ss[j]? = some z := ⟨_, List.getElem?_eq_getElem (by rw [← unhide HL]; exact hlt)⟩
          have hrow := (unhide HROW).below (unhide HB)
          obtain ⟨ad, rfl, k0, k1, k2⟩ := hrow.at_ j s hs
          have hdr := hrow.2 s (List.mem_of_getElem? hs)
          obtain ⟨sf, sd, sm⟩ := s
          obtain ⟨dg, dc, rfl, _, _, _, _⟩ := DR.form hdr
          replace k0 : wr.cell? (ad.add (j * 3)) = some (.int .i64 (sf : Int)) := k0
          replace k1 : wr.cell? ⟨(ad.add (j * 3)).block, (ad.add (j * 3)).off + 1, none⟩ = some (.slice (some ⟨dg, 0, none⟩) 1 dc) := k1
          replace k2 : wr.cell? ⟨(ad.add (j * 3)).block, (ad.add (j * 3)).off + 2, none⟩ = some (.bool false) := k2
          have ha := below_alloc (Below.refl wr.heap.size wr) (.cells #[.int .i64 (sf : Int), .slice (some ⟨dg, 0, none⟩) 1 dc, .bool false] 100)
          have hb1 := below_step (unhide HB) ha
          have hnb := blk_new wr (.cells #[.int .i64 (sf : Int), .slice (some ⟨dg, 0, none⟩) 1 dc, .bool false] 100)
          have e0 : (wr.alloc (.cells #[.int .i64 (sf : Int), .slice (some ⟨dg, 0, none⟩) 1 dc, .bool false] 100)).cell? ⟨wr.heap.size, 0, none⟩ = some (.int .i64 (sf : Int)) := blk_cell hnb 0
          have e1 : (wr.alloc (.cells #[.int .i64 (sf : Int), .slice (some ⟨dg, 0, none⟩) 1 dc, .bool false] 100)).cell? ⟨wr.heap.size, 1, none⟩ = some (.slice (some ⟨dg, 0, none⟩) 1 dc) := blk_cell hnb 1
          have e2 : (wr.alloc (.cells #[.int .i64 (sf : Int), .slice (some ⟨dg, 0, none⟩) 1 dc, .bool false] 100)).cell? ⟨wr.heap.size, 2, none⟩ = some (.bool false) := blk_cell hnb 2
          have t0' := (hb1.cell (p := ⟨T, 0, none⟩) (unhide HT1).c.lt).trans t0
          have HS1 := hide ((unhide HS).below ha)
          have HD1 := hide (DR.below hdr ha)
          have HB1' := hide hb1
          have HS0 := hide hs
          have HLT2 := hide hlt
          have hw1 : wrap64 ((j : Int) + 1) = (j : Int) + 1 := by have := unhide HLB; unfold wrap64; omega
          have HSZ : Hid (wr.heap.size + 1 = (wr.alloc (.cells #[.int .i64 (sf : Int), .slice (some ⟨dg, 0, none⟩) 1 dc, .bool false] 100)).heap.size) := by show _ = _; rw [World.size_alloc]
          have HROW2 := hide (hrow.below ha)
          clear hs hlt ha hb1 hnb hdr
          cases hnx : ss[j + 1]? with
          | none =>
            have d2 : ¬ ((j : Int) + 1) < (L : Int) := by
              have := List.getElem?_eq_none_iff.1 hnx
              have := unhide HL
              omega
            have HNX := hide hnx
            clear hnx
            go_wp2_with fail
            have HW1 : Hid (wrap64 ((j : Int) + 1) = ((j + 1 : Nat) : Int)) := hw1
            clear hw1
            obtain ⟨W3, hW3⟩ : ∃ z, z = wr.alloc (.cells #[.int .i64 (sf : Int), .slice (some ⟨dg, 0, none⟩) 1 dc, .bool false] 100) := ⟨_, rfl⟩
            rw [← hW3] at e0 e1 e2 t0' HS1 HD1 HB1' HSZ ⊢
            obtain ⟨xb, hxb⟩ : ∃ z, z = wr.heap.size := ⟨_, rfl⟩
            rw [← hxb] at e0 e1 e2 HSZ ⊢
            clear hW3 hxb HROW2 k0 k1 k2 d2
            obtain ⟨gk2, hgk2⟩ : ∃ z, z = gk := ⟨_, rfl⟩
            have HGK2 := hide hgk2
            clear hgk2
            go_loopg [12, 56] m (fun kp v12 v56 wp => ∃ (k : Nat) (nd : Bool), v12 = .bool nd ∧ v56 = .int .i64 (k : Int) ∧ Hid (k + kp = m) ∧ wp = W3 ∧ Hid (nd = (((now : Int) == (now : Int)) || (ks.take k).any (inKeep ⟨sf, (some ⟨dg, 0, none⟩, 1, dc), sm⟩ (now : Int)))))
            case atStart => exact ⟨0, _, rfl, rfl, Nat.zero_add _, rfl, (by show _ = _; rw [List.take_zero]; simp)⟩
            case round =>
              obtain ⟨k, nd, rfl, rfl, HI3, rfl, HND⟩ := hrel
              by_cases hlt : k < m
              · have d3 : (k : Int) < (m : Int) := by omega
                obtain ⟨kv, hkv⟩ : ∃ z, ks[k]? = some z := ⟨_, List.getElem?_eq_getElem (by rw [← unhide HM]; exact hlt)⟩
                obtain ⟨ak, rfl, kk⟩ := IR.at_ ((unhide HK1).below (unhide HB1')) k kv hkv
                have HKV := hide hkv
                have HLT3 := hide hlt
                have HW3 : Hid (wrap64 ((k : Int) + 1) = ((k + 1 : Nat) : Int)) := by show _ = _; have := unhide HKL; unfold wrap64; omega
                have hnx3 : ∀ nd2 : Bool, nd2 = (nd || inKeep ⟨sf, (some ⟨dg, 0, none⟩, 1, dc), sm⟩ (now : Int) kv) → nd2 = (((now : Int) == (now : Int)) || (ks.take (k + 1)).any (inKeep ⟨sf, (some ⟨dg, 0, none⟩, 1, dc), sm⟩ (now : Int))) := by
                  intro nd2 h
                  rw [h, unhide HND, any_snoc (unhide HKV), Bool.or_assoc]
                have HNX3 := hide hnx3
                clear hlt hkv hnx3
                cases nd with
                | true =>
                  go_wp2_with fail
                  go_roundg (gk - 1)
                  case measure => have := unhide HI3; have := unhide HLT3; omega
                  case rel => exact ⟨k + 1, true, rfl, congrArg (Value.int .i64) (unhide HW3), (by have := unhide HI3; have := unhide HLT3; show _ = _; omega), rfl, unhide HNX3 true (by rfl)⟩
                | false =>
                  by_cases hf : (sf : Int) ≤ kv
                  · by_cases ht : kv ≤ (now : Int)
                    · have df := decide_eq_true hf
                      have dt := decide_eq_true ht
                      go_wp2_with fail
                      go_roundg (gk - 1)
                      case measure => have := unhide HI3; have := unhide HLT3; omega
                      case rel => exact ⟨k + 1, true, rfl, congrArg (Value.int .i64) (unhide HW3), (by have := unhide HI3; have := unhide HLT3; show _ = _; omega), rfl, unhide HNX3 true (by unfold inKeep; rw [decide_eq_true hf, decide_eq_true ht]; rfl)⟩
                    · have df := decide_eq_true hf
                      have dt := decide_eq_false ht
                      have HNV := hide (unhide HNX3 false (by unfold inKeep; rw [decide_eq_true hf, decide_eq_false ht]; rfl))
                      go_wp2_with fail
                      go_roundg (gk - 1)
                      case measure => have := unhide HI3; have := unhide HLT3; omega
                      case rel => exact ⟨k + 1, false, rfl, congrArg (Value.int .i64) (unhide HW3), (by have := unhide HI3; have := unhide HLT3; show _ = _; omega), rfl, unhide HNV⟩
                  · have df := decide_eq_false hf
                    have HNV := hide (unhide HNX3 false (by unfold inKeep; rw [decide_eq_false hf]; rfl))
                    go_wp2_with fail
                    go_roundg (gk - 1)
                    case measure => have := unhide HI3; have := unhide HLT3; omega
                    case rel => exact ⟨k + 1, false, rfl, congrArg (Value.int .i64) (unhide HW3), (by have := unhide HI3; have := unhide HLT3; show _ = _; omega), rfl, unhide HNV⟩
              · have d3 : ¬ (k : Int) < (m : Int) := by omega
                have hnd : nd = need1 (now : Int) ks ⟨sf, (some ⟨dg, 0, none⟩, 1, dc), sm⟩ ss[j + 1]? := by
                  rw [unhide HND, List.take_of_length_le (by rw [← unhide HM]; omega), unhide HNX]
                  unfold need1
                  rw [show upTo (now : Int) (none) = (now : Int) from rfl]
                  congr 1
                have hks := kept_step (now := (now : Int)) (ks := ks) (unhide HS0)
                rw [← hnd] at hks
                have HKS := hide hks
                clear hlt hnd hks HND
                cases nd with
                | false =>
                  go_wp2_with fail
                  go_roundg (gk2 - 1)
                  case measure => have := unhide HI; have := unhide HLT2; have := unhide HGK2; omega
                  case rel =>
                    refine ⟨j + 1, _, A, q, c, lft, rfl, rfl, congrArg (Value.int .i64) (unhide HW1), (by have := unhide HI; have := unhide HLT2; have := unhide HGK2; show _ = _; omega), unhide HS1, unhide HNEW, ?_, (by have := unhide HLL; show _ ≤ _; omega), unhide HB1'⟩
                    show _ = _
                    rw [← unhide HKP, unhide HKS]
                    rfl
                | true =>
                  obtain ⟨g5, c5, w5, hr5, hs5, hg5, hl5⟩ := (unhide HS1).append (by have := (unhide HB1').size; have := unhide HBW; have := (unhide HB1).b.size; omega) (by have := unhide HLL; have := unhide HLB; have := unhide HLT2; omega) ⟨sf, (some ⟨dg, 0, none⟩, 1, dc), sm⟩ (unhide HD1)
                  dsimp only [slv] at hr5
                  have hb5 := below_row (unhide HB1') (unhide HB1').size hg5 (fun k hk => unhide HNEW k hk)
                  have HNEW5 : Hid (∀ g, (Value.slice (some ⟨g5, 0, none⟩) (lft.length + 1) c5).ownBlock = some g → W1.heap.size ≤ g) := fun g hg => by
                    obtain rfl : g5 = g := Option.some.inj hg
                    rcases hl5 with h | h
                    · exact unhide HNEW _ h
                    · exact Nat.le_trans (unhide HB1').size h
                  have HR5 := hide hr5
                  have HS5 := hide hs5
                  have HB5 := hide hb5
                  clear hr5 hs5 hg5 hl5 hb5
                  go_wp2_with (at_builtin; refine unhide ?_)
                  refine hide ?_
                  refine wpList_app rfl (.tmp 74) (.tmp 76) rfl rfl rfl rfl (unhide HR5) ?_
                  go_wp2_with fail
                  go_roundg (gk2 - 1)
                  case measure => have := unhide HI; have := unhide HLT2; have := unhide HGK2; omega
                  case rel =>
                    refine ⟨j + 1, _, _, _, c5, lft ++ [(⟨sf, (some ⟨dg, 0, none⟩, 1, dc), sm⟩ : St)], rfl, rfl, congrArg (Value.int .i64) (unhide HW1), (by have := unhide HI; have := unhide HLT2; have := unhide HGK2; show _ = _; omega), unhide HS5, unhide HNEW5, ?_, (by have := unhide HLL; rw [List.length_append]; show _ + 1 ≤ _; omega), unhide HB5⟩
                    show _ = _
                    rw [← unhide HKP, unhide HKS, List.append_assoc]
                    rfl
          | some r =>
            have d2 : ((j : Int) + 1) < (L : Int) := by
              have := (List.getElem?_eq_some_iff.1 hnx).1
              have := unhide HL
              omega
            obtain ⟨ad2, e3, kr0, _, _⟩ := (unhide HROW2).at_ (j + 1) r hnx
            cases e3
            obtain ⟨hi, hhi⟩ : ∃ z : Int, z = (r.frm : Int) - 1 := ⟨_, rfl⟩
            have hw2 : wrap64 ((r.frm : Int) - 1) = hi := by
              have := unhide HLES r (List.mem_of_getElem? hnx)
              have := unhide HNOW
              rw [hhi]
              unfold wrap64
              omega
            have HHI := hide hhi
            have HNX := hide hnx
            clear hnx hhi
            go_wp2_with fail
            have HW1 : Hid (wrap64 ((j : Int) + 1) = ((j + 1 : Nat) : Int)) := hw1
            clear hw1
            obtain ⟨W3, hW3⟩ : ∃ z, z = wr.alloc (.cells #[.int .i64 (sf : Int), .slice (some ⟨dg, 0, none⟩) 1 dc, .bool false] 100) := ⟨_, rfl⟩
            rw [← hW3] at e0 e1 e2 t0' HS1 HD1 HB1' HSZ ⊢
            obtain ⟨xb, hxb⟩ : ∃ z, z = wr.heap.size := ⟨_, rfl⟩
            rw [← hxb] at e0 e1 e2 HSZ ⊢
            clear hW3 hxb HROW2 k0 k1 k2 d2 kr0 hw2
            obtain ⟨gk2, hgk2⟩ : ∃ z, z = gk := ⟨_, rfl⟩
            have HGK2 := hide hgk2
            clear hgk2
            go_loopg [12, 56] m (fun kp v12 v56 wp => ∃ (k : Nat) (nd : Bool), v12 = .bool nd ∧ v56 = .int .i64 (k : Int) ∧ Hid (k + kp = m) ∧ wp = W3 ∧ Hid (nd = ((hi == (now : Int)) || (ks.take k).any (inKeep ⟨sf, (some ⟨dg, 0, none⟩, 1, dc), sm⟩ hi))))
            case atStart => exact ⟨0, _, rfl, rfl, Nat.zero_add _, rfl, (by show _ = _; rw [List.take_zero]; simp)⟩
            case round =>
              obtain ⟨k, nd, rfl, rfl, HI3, rfl, HND⟩ := hrel
              by_cases hlt : k < m
              · have d3 : (k : Int) < (m : Int) := by omega
                obtain ⟨kv, hkv⟩ : ∃ z, ks[k]? = some z := ⟨_, List.getElem?_eq_getElem (by rw [← unhide HM]; exact hlt)⟩
                obtain ⟨ak, rfl, kk⟩ := IR.at_ ((unhide HK1).below (unhide HB1')) k kv hkv
                have HKV := hide hkv
                have HLT3 := hide hlt
                have HW3 : Hid (wrap64 ((k : Int) + 1) = ((k + 1 : Nat) : Int)) := by show _ = _; have := unhide HKL; unfold wrap64; omega
                have hnx3 : ∀ nd2 : Bool, nd2 = (nd || inKeep ⟨sf, (some ⟨dg, 0, none⟩, 1, dc), sm⟩ hi kv) → nd2 = ((hi == (now : Int)) || (ks.take (k + 1)).any (inKeep ⟨sf, (some ⟨dg, 0, none⟩, 1, dc), sm⟩ hi)) := by
                  intro nd2 h
                  rw [h, unhide HND, any_snoc (unhide HKV), Bool.or_assoc]
                have HNX3 := hide hnx3
                clear hlt hkv hnx3
                cases nd with
                | true =>
                  go_wp2_with fail
                  go_roundg (gk - 1)
                  case measure => have := unhide HI3; have := unhide HLT3; omega
                  case rel => exact ⟨k + 1, true, rfl, congrArg (Value.int .i64) (unhide HW3), (by have := unhide HI3; have := unhide HLT3; show _ = _; omega), rfl, unhide HNX3 true (by rfl)⟩
                | false =>
                  by_cases hf : (sf : Int) ≤ kv
                  · by_cases ht : kv ≤ hi
                    · have df := decide_eq_true hf
                      have dt := decide_eq_true ht
                      go_wp2_with fail
                      go_roundg (gk - 1)
                      case measure => have := unhide HI3; have := unhide HLT3; omega
                      case rel => exact ⟨k + 1, true, rfl, congrArg (Value.int .i64) (unhide HW3), (by have := unhide HI3; have := unhide HLT3; show _ = _; omega), rfl, unhide HNX3 true (by unfold inKeep; rw [decide_eq_true hf, decide_eq_true ht]; rfl)⟩
                    · have df := decide_eq_true hf
                      have dt := decide_eq_false ht
                      have HNV := hide (unhide HNX3 false (by unfold inKeep; rw [decide_eq_true hf, decide_eq_false ht]; rfl))
                      go_wp2_with fail
                      go_roundg (gk - 1)
                      case measure => have := unhide HI3; have := unhide HLT3; omega
                      case rel => exact ⟨k + 1, false, rfl, congrArg (Value.int .i64) (unhide HW3), (by have := unhide HI3; have := unhide HLT3; show _ = _; omega), rfl, unhide HNV⟩
                  · have df := decide_eq_false hf
                    have HNV := hide (unhide HNX3 false (by unfold inKeep; rw [decide_eq_false hf]; rfl))
                    go_wp2_with fail
                    go_roundg (gk - 1)
                    case measure => have := unhide HI3; have := unhide HLT3; omega
                    case rel => exact ⟨k + 1, false, rfl, congrArg (Value.int .i64) (unhide HW3), (by have := unhide HI3; have := unhide HLT3; show _ = _; omega), rfl, unhide HNV⟩
              · have d3 : ¬ (k : Int) < (m : Int) := by omega
                have hnd : nd = need1 (now : Int) ks ⟨sf, (some ⟨dg, 0, none⟩, 1, dc), sm⟩ ss[j + 1]? := by
                  rw [unhide HND, List.take_of_length_le (by rw [← unhide HM]; omega), unhide HNX]
                  unfold need1
                  rw [show upTo (now : Int) (some r) = hi from unhide HHI ▸ rfl]
                  congr 1
                have hks := kept_step (now := (now : Int)) (ks := ks) (unhide HS0)
                rw [← hnd] at hks
                have HKS := hide hks
                clear hlt hnd hks HND
                cases nd with
                | false =>
                  go_wp2_with fail
                  go_roundg (gk2 - 1)
                  case measure => have := unhide HI; have := unhide HLT2; have := unhide HGK2; omega
                  case rel =>
                    refine ⟨j + 1, _, A, q, c, lft, rfl, rfl, congrArg (Value.int .i64) (unhide HW1), (by have := unhide HI; have := unhide HLT2; have := unhide HGK2; show _ = _; omega), unhide HS1, unhide HNEW, ?_, (by have := unhide HLL; show _ ≤ _; omega), unhide HB1'⟩
                    show _ = _
                    rw [← unhide HKP, unhide HKS]
                    rfl
                | true =>
                  obtain ⟨g5, c5, w5, hr5, hs5, hg5, hl5⟩ := (unhide HS1).append (by have := (unhide HB1').size; have := unhide HBW; have := (unhide HB1).b.size; omega) (by have := unhide HLL; have := unhide HLB; have := unhide HLT2; omega) ⟨sf, (some ⟨dg, 0, none⟩, 1, dc), sm⟩ (unhide HD1)
                  dsimp only [slv] at hr5
                  have hb5 := below_row (unhide HB1') (unhide HB1').size hg5 (fun k hk => unhide HNEW k hk)
                  have HNEW5 : Hid (∀ g, (Value.slice (some ⟨g5, 0, none⟩) (lft.length + 1) c5).ownBlock = some g → W1.heap.size ≤ g) := fun g hg => by
                    obtain rfl : g5 = g := Option.some.inj hg
                    rcases hl5 with h | h
                    · exact unhide HNEW _ h
                    · exact Nat.le_trans (unhide HB1').size h
                  have HR5 := hide hr5
                  have HS5 := hide hs5
                  have HB5 := hide hb5
                  clear hr5 hs5 hg5 hl5 hb5
                  go_wp2_with (at_builtin; refine unhide ?_)
                  refine hide ?_
                  refine wpList_app rfl (.tmp 74) (.tmp 76) rfl rfl rfl rfl (unhide HR5) ?_
                  go_wp2_with fail
                  go_roundg (gk2 - 1)
                  case measure => have := unhide HI; have := unhide HLT2; have := unhide HGK2; omega
                  case rel =>
                    refine ⟨j + 1, _, _, _, c5, lft ++ [(⟨sf, (some ⟨dg, 0, none⟩, 1, dc), sm⟩ : St)], rfl, rfl, congrArg (Value.int .i64) (unhide HW1), (by have := unhide HI; have := unhide HLT2; have := unhide HGK2; show _ = _; omega), unhide HS5, unhide HNEW5, ?_, (by have := unhide HLL; rw [List.length_append]; show _ + 1 ≤ _; omega), unhide HB5⟩
                    show _ = _
                    rw [← unhide HKP, unhide HKS, List.append_assoc]
                    rfl
        · have d1 : ¬ (j : Int) < (L : Int) := by omega
          have hkp := unhide HKP
          rw [List.drop_eq_nil_of_le (by rw [← unhide HL]; omega), show kept (now : Int) ks [] = [] from rfl, List.append_nil] at hkp
          have hql : q = lft.length := by
            obtain ⟨_, _, e, _⟩ := (unhide HS).slice
            injection e
          have hne : lft ≠ [] := by rw [hkp]; exact kept_some _ _ (unhide HGNE)
          have hpos : 0 < q := by rw [hql]; exact List.length_pos_iff.2 hne
          obtain ⟨s0, hs0⟩ : ∃ z, lft[0]? = some z := ⟨_, List.getElem?_eq_getElem (List.length_pos_iff.2 hne)⟩
          obtain ⟨ad, rfl, k0, k1, k2⟩ := (unhide HS).at_ 0 s0 hs0
          obtain ⟨gl, hgl, _, _⟩ : ∃ gl, some ad = some (⟨gl, 0, none⟩ : Addr) ∧ base ≤ gl ∧ gl < wr.heap.size := by
            obtain ⟨A9, c9, e9, hA9, _⟩ := (unhide HS).slice
            cases e9
            exact hA9 (List.length_pos_iff.2 hne)
          obtain rfl := Option.some.inj hgl
          have HNG : Hid (W1.heap.size ≤ gl) := unhide HNEW gl own_some
          rw [Nat.zero_mul, add_plain] at k2
          have hx1 : 0 < (q : Int) := by omega
          have hx2 : ((q : Int) == 0) = false := by rw [beq_eq_false_iff_ne]; omega
          have ht := (unhide HT1).below (unhide HB)
          obtain ⟨t0', t1'⟩ := ht.c.cells
          obtain ⟨w3, hr3, hmg3, ht3⟩ := ((unhide HRG1).below (unhide HB)).put (t := 81) Tryz.underlying81 (by have := unhide HN; simp only [maxLen]; omega) (x := p) (by rw [unhide HFP]; rfl) (.slice (some ⟨gl, 0, none⟩) q c)
          replace hr3 : (Instr.mapUpdate 81 (.map (some b)) (.string p) (.slice (some ⟨gl, 0, none⟩) q c)).run Tryz.prog wr = .ok () w3 := hr3
          have HKPT := hide hkp
          have HNE := hide hne
          have HMG3 := hide hmg3
          have HT3 := hide ht3
          have HTW := hide ht
          clear hkp hql hne hpos hs0 hgl k0 k1 hlt hmg3 ht3 ht t0
          go_wp2_with fail
          obtain ⟨W2, rfl⟩ : ∃ z, z = wr := ⟨_, rfl⟩
          obtain ⟨Xq, hXq⟩ : ∃ z, z = x := ⟨_, rfl⟩
          have HXQ := hide hXq
          clear hXq
          go_loopg [5, 8] 1 (fun kq v5 v8 wq => wq = W2 ∧ v5 = .int .i64 x ∧ v8 = .slice (some ⟨gl, 0, none⟩) q c)
          case atStart => exact ⟨rfl, rfl, rfl⟩
          case round =>
            obtain ⟨rfl, rfl, rfl⟩ := hrel
            go_wp2_with fail
            go_roundg cnt1
            case measure => exact unhide HLT
            case rel =>
              refine ⟨vis ++ [p], _, _, _, rfl, unhide HMG3, ?_, ?_, (unhide HGO).step p⟩
              · have hb := unhide HB
                have hgr := (unhide HT3).grown
                exact (((unhide HB1).trans (Fm.of_below hb (Nat.le_trans (unhide HBW) (unhide HB1).b.size))).trans (Fm.grown hgr (Nat.le_trans (unhide HBW) (Nat.le_trans (unhide HB1).b.size hb.size)) (fun k hk => by
                  cases hk
                  exact ⟨(unhide HTR).hb, .inl (by simp)⟩)))
              · have hS := unhide HS
                rw [unhide HKPT] at hS
                rw [unhide HSS] at hS
                have hne2 := unhide HNE
                rw [unhide HKPT, unhide HSS] at hne2
                exact (unhide HTW).change (p := p) (row := none) ⟨rfl, rfl, rfl, Nat.le_refl _, fun _ _ _ => rfl⟩ (fun k hk => by cases hk) (show p.size ≤ maxLen from unhide HOK) hne2 hS (fun q2 u hne3 hq2 e => by
                  have h1 := ((unhide HT1).r.2.2.1 q2 u hq2).2.lt gl e
                  have h2 := unhide HNG
                  omega) (unhide HT3).grown (unhide HMG3).owns
end Go.Proofs.YtgoephcembgmcaaGreatDoor.G
namespace Go.Proofs
open Go.RowKit Go.Maps Go.Sort Go.Shelf
theorem Tryz.sortsA (m : Nat) : AnyZI.SortsIn Tryz.prog Tryz.sortedA_ren Fence.wide m :=
  ⟨fun blk off cap ss W hH hblk hsz => callsIn_wide.2 (AnyM.slices_Sort_int Tryz.sortA blk off cap ss W hH hblk hsz),
   fun p cap W => callsIn_wide.2 (AnyM.slices_Sort_int_none Tryz.sortA p cap W)⟩
end Go.Proofs
namespace Go.Proofs.YtgoephcembgmcaaGreatDoor.G
open Go.RowKit Go.Maps Go.Sort Go.Shelf Go.MapKept Go.Proofs.YtgoephcembgmcaaGreatDoorW.PrintWords Go.Proofs.YtgoephcembgmcaaGreatDoorW.PrintLast
open Go.WideElems (Fit rd rg pl rd_key rd_val rg_of other_key)
/-! The store: its pins; Store.Pinned. -/
/-- How often each version is looked at, as a map. -/
def pinF (P : Int → Nat) : Int → Option Value := fun v => if P v = 0 then none else some (.int .i64 (P v : Int))
theorem pinF_some {P : Int → Nat} {v : Int} : (pinF P v).isSome = true ↔ P v ≠ 0 := by unfold pinF; split <;> simp [*]
theorem pinF_get (P : Int → Nat) (v : Int) : (pinF P v).getD (.int .i64 0) = .int .i64 (P v : Int) := by
  unfold pinF
  split
  · rename_i h; rw [h]; rfl
  · rfl
def updP (P : Int → Nat) (v : Int) (n : Nat) : Int → Nat := fun x => if x = v then n else P x
theorem updP_same (P : Int → Nat) (v : Int) (n : Nat) : updP P v n v = n := by unfold updP; rw [if_pos rfl]
theorem updP_other {P : Int → Nat} {v x : Int} {n : Nat} (h : x ≠ v) : updP P v n x = P x := by unfold updP; rw [if_neg h]
theorem pinF_put (P : Int → Nat) (v : Int) (n : Nat) (hn : n ≠ 0) : upd (pinF P) v (some (.int .i64 (n : Int))) = pinF (updP P v n) := by
  funext x
  by_cases e : x = v
  · subst e
    rw [upd_same]
    unfold pinF
    rw [updP_same, if_neg hn]
  · rw [upd_other e]
    unfold pinF
    rw [updP_other e]
theorem pinF_del (P : Int → Nat) (v : Int) : upd (pinF P) v none = pinF (updP P v 0) := by
  funext x
  by_cases e : x = v
  · subst e
    rw [upd_same]
    unfold pinF
    rw [updP_same, if_pos rfl]
  · rw [upd_other e]
    unfold pinF
    rw [updP_other e]
theorem keys_perm_int {w : World} {b n : Nat} {D : DV} {F : Int → Option Value} (h : w.ownsMap Tryz.prog 3 Rh b n D) (hf : Rep CI D F) : ∃ ks, Keys F ks ∧ ks.Perm (intKeys D) := by
  obtain ⟨ks, h1, _⟩ := MF.keys' (C := CI) h hf
  refine ⟨ks, h1, ?_⟩
  obtain ⟨es, rfl, hp, _⟩ := h.entries CI.law
  have hk : ∀ p ∈ es, ∃ x, CI.ok x ∧ p.1 = .int .i64 x := by
    obtain ⟨es2, clock, _, Ft, _, e⟩ := h
    injection e with e
    subst e
    intro p hp
    obtain ⟨v, hv⟩ := fit_keys Ft p (mem_sorted.1 hp)
    obtain ⟨x, hx, _, hl⟩ := CI.inv _ _ hv
    exact ⟨x, hx, hl⟩
  refine perm_intKeys hp (fun p hp => (hk p hp).imp fun _ h => h.2) h1.1 (fun x => ?_)
  rw [h1.2]
  constructor
  · intro hs
    obtain ⟨v, hv⟩ := Option.isSome_iff_exists.1 hs
    rw [← hf.has (hf.ok hv)] at hs
    exact hs
  · intro hs
    rw [has_eq, List.any_eq_true] at hs
    obtain ⟨p, hp2, he⟩ := hs
    obtain ⟨y, hy, hye⟩ := hk p hp2
    have e2 := WideAt.sameKey_eq he
    rw [hye] at e2
    have e3 : y = x := CI.inj _ _ e2
    rw [← e3, ← hf.has hy, has_eq, List.any_eq_true]
    exact ⟨p, hp2, by rw [e3]; exact he⟩
/-- A Store's cells. -/
def SC (w : World) (S T pb : Nat) (all : Int) : Prop := w.heap[S]? = some (.cells #[.pointer (some ⟨T, 0, none⟩), .map (some pb), .int .i64 all] 54 (0, 0))
theorem SC.cells {w : World} {S T pb : Nat} {all : Int} (h : SC w S T pb all) : w.cell? ⟨S, 0, none⟩ = some (.pointer (some ⟨T, 0, none⟩)) ∧ w.cell? ⟨S, 1, none⟩ = some (.map (some pb)) ∧ w.cell? ⟨S, 2, none⟩ = some (.int .i64 all) := ⟨blk_cell h 0, blk_cell h 1, blk_cell h 2⟩
theorem SC.lt {w : World} {S T pb : Nat} {all : Int} (h : SC w S T pb all) : S < w.heap.size := (Array.getElem?_eq_some_iff.1 h).1
set_option maxHeartbeats 2000000 in
theorem pinned_ok (S T pb np : Nat) (all : Int) (P : Int → Nat) (w : World) (hs : SC w S T pb all) (hm : MF CI w pb np (pinF P)) (hn : np ≤ 1000) :
    Calls Tryz.prog 46 #[.pointer (some ⟨S, 0, none⟩)] w fun e w' => ∃ v ks, e = .returned v ∧ IR w' w.heap.size v ks ∧ (∀ x, x ∈ ks ↔ P x ≠ 0) ∧ ks.length ≤ np ∧ Below w.heap.size w w' := by
  refine (callsIn_wide (n := 6)).1 ?_
  obtain ⟨c0, c1, c2⟩ := hs.cells
  have hu54 := Tryz.underlying54
  obtain ⟨ks0, hks0, hksn⟩ := hm.keys
  obtain ⟨D0, hown, hrep⟩ := hm
  replace hown : w.ownsMap Tryz.prog 3 Rh pb np D0 := hown
  obtain ⟨ks1, hks1, hkp⟩ := keys_perm_int hown hrep
  have hmax := hown.size_le
  have hbl := hown.lt
  have hseq : SeqGives Fence.wide 2 Tryz.prog 73 #[.pointer (some ⟨w.heap.size, 0, none⟩)] encZ (fun ss => ss.Perm (intKeys D0)) (Maps.size D0) (w.alloc (.cells #[.map (some pb)] 52)) :=
    AnyZI.keys_gives (ρ := Tryz.keysA_ren) { Tryz.keysA with } Fence.wide _ trivial rfl (by omega) w.heap.size pb np D0 _ (by simp) (by simp) (by
      obtain ⟨es, clock, hb, Ft, hs, hD⟩ := hown
      exact ⟨es, clock, (Below.heap_alloc _ _ pb hbl).trans hb, Ft, hs, hD⟩)
  have cK : ∀ mb W, CallsIn Fence.wide 5 Tryz.prog 55 #[.map mb] W fun e w' => e = .returned (.func (.func 73) #[] #[.pointer (some ⟨W.heap.size, 0, none⟩)]) ∧ w' = W.alloc (.cells #[.map mb] 52) := fun mb W => AnyZI.keys_in Tryz.keysA Fence.wide 5 trivial rfl mb W
  have cS := AnyZI.sorted_in Tryz.sortedA Fence.wide 5 trivial trivial trivial trivial rfl (by omega) (Tryz.sortsA _) (enters_of Tryz.func72 (by kernel_rfl) rfl) 73 #[.pointer (some ⟨w.heap.size, 0, none⟩)] trivial (enters_of Tryz.func73 (by kernel_rfl) rfl) _ _ (show Maps.size D0 ≤ maxLen by simp only [maxLen]; omega) (by omega) _ hseq
  change CallsIn _ _ Tryz.prog 54 _ _ _ at cS
  have hfK : Fence.wide.fn 55 := trivial
  have hfS : Fence.wide.fn 54 := trivial
  have HKS := hide hks0
  have HKS1 := hide hks1
  have HKP := hide hkp
  have HKN := hide hksn
  have CS_ := hide cS
  have CK_ := hide cK
  clear hks0 hks1 hkp hksn hown hrep hmax hbl hseq hs cS cK hn
  refine callsIn_of_wp Tryz.func46 rfl trivial ?_ rfl
  simp only [Tryz.ntmps46, List.size_toArray, List.length_cons, List.length_nil, Nat.reduceAdd, Nat.reduceSub, Array.replicate_succ, Array.replicate_zero, List.push_toArray, List.append_toArray, List.nil_append, List.cons_append]
  gi_wp2_with (first
    | (gi_at_call 55; refine (unhide CK_ _ _).mono ?_; rintro e w' ⟨rfl, rfl⟩)
    | (gi_at_call 54; refine (unhide CS_).mono ?_; rintro e w' ⟨v, ss, rfl, hS, hrow, hnil, hb⟩))
  go_ret
  have hB : Below w.heap.size w _ := ((Below.refl _ w).alloc (Nat.le_refl _) (.cells #[.map (some pb)] 52)).trans (hb.mono (by simp))
  have hp : (ss.mergeSort (fun x y => decide (x ≤ y))).Perm ks0 := ((List.mergeSort_perm ss _).trans hS).trans ((unhide HKP).symm.trans ((unhide HKS1).perm (unhide HKS)))
  refine ⟨v, ss.mergeSort (fun x y => decide (x ≤ y)), rfl, ?_, fun x => ?_, ?_, hB⟩
  · unfold IR
    rw [List.length_mergeSort]
    exact World.ownsRow.mono hrow (by simp)
  · rw [hp.mem_iff, (unhide HKS).2, pinF_some]
  · rw [hp.length_eq]
    exact unhide HKN
end Go.Proofs.YtgoephcembgmcaaGreatDoor.G
namespace Go.Proofs.YtgoephcembgmcaaGreatDoor.G
open Go.RowKit Go.Maps Go.Proofs.YtgoephcembgmcaaGreatDoorW.PrintWords Go.Proofs.YtgoephcembgmcaaGreatDoorW.PrintLast
/-! The store: there, List, Read, tidy, Commit. -/
structure ViewAt (w : World) (base S T b pb n np now all : Nat) (F : ByteArray → Option Value) (g : ByteArray → List St) (P : Int → Nat) : Prop where
  s : SC w S T pb (all : Int)
  t : TreeAt w base T b n now F g
  p : MF CI w pb np (pinF P)
  hS : base ≤ S
  hp : base ≤ pb
  ne : pb ≠ b
theorem TreeAt.fm {w w1 : World} {base T b n now base' : Nat} {F : ByteArray → Option Value} {g : ByteArray → List St} {ts : List TypeId} {ms : List Nat} (h : TreeAt w base T b n now F g) (hf : Fm base' ts ms w w1) (h1 : 83 ∉ ts) (h2 : 100 ∉ ts) (h3 : 5 ∉ ts) (hm : ∀ k ∈ ms, k ≠ b ∧ ∃ es c, w.heap[k]? = some (.map es c)) : TreeAt w1 base T b n now F g := by
  obtain ⟨es, cl, hmb⟩ := h.r.1.isMap
  have hno : ∀ k cells t fz, w.heap[k]? = some (.cells cells t fz) → k ∉ ms := fun k cells t fz hc hin => by
    obtain ⟨_, _, _, hmm⟩ := hm k hin
    rw [hc] at hmm
    cases hmm
  refine ⟨(hf.k T h.c.lt (hno T _ _ _ h.c) (fun c t fz hc => by have := h.c; unfold TC at this; rw [this] at hc; cases hc; exact h1)).trans h.c, h.r.move (hf.k b h.r.1.lt (fun hin => (hm b hin).1 rfl) (fun c t fz hc => by rw [hmb] at hc; cases hc)) (fun k _ hlt hq => ?_), h.hT, h.hb⟩
  obtain ⟨cells, q, hq, hc2⟩ := hq
  refine hf.k k hlt (hno k _ _ _ hc2) (fun c t fz hc => ?_)
  rw [hc2] at hc
  cases hc
  rcases hq with rfl | rfl
  · exact h2
  · exact h3
section
variable {w w1 : World} {base S T b pb n np now all : Nat} {F : ByteArray → Option Value} {g : ByteArray → List St} {P : Int → Nat}
theorem ViewAt.below (h : ViewAt w base S T b pb n np now all F g P) (hb : Below w.heap.size w w1) : ViewAt w1 base S T b pb n np now all F g P :=
  ⟨(hb.block S h.s.lt).trans h.s, h.t.below hb, h.p.below hb, h.hS, h.hp, h.ne⟩
theorem ViewAt.fm {base' : Nat} {ts : List TypeId} {ms : List Nat} (h : ViewAt w base S T b pb n np now all F g P) (hf : Fm base' ts ms w w1) (h0 : 54 ∉ ts) (h1 : 83 ∉ ts) (h2 : 100 ∉ ts) (h3 : 5 ∉ ts) (hm : ∀ k ∈ ms, k ≠ b ∧ k ≠ pb ∧ ∃ es c, w.heap[k]? = some (.map es c)) : ViewAt w1 base S T b pb n np now all F g P := by
  obtain ⟨es, cl, hmp⟩ := h.p.isMap
  refine ⟨(hf.k S h.s.lt (fun hin => ?_) (fun c t fz hc => ?_)).trans h.s, h.t.fm hf h1 h2 h3 (fun k hk => ⟨(hm k hk).1, (hm k hk).2.2⟩), h.p.kept (hf.k pb h.p.lt (fun hin => (hm pb hin).2.1 rfl) (fun c t fz hc => by rw [hmp] at hc; cases hc)), h.hS, h.hp, h.ne⟩
  · obtain ⟨_, _, _, _, hmm⟩ := hm S hin
    have := h.s
    unfold SC at this
    rw [this] at hmm
    cases hmm
  · have := h.s
    unfold SC at this
    rw [this] at hc
    cases hc
    exact h0
theorem ViewAt.pin (h : ViewAt w base S T b pb n np now all F g P) (v : Int) (hv : -9223372036854775808 ≤ v ∧ v ≤ 9223372036854775807) : (Instr.lookup 52 (.map (some pb)) (.int .i64 v) false).run Tryz.prog w = .ok (.int .i64 (P v : Int)) w := by
  have h1 := h.p.look (t := 52) (e := 3) (z := .int .i64 0) Tryz.underlying52 (by kernel_rfl) (x := v) (WalkArith.wf_i64 (by omega))
  rw [pinF_get] at h1
  exact h1
end
set_option maxRecDepth 100000 in
theorem there_ok (base S T b pb n np now all : Nat) (F : ByteArray → Option Value) (g : ByteArray → List St) (P : Int → Nat) (v : Int) (w : World) (h : ViewAt w base S T b pb n np now all F g P) (hnow : now ≤ 1000) (h0 : 0 ≤ v) (h1 : v ≤ (now : Int)) (h2 : v = (now : Int) ∨ P v ≠ 0) :
    Calls Tryz.prog 47 #[.pointer (some ⟨S, 0, none⟩), .int .i64 v] w fun e w' => e = .returned (.int .i64 0) ∧ w' = w := by
  obtain ⟨c0, c1, c2⟩ := h.s.cells
  have hlk := h.pin v (by omega)
  have hno := now_ok base T b n now F g w h.t
  have hu54 := Tryz.underlying54
  have d0 : ¬ v < 0 := by omega
  have d1 : ¬ (now : Int) < v := by omega
  have HNO := hide hno
  by_cases hv : v < (now : Int)
  · have hp : ((P v : Int) == 0) = false := by
      rw [beq_eq_false_iff_ne]
      rcases h2 with h2 | h2
      · omega
      · omega
    clear h h0 h1 h2 hno
    go_enter Tryz.func47, Tryz.ntmps47
    go_wp2_with fail
    refine (unhide HNO).mono ?_
    rintro e w1 ⟨rfl, rfl⟩
    go_wp2_with fail
    refine (unhide HNO).mono ?_
    rintro e w1 ⟨rfl, rfl⟩
    go_wp2_with fail
    go_ret
    exact ⟨rfl, rfl⟩
  · clear h h0 h1 h2 hno
    go_enter Tryz.func47, Tryz.ntmps47
    go_wp2_with fail
    refine (unhide HNO).mono ?_
    rintro e w1 ⟨rfl, rfl⟩
    go_wp2_with fail
    refine (unhide HNO).mono ?_
    rintro e w1 ⟨rfl, rfl⟩
    go_wp2_with fail
    go_ret
    exact ⟨rfl, rfl⟩
set_option maxHeartbeats 1000000 in
set_option maxRecDepth 100000 in
theorem vlist_ok (base S T b pb n np now all : Nat) (F : ByteArray → Option Value) (g : ByteArray → List St) (P : Int → Nat) (v : Int) (w : World) (h : ViewAt w base S T b pb n np now all F g P) (hnow : now ≤ 1000) (h0 : 0 ≤ v) (h1 : v ≤ (now : Int)) (h2 : v = (now : Int) ∨ P v ≠ 0) (hn : n ≤ 1000) (hg : ∀ p, (g p).length ≤ 1000) (hne : ∀ p, g p ≠ [] → p.toList.isEmpty = false) :
    Calls Tryz.prog 30 #[.pointer (some ⟨S, 0, none⟩), .int .i64 v, .string ⟨#[]⟩] w (ListSays w g v) := by
  have hth := there_ok base S T b pb n np now all F g P v w h hnow h0 h1 h2
  have hli := list_ok base T b n now F g v w h.t hn hg hne h0 h1
  obtain ⟨c0, c1, c2⟩ := h.s.cells
  have hu54 := Tryz.underlying54
  have HTH := hide hth
  have HLI := hide hli
  clear h hnow h0 h1 h2 hn hg hne hth hli
  go_enter Tryz.func30, Tryz.ntmps30
  go_wp2_with fail
  refine (unhide HTH).mono ?_
  rintro e w1 ⟨rfl, rfl⟩
  go_wp2_with fail
  refine (unhide HLI).mono ?_
  rintro e w1 ⟨⟨lv, ls, rfl, hx⟩, hb⟩
  have HX := hide hx
  have HB := hide hb
  clear hx hb
  go_wp2_with fail
  go_ret2
  exact ⟨⟨lv, ls, rfl, unhide HX⟩, unhide HB⟩
set_option maxHeartbeats 1000000 in
set_option maxRecDepth 100000 in
theorem vread_ok (base S T b pb n np now all : Nat) (F : ByteArray → Option Value) (g : ByteArray → List St) (P : Int → Nat) (v : Int) (p : ByteArray) (s : St) (w : World) (h : ViewAt w base S T b pb n np now all F g P) (hnow : now ≤ 1000) (h0 : 0 ≤ v) (h1 : v ≤ (now : Int)) (h2 : v = (now : Int) ∨ P v ≠ 0) (hp : p.size ≤ maxLen) (hl : (g p).length ≤ 1000) (hs : lastAt (g p) v = some s) :
    Calls Tryz.prog 31 #[.pointer (some ⟨S, 0, none⟩), .int .i64 v, .string p] w fun e w' => (∃ d1, e = .returned (.tuple #[slv d1, .int .i64 0]) ∧ DR w' w.heap.size d1 s.mrk) ∧ Below w.heap.size w w' := by
  have hth := there_ok base S T b pb n np now all F g P v w h hnow h0 h1 h2
  have hli := read_ok base T b n now F g v p s w h.t hp hl h0 h1 hs
  obtain ⟨c0, c1, c2⟩ := h.s.cells
  have hu54 := Tryz.underlying54
  have HTH := hide hth
  have HLI := hide hli
  clear h hnow h0 h1 h2 hp hl hs hth hli
  go_enter Tryz.func31, Tryz.ntmps31
  go_wp2_with fail
  refine (unhide HTH).mono ?_
  rintro e w1 ⟨rfl, rfl⟩
  go_wp2_with fail
  refine (unhide HLI).mono ?_
  rintro e w1 ⟨⟨d1, rfl, hx⟩, hb⟩
  have HX := hide hx
  have HB := hide hb
  clear hx hb
  go_wp2_with fail
  go_ret2
  exact ⟨⟨d1, rfl, unhide HX⟩, unhide HB⟩
def TidySays (w : World) (base S T b pb n np now all : Nat) (g : ByteArray → List St) (P : Int → Nat) (e : Ending) (w' : World) : Prop :=
  e = .returned (.tuple #[]) ∧ Fm base [] [b] w w' ∧ ∃ F' ks, (∀ x, x ∈ ks ↔ P x ≠ 0) ∧ ViewAt w' base S T b pb n np now all F' (fun p => kept (now : Int) ks (g p)) P
def T29_0 : Bool × List (List Nat × List Nat) := (true, [([], []), ([0], [0]), ([1], [1]), ([2], [2]), ([], []), ([4], [4]), ([3, 5, 5], [3, 5])])
def BT29_0 : List Nat := [0, 1, 3, 7, 0, 16, 63]
theorem tabT29_0 : rtab .any (opsOf Tryz.f29 0) = T29_0 := by kernel_rfl
theorem bitsT29_0 : waitsOk T29_0.2 BT29_0 = true := by kernel_rfl
set_option maxHeartbeats 2000000 in
set_option maxRecDepth 100000 in
theorem tidy_ok (base S T b pb n np now all : Nat) (F : ByteArray → Option Value) (g : ByteArray → List St) (P : Int → Nat) (w : World) (h : ViewAt w base S T b pb n np now all F g P) (hbw : base ≤ w.heap.size) (hn : n ≤ 1000) (hnp : np ≤ 1000) (hg : ∀ p, (g p).length ≤ 500) (hnow : now ≤ 500) (hle : ∀ p, ∀ s ∈ g p, s.frm ≤ now) :
    Calls Tryz.prog 29 #[.pointer (some ⟨S, 0, none⟩)] w (TidySays w base S T b pb n np now all g P) := by
  have hpi := pinned_ok S T pb np (all : Int) P w.drew (h.below (below_drew (Below.refl _ _))).s (h.below (below_drew (Below.refl _ _))).p hnp
  have hu54 := Tryz.underlying54
  have HPI := hide hpi
  have HV := hide h
  have HBW := hide hbw
  have HN := hide hn
  have HNP := hide hnp
  have HGL := hide hg
  have HNOW := hide hnow
  have HLE := hide hle
  clear h hbw hn hnp hg hnow hle hpi
  go_enter Tryz.func29, Tryz.ntmps29
  refine start_ (n := 7) (S := fun w' => w'.cell? ⟨S, 0, none⟩ = some (.pointer (some ⟨T, 0, none⟩))) (ds := []) #[false, false, false, false, false, false, false] (by kernel_rfl) rfl rfl ((unhide HV).below (below_drew (Below.refl _ _))).s.cells.1 (fun hHeld => ?_)
  refine with_tabW tabT29_0 bitsT29_0 (fun HT_ HW_ => ?_)
  refine pure_ (i := 0) (N := some 2) (v := ?_) (a' := ?_) #[true, false, false, false, false, false, false] rfl rfl (any_of HT_.out (by kernel_rfl)) (fun _ _ _ h => h) (Or.inl ⟨by rfl, ?_⟩) ?_ ?_
  rotate_left
  · intro w'
    go_simp
    with_reducible rfl
  rotate_left
  · simp only [Act.put, List.setIfInBounds_toArray, List.set_cons_zero, List.set_cons_succ, i64_w, i32_w]
    rfl
  refine pure_ (i := 1) (N := some 3) (v := ?_) (a' := ?_) #[true, true, false, false, false, false, false] rfl rfl (any_of HT_.out (by kernel_rfl)) (fun _ _ _ h => h) (Or.inl ⟨by rfl, ?_⟩) ?_ ?_
  rotate_left
  · intro w'
    go_simp
    with_reducible rfl
  rotate_left
  · simp only [Act.put, List.setIfInBounds_toArray, List.set_cons_zero, List.set_cons_succ, i64_w, i32_w]
    rfl
  refine pure_ (i := 2) (N := some 4) (v := ?_) (a' := ?_) #[true, true, true, false, false, false, false] rfl rfl (any_of HT_.out (by kernel_rfl)) (fun _ _ _ h => h) (Or.inl ⟨by rfl, ?_⟩) ?_ ?_
  rotate_left
  · intro w'
    go_simp
    with_reducible rfl
  rotate_left
  · simp only [Act.put, List.setIfInBounds_toArray, List.set_cons_zero, List.set_cons_succ, i64_w, i32_w]
    rfl
  refine take_ (i := 3) (N := some 5) (v := ?_) (a' := ?_) #[true, true, true, true, false, false, false] rfl rfl (take_ofW HT_.out HW_.out (by kernel_rfl)) (fun _ _ _ h => h) (Or.inl ⟨by rfl, ?_⟩) hHeld ?_ ?_
  rotate_left
  · rintro w' h1_
    go_simp
    with_reducible rfl
  rotate_left
  · simp only [Act.put, List.setIfInBounds_toArray, List.set_cons_zero, List.set_cons_succ, i64_w, i32_w]
    rfl
  refine pure_ (i := 4) (N := some 6) (v := ?_) (a' := ?_) #[true, true, true, true, true, false, false] rfl rfl (any_of HT_.out (by kernel_rfl)) (fun _ _ _ h => h) (Or.inl ⟨by rfl, ?_⟩) ?_ ?_
  rotate_left
  · intro w'
    go_simp
    with_reducible rfl
  rotate_left
  · simp only [Act.put, List.setIfInBounds_toArray, List.set_cons_zero, List.set_cons_succ, i64_w, i32_w]
    rfl
  refine one_ (i := 5) (N := some 7) #[true, true, true, true, true, true, false] rfl rfl (one_of HT_.out (by kernel_rfl)) (by decide) (fun K hK => ?_)
  refine goes_ Tryz.func46 (by kernel_rfl) rfl #[.pointer (some ⟨S, 0, none⟩)] (by rfl) rfl rfl (by (try simp only [List.map_toArray, List.map_cons, List.map_nil]); first | done | rfl) ?_
  refine (unhide HPI).mono ?_
  rintro e w5 ⟨v5, k5, rfl, hi5, hk5, hn5, hb5⟩
  refine ⟨_, rfl, ?_⟩
  have hb5 : Below w.heap.size w w5 := below_step (below_drew (Below.refl w.heap.size w)) hb5
  have hv5 := (unhide HV).below hb5
  obtain ⟨A5, c5, rfl, _⟩ := hi5.slice
  have HFO := hide (forget_ok base T b n now w.drew.heap.size F g k5 A5 c5 w5 hv5.t (Nat.le_trans (unhide HBW) hb5.size) (unhide HN) (unhide HGL) (unhide HNOW) (unhide HLE) hi5 (by have := unhide HNP; omega))
  have HS5 := hide hv5.s.cells.1
  have HV5 := hide hv5
  have HB5 := hide hb5
  have HKS := hide hk5
  obtain ⟨m5, hm5⟩ : ∃ z, z = k5.length := ⟨_, rfl⟩
  rw [← hm5] at HFO
  rw [← hm5]
  clear hb5 hv5 hi5 hk5 hn5 hm5
  clear hHeld
  refine hK.out _ _ (unhide HS5) (fun hHeld => ?_)
  clear hK K
  refine norm_ (a' := ?_) ?_ ?_
  rotate_left
  · show Act.put _ (some 7) _ = _
    simp only [Act.put, List.setIfInBounds_toArray, List.set_cons_zero, List.set_cons_succ, i64_w, i32_w]
    rfl
  refine one_ (i := 6) (N := some 8) #[true, true, true, true, true, true, true] rfl rfl (one_of HT_.out (by kernel_rfl)) (by decide) (fun K hK => ?_)
  refine goes_ Tryz.func45 (by kernel_rfl) rfl #[.pointer (some ⟨T, 0, none⟩), .slice A5 m5 c5] (by rfl) rfl rfl (by (try simp only [List.map_toArray, List.map_cons, List.map_nil]); first | done | rfl) ?_
  refine (unhide HFO).mono ?_
  rintro e w7 ⟨⟨x7, rfl⟩, hf7, F7, ht7⟩
  refine ⟨_, rfl, ?_⟩
  have hv5 := unhide HV5
  have HVW : Hid (ViewAt w7 base S T b pb n np now all F7 (fun p => kept (now : Int) k5 (g p)) P) := by
    obtain ⟨es, cl, hmp⟩ := hv5.p.isMap
    obtain ⟨es2, cl2, hmb⟩ := hv5.t.r.1.isMap
    refine ⟨(hf7.k S hv5.s.lt (fun hin => ?_) (fun c t fz hc => by simp)).trans hv5.s, ht7, hv5.p.kept (hf7.k pb hv5.p.lt (fun hin => hv5.ne (List.mem_singleton.1 hin)) (fun c t fz hc => by simp)), hv5.hS, hv5.hp, hv5.ne⟩
    have hs := hv5.s
    unfold SC at hs
    rw [List.mem_singleton.1 hin, hmb] at hs
    cases hs
  have HFM : Hid (Fm base [] [b] w w7) := (Fm.of_below (unhide HB5) (unhide HBW)).trans hf7
  have HS7 := hide (unhide HVW).s.cells.1
  clear hv5 hf7 ht7
  clear hHeld
  refine hK.out _ _ (unhide HS7) (fun hHeld => ?_)
  clear hK K
  refine norm_ (a' := ?_) ?_ ?_
  rotate_left
  · show Act.put _ (some 8) _ = _
    simp only [Act.put, List.setIfInBounds_toArray, List.set_cons_zero, List.set_cons_succ, i64_w, i32_w]
    rfl
  refine done_ (done_of HT_.out (by kernel_rfl)) ?_
  clear HT_ HW_ hHeld
  go_wp2_with fail
  go_end0
  exact ⟨rfl, unhide HFM, F7, k5, unhide HKS, unhide HVW⟩
set_option maxHeartbeats 2000000 in
set_option maxRecDepth 100000 in
theorem vcommit_ok (base S T b pb n np now all : Nat) (F : ByteArray → Option Value) (g : ByteArray → List St) (P : Int → Nat) (cs : List Ch) (A0 : Option Addr) (c0 : Nat) (mk : Int) (w : World) (hG : Glob w) (h : ViewAt w base S T b pb n np now all F g P) (hbw : base ≤ w.heap.size) (hn : n ≤ 500) (hnp : np ≤ 500) (hg : ∀ p, (g p).length ≤ 400) (hwf : WF g now) (hnow : now ≤ 400)
    (hC : HR_ w base (.slice A0 cs.length c0) cs) (hm : cs.length ≤ 400) (hps : ∀ c ∈ cs, c.pth.size ≤ 10000) (hmk : ∀ c ∈ cs, c.mrk = mk) (hcan : ∀ ls, Lists g (now : Int) ls → CanL (cs.map (·.pth)) ls) :
    Calls Tryz.prog 12 #[.pointer (some ⟨S, 0, none⟩), .slice A0 cs.length c0] w fun e w' => e = .returned (.tuple #[.int .i64 ((now + 1 : Nat) : Int), .nilIface]) ∧ Fm base [83, 100] [b] w w' ∧ ∃ F' g' ks, (∀ x, x ∈ ks ↔ P x ≠ 0) ∧ Pushed g g' (now + 1) mk (cs.map (·.pth)) ∧ ViewAt w' base S T b pb (n + cs.length) np (now + 1) all F' (fun p => kept ((now + 1 : Nat) : Int) ks (g' p)) P := by
  have hco := tcommit_ok base T b n now F g cs A0 c0 mk w hG h.t hbw (by omega) (fun p => Nat.le_trans (hg p) (by decide)) hwf (by omega) hC (by omega) hps hmk hcan
  obtain ⟨e0, e1, e2⟩ := h.s.cells
  have hu54 := Tryz.underlying54
  have hle : ∀ p, ∀ s ∈ g p, s.frm ≤ now := hwf.le
  have HCO := hide hco
  have HV := hide h
  have HBW := hide hbw
  have HN := hide hn
  have HNP := hide hnp
  have HGL := hide hg
  have HNOW := hide hnow
  have HLE := hide hle
  have HM := hide hm
  clear hG h hbw hn hnp hg hwf hnow hC hm hps hmk hcan hco hle
  go_enter Tryz.func12, Tryz.ntmps12
  go_wp2_with fail
  refine (unhide HCO).mono ?_
  rintro e w1 ⟨rfl, hf1, F1, g1, ht1, hpu⟩
  have hsz := hf1.b.size
  have hv := unhide HV
  have hmb : ∀ k ∈ [b], ∃ es c, w.heap[k]? = some (.map es c) := fun k hk => by rw [List.mem_singleton.1 hk]; exact hv.t.r.1.isMap
  have hnb : ∀ k o, w.heap[k]? = some o → (∀ es c, o ≠ Obj.map es c) → k ∉ [b] := fun k o ho hno hin => by
    obtain ⟨es, c, hc⟩ := hmb k hin
    rw [ho] at hc
    exact hno es c (Option.some.inj hc)
  have hv1 : ViewAt w1 base S T b pb (n + cs.length) np (now + 1) all F1 g1 P := by
    obtain ⟨es, cl, hmp⟩ := hv.p.isMap
    rw [List.length_map] at ht1
    refine ⟨(hf1.k S hv.s.lt (hnb S _ hv.s (fun _ _ h => by cases h)) (fun c t fz hc => ?_)).trans hv.s, ht1, hv.p.kept (hf1.k pb hv.p.lt (fun hin => hv.ne (List.mem_singleton.1 hin)) (fun c t fz hc => by rw [hmp] at hc; cases hc)), hv.hS, hv.hp, hv.ne⟩
    have := hv.s
    unfold SC at this
    rw [this] at hc
    cases hc
    decide
  have hti := tidy_ok base S T b pb (n + cs.length) np (now + 1) all F1 g1 P w1 hv1 (Nat.le_trans (unhide HBW) hsz) (by have := unhide HN; have := unhide HM; omega) (by have := unhide HNP; omega) (fun p => by
    by_cases hp : p ∈ cs.map (·.pth)
    · obtain ⟨d, e⟩ := hpu.2 p hp
      rw [e, List.length_append]
      have := unhide HGL p
      show _ + 1 ≤ _
      omega
    · rw [hpu.1 p hp]
      have := unhide HGL p
      omega) (by have := unhide HNOW; omega) (fun p s hs => by
    by_cases hp : p ∈ cs.map (·.pth)
    · obtain ⟨d, e⟩ := hpu.2 p hp
      rw [e] at hs
      rcases List.mem_append.1 hs with hs | hs
      · exact Nat.le_succ_of_le (unhide HLE p s hs)
      · rw [List.mem_singleton.1 hs]
        exact Nat.le_refl _
    · rw [hpu.1 p hp] at hs
      exact Nat.le_succ_of_le (unhide HLE p s hs))
  have HTI := hide hti
  have HF1 := hide hf1
  have HPU := hide hpu
  clear hf1 ht1 hpu hsz hv hmb hnb hv1 hti
  go_wp2_with fail
  refine (unhide HTI).mono ?_
  rintro e w2 ⟨rfl, hf2, F2, ks, hks, hv2⟩
  have HF2 := hide hf2
  have HKS := hide hks
  have HV2 := hide hv2
  clear hf2 hks hv2
  go_wp2_with fail
  go_ret2
  exact ⟨rfl, (unhide HF1).trans ((unhide HF2).more (by simp) (by simp)), F2, g1, ks, unhide HKS, unhide HPU, unhide HV2⟩
end Go.Proofs.YtgoephcembgmcaaGreatDoor.G
