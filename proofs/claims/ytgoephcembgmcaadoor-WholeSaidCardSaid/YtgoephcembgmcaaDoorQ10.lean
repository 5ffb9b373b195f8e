import Derived.Test.YtgoephcembgmcaaDoorQ09
set_option linter.unusedSimpArgs false
set_option linter.unusedVariables false
namespace Go.Proofs.YtgoephcembgmcaaDoor.Wd
open Go.RowKit Go.Proofs.YtgoephcembgmcaaDoorW.PrintWords Go.Proofs.YtgoephcembgmcaaDoorW.PrintLast Wk FrM Fr Bl Tk Sh Rg
open WkM (w64 Bytes)
/-- Names as bytes. -/
def nsB (ns : List ByteArray) : List Int := ns.flatMap fun s => vnum s.size ++ bytesOf s
theorem own_tight {w : World} {base : Nat} {u : Value} {ys : List Int} (h : Own w base u ys) : (Kd.int .u8).R 5 w base (fun k => some k = u.ownBlock) u ys := Kd.R_tight rfl h
theorem own5_51 : ∀ q, q ∈ 5 :: (Kd.int .u8).E → q ≠ 51 := by
  intro q hq
  simp [Kd.int, Kd.scalar] at hq
  omega
theorem row_rng {w : World} {p o : Nat} {ys : List Int} (h : w.rangeAt p o (ys.map (Value.int .u8))) (hl : ys.length ≤ 9223372036854775807) : Kd.C (Kd.int .u8) w (some ⟨p, o, none⟩) ys.length ys := by
  refine ⟨rfl, hl, fun _ => ⟨_, rfl, fun j x hj => ⟨[.int .u8 x], rfl, rfl, fun i u hu => ?_⟩⟩⟩
  have hs1 : (Kd.int .u8).sz = 1 := rfl
  rw [hs1, Nat.mul_one]
  have hi : i = 0 := by
    rcases i with _ | i
    · rfl
    · simp at hu
  subst hi
  simp only [List.getElem?_cons_zero, Option.some.injEq] at hu
  subst hu
  rw [Addr.add_mid, Nat.add_zero]
  exact h j _ (by rw [List.getElem?_map, hj]; rfl)
theorem nsB_succ {ns : List ByteArray} {i : Nat} {s : ByteArray} (h : ns[i]? = some s) : nsB (ns.take (i + 1)) = nsB (ns.take i) ++ vnum s.size ++ bytesOf s := by
  unfold nsB
  rw [List.take_add_one, h, List.flatMap_append, List.append_assoc]
  simp
theorem nsB_len (ns : List ByteArray) (h : ∀ x ∈ ns, x.size ≤ 200) (i : Nat) : (nsB (ns.take i)).length ≤ 210 * i := by
  have key : ∀ (l : List ByteArray), (∀ x ∈ l, x.size ≤ 200) → (nsB l).length ≤ 210 * l.length := by
    intro l
    induction l with
    | nil => intro _; simp [nsB]
    | cons a t ih =>
      intro hl
      have h1 := ih (fun x hx => hl x (List.mem_cons_of_mem _ hx))
      have h2 := hl a List.mem_cons_self
      have h3 := vnum_len 5 a.size (by omega)
      unfold nsB at h1 ⊢
      rw [List.flatMap_cons, List.length_append, List.length_append, bytesOf_length, List.length_cons]
      omega
  have h1 := key (ns.take i) (fun x hx => h x (List.mem_of_mem_take hx))
  rw [List.length_take] at h1
  omega
/-- A row in a block that stays. -/
theorem C_blk {w w1 : World} {g n : Nat} {ys : List Int} (h : Kd.C (Kd.int .u8) w (some ⟨g, 0, none⟩) n ys) (hb : w1.heap[g]? = w.heap[g]?) : Kd.C (Kd.int .u8) w1 (some ⟨g, 0, none⟩) n ys := by
  refine ⟨h.1, h.2.1, fun hn => ?_⟩
  obtain ⟨ad, e, hc⟩ := h.2.2 hn
  injection e with e
  subst e
  refine ⟨_, rfl, fun j p hj => ?_⟩
  obtain ⟨c, hl, hR, hcell⟩ := hc j p hj
  refine ⟨c, hl, hR, fun i u hu => ?_⟩
  have h1 := hcell i u hu
  rw [Addr.add_mid] at h1 ⊢
  unfold World.cell? at h1 ⊢
  simp only [hb]
  exact h1
attribute [local go_sem] max2_int min2_int max_two min_two
set_option maxRecDepth 100000 in
theorem text_ok2 (base : Nat) (v : Value) (xs : List Int) (A : Option Addr) (c : Nat) (ys : List Int) (w : World) (ho : Own w base v xs) (hr : ∀ w' v', Below base w w' → Grew w w' v v' → Kd.C (Kd.int .u8) w' A ys.length ys) (hbase : base ≤ w.heap.size) (hc : ys.length ≤ c) (hl : ys.length ≤ 4096) (hx : xs.length ≤ 90000) :
    Calls Tryd.prog 54 #[v, .slice A ys.length c] w fun e w' => ∃ A' c', e = .returned (.slice A' (xs ++ vnum ys.length ++ ys).length c') ∧ Own w' base (.slice A' (xs ++ vnum ys.length ++ ys).length c') (xs ++ vnum ys.length ++ ys) ∧ Below base w w' ∧ Grew w w' v (.slice A' (xs ++ vnum ys.length ++ ys).length c') := by
  obtain ⟨k1, _, _⟩ := take_any A c ys ys.length hc (Nat.le_refl _)
  rw [List.take_length] at k1
  have d1 : ¬ (4096 : Int) < (ys.length : Int) := by omega
  obtain ⟨A0, c0, rfl⟩ := Kd.R_slice ho
  have HO := hide ho
  have HR := hide hr
  have hvl := vnum_len 5 ys.length (by omega)
  have HVL := hide hvl
  clear ho hr hvl
  go_enter Tryd.func54, Tryd.ntmps54
  go_wp2_with fail
  refine (num_ok base (.slice A0 xs.length c0) xs ys.length w (unhide HO) hbase (by omega) (by omega)).mono ?_
  rintro e w1 ⟨A1, c1, rfl, hO1, hB1, hG1⟩
  have HC1 := hide (unhide HR w1 _ hB1 hG1)
  have hlz : (xs ++ vnum ys.length).length ≤ 90006 := by rw [List.length_append]; have := unhide HVL; omega
  obtain ⟨zs, hz⟩ : ∃ zs, xs ++ vnum ys.length = zs := ⟨_, rfl⟩
  rw [hz] at hO1 hlz hG1 ⊢
  have HZ := hide hz
  clear hz
  have HO1 := hide hO1
  have HB1 := hide hB1
  have HG1 := hide hG1
  clear hO1 hB1 hG1 k1
  go_wp2_with (at_builtin; refine unhide ?_)
  refine hide ?_
  refine Kd.R_append_row (w0 := w) (Value.int .u8) (0 : Int) base rfl (.tmp 13) (.tmp 14) 22 5 (.int .u8 0) 1 rfl Tryd.underlying22 info5 rfl (by decide) (.slice A1 zs.length c1) zs ys A _ c (fun _ => True) rfl rfl (fun _ _ => trivial) (unhide HO1) (unhide HC1) (unhide HB1) (Nat.le_trans hbase (unhide HB1).size) (by omega) ?_
  intro v2 w2 hR2 hB2 hg2 hat2
  obtain ⟨A2, c2, rfl⟩ := Kd.R_slice hR2
  have hlen : (zs ++ ys).length = zs.length + ys.length := List.length_append
  have HR2 := hide hR2
  have HB2 := hide hB2
  have HG2 := hide ((unhide HG1).trans (Grew.of hg2 hat2))
  have HLEN := hide hlen
  clear hR2 hB2 hg2 hat2 hlen
  go_wp2
  go_ret
  rw [unhide HZ]
  exact ⟨A2, c2, by rw [unhide HLEN]; rfl, unhide HR2, unhide HB2, unhide HG2⟩
theorem text_ok_m (base : Nat) (v : Value) (xs : List Int) (N : Nat) (A : Option Addr) (c : Nat) (ys : List Int) (w : World) (hN : N = ys.length) (ho : Own w base v xs) (hr : ∀ w' v', Below base w w' → Grew w w' v v' → Kd.C (Kd.int .u8) w' A ys.length ys) (hbase : base ≤ w.heap.size) (hc : ys.length ≤ c) (hl : ys.length ≤ 4096) (hx : xs.length ≤ 90000) :
    Calls Tryd.prog 54 #[v, .slice A N c] w fun e w' => ∃ A' c', e = .returned (.slice A' (xs ++ vnum ys.length ++ ys).length c') ∧ Own w' base (.slice A' (xs ++ vnum ys.length ++ ys).length c') (xs ++ vnum ys.length ++ ys) ∧ Below base w w' ∧ Grew w w' v (.slice A' (xs ++ vnum ys.length ++ ys).length c') := by
  subst hN
  exact text_ok2 base v xs A c ys w ho hr hbase hc hl hx
/-- A row made later, over what grew an elder one. -/
theorem R_keepG {w w1 : World} {base : Nat} {v v1 u : Value} {ys : List Int} (h : Own w base u ys) (hG : Grew w w1 v v1) (hv : ∀ k, v.ownBlock = some k → k < base) : Own w1 base u ys :=
  Kd.R_mono (Kd.R_step (Kd.R_bound h) (fun k hk hlt => hG.2.1 k hlt (fun he => by have := hv k he.symm; have := hk.2.1; omega))) (fun _ _ => trivial)
theorem R_keepH {w w1 wD : World} {base : Nat} {v u : Value} {ys : List Int} (h : Own w base u ys) (hg : w.grownBy w1 v.ownBlock) (hD : Own wD base u ys) (hv : ∀ k, v.ownBlock = some k → k < base ∨ wD.heap.size ≤ k) : Own w1 base u ys := by
  refine Kd.R_mono (Kd.R_step (Kd.R_mono (own_tight h) (fun _ hk => hk)) (fun k hk hlt => hg.block k hlt (fun he => ?_))) (fun _ _ => trivial)
  have h1 := Kd.R_lt hD k hk.symm
  have h2 := Kd.R_base hD k hk.symm
  have := hv k he.symm
  omega
end Go.Proofs.YtgoephcembgmcaaDoor.Wd
namespace Go.Proofs.YtgoephcembgmcaaDoor.Fr
open Go.RowKit Go.Proofs.YtgoephcembgmcaaDoorW.PrintWords Go.Proofs.YtgoephcembgmcaaDoorW.PrintLast Wk FrM Rg
open WkM (w64)
open Er
/-- What holds at the head of Add's loop: j frames are done. -/
def AddRel (js : List (Nat × List Int)) (rest : List Int) (g base : Nat) (w wr : World) (v5 : Value) (j : Nat) : Prop :=
  (∃ A n c r, Fd wr g (.slice A n c) r ∧ Own wr base (.slice A n c) (encs1 (js.drop j) ++ rest)) ∧ frK.R 51 wr base (fun _ => True) v5 ((js.take j).map frv) ∧ Below base w wr
theorem frK_47 : ∀ q, q ∈ 51 :: frK.E → q ≠ 47 := by
  intro q hq
  simp [frK, Kd.pair, Kd.slice, Kd.int, Kd.scalar] at hq
  omega
theorem encs1_drop (js : List (Nat × List Int)) (j : Nat) : (encs1 (js.drop j)).length ≤ (encs1 js).length := by
  induction js generalizing j with
  | nil => simp
  | cons x l ih =>
    cases j with
    | zero => simp
    | succ j => rw [List.drop_succ_cons]; have := ih j; simp only [encs1, List.length_append]; omega
set_option maxHeartbeats 4000000 in
set_option maxRecDepth 100000 in
theorem add_ok (g base : Nat) (A : Option Addr) (n c : Nat) (hs C : List Int) (A0 : Option Addr) (n0 c0 : Nat) (r : Int) (js : List (Nat × List Int)) (rest : List Int) (w : World) (hf : Fd w g (.slice A0 n0 c0) r) (ho : Own w base (.slice A0 n0 c0) hs)
    (hr : Kd.C (Kd.int .u8) w A n C) (hcat : hs ++ C = encs1 js ++ rest) (hj : ∀ j ∈ js, FrOk j) (hrest : Begin rest) (hn : (hs ++ C).length ≤ 100000) (hjl : js.length ≤ 1000) (hbase : base ≤ g) (hnc : n ≤ c) :
    Calls Tryd.prog 8 #[.pointer (some ⟨g, 0, none⟩), .slice A n c] w fun e w' => ∃ A1 c1, e = .returned (.slice A1 js.length c1) ∧ frK.R 51 w' base (fun _ => True) (.slice A1 js.length c1) (js.map frv) ∧ (∃ A2 n2 c2 r2, Fd w' g (.slice A2 n2 c2) r2 ∧ Own w' base (.slice A2 n2 c2) rest) ∧ Below base w w' := by
  obtain ⟨⟨f0, f1, f2⟩, ⟨f3, f4, f5⟩, f6⟩ := hf.cells
  have h0 : n = C.length := hr.1.symm
  subst h0
  have hbw : base ≤ w.heap.size := Nat.le_trans hbase (Nat.le_of_lt f6)
  have HF := hide hf
  have HO := hide ho
  have HR := hide hr
  have HCAT := hide hcat
  have HJ := hide hj
  have HREST := hide hrest
  have HN := hide hn
  clear hf ho hr hcat hj hrest hn
  go_enter Tryd.func8, Tryd.ntmps8
  go_wp2_with (at_builtin; refine unhide ?_)
  refine hide ?_
  refine Kd.R_append_row (w0 := w) (Value.int .u8) (0 : Int) base rfl (.tmp 18) (.tmp 19) 22 5 (.int .u8 0) 1 rfl Tryd.underlying22 info5 rfl (by decide) (.slice A0 n0 c0) hs C A C.length c (fun _ => True) rfl rfl (fun _ _ => trivial) (unhide HO) (unhide HR) (Below.refl _ _) hbw (by have := unhide HN; rw [List.length_append] at this; omega) ?_
  intro v3 w3 hR3 hB3 hg3 hat3
  have F3 : Fd w3 g (.slice A0 n0 c0) r := blk_grown (unhide HF) hg3 (Kd.R_ne (unhide HO) (unhide HF) (by decide))
  obtain ⟨A3, c3, rfl⟩ := Kd.R_slice hR3
  obtain ⟨z, hz⟩ : ∃ z, z = hs ++ C := ⟨_, rfl⟩
  rw [← hz] at hR3 HCAT HN ⊢
  have HF3 := hide F3
  have R3 := hide hR3
  have B3 := hide hB3
  clear hR3 hB3 hg3 hat3 f0 f1 f2 f3 f4 f5 f6 HF HO HR F3 hz
  obtain ⟨⟨f0, f1, f2⟩, ⟨f3, f4, f5⟩, f6⟩ := (unhide HF3).cells
  go_wp2
  clear f0 f1 f2 f3 f4 f5 f6
  go_loopg [5] (js.length + 1) (fun kq v5 wr => ∃ (j : Nat), Hid (j + kq = js.length + 1 ∧ j ≤ js.length) ∧ Hid (AddRel js rest g base w wr v5 j))
  case atStart =>
    refine ⟨0, ⟨Nat.zero_add _, Nat.zero_le _⟩, ⟨A3, z.length, c3, r, blk_put (unhide HF3) 0 _ rfl, ?_⟩, ?_, (unhide B3).setCell hbase _⟩
    · rw [List.drop_zero, ← unhide HCAT]
      exact (unhide HF3).own (unhide R3) 0 _
    · exact Kd.R_nil _ _ _ _ _
  case round =>
    obtain ⟨j, HJ1, HREL⟩ := hrel
    obtain ⟨⟨A4, n4, c4, r4, hF4, hO4⟩, hQ4, hB4⟩ := unhide HREL
    obtain ⟨Ao, co, hv5⟩ := Kd.R_slice hQ4
    have htl : ((js.take j).map frv).length = j := by have := (unhide HJ1).2; rw [List.length_map, List.length_take]; omega
    rw [htl] at hv5
    subst hv5
    clear htl
    have hj1 := unhide HJ1
    have h4 := Kd.R_reads' hO4
    have F4 := hide hF4
    have O4 := hide hO4
    have Q4 := hide hQ4
    have B4 := hide hB4
    clear HREL HF3 R3 B3
    by_cases hlt : j < js.length
    · obtain ⟨⟨k, ys⟩, hky⟩ : ∃ p, p = js[j] := ⟨_, rfl⟩
      have hdr : js.drop j = (k, ys) :: js.drop (j + 1) := by rw [List.drop_eq_getElem_cons hlt, hky]
      have htk : (js.take (j + 1)).map frv = (js.take j).map frv ++ [frv (k, ys)] := by rw [List.take_succ_eq_append_getElem hlt, List.map_append, hky]; rfl
      have hfo := unhide HJ (k, ys) (by rw [hky]; exact List.getElem_mem hlt)
      have hlen := encs1_drop js j
      have hzl : (encs1 js).length + rest.length ≤ 100000 := by have := unhide HN; rw [unhide HCAT, List.length_append] at this; exact this
      obtain ⟨T, hT⟩ : ∃ T, T = encs1 (js.drop (j + 1)) ++ rest := ⟨_, rfl⟩
      obtain ⟨L, hL⟩ : ∃ L, L = encs1 (js.drop j) ++ rest := ⟨_, rfl⟩
      have hLL : L = ((8 * k : Nat) : Int) :: (vnum ys.length ++ (ys ++ T)) := by rw [hL, hdr, hT]; simp [encs1, enc1]
      have hll : L.length ≤ 100000 := by rw [hL, List.length_append]; omega
      rw [← hL] at h4 O4
      have hn4 : n4 = L.length := h4.1
      subst hn4
      have h4c := h4.2.2
      have hp : 0 < L.length := by rw [hLL, List.length_cons]; omega
      obtain ⟨ad, rfl, _⟩ := Kd.at_int h4c 0 (by omega) (by omega)
      obtain ⟨m, hm⟩ : ∃ m, m = 1 + (vnum ys.length).length + ys.length := ⟨_, rfl⟩
      have hdT : L.drop m = T := by
        rw [hLL, hm, show 1 + (vnum ys.length).length + ys.length = ((vnum ys.length).length + ys.length) + 1 by omega, List.drop_succ_cons, ← List.append_assoc, List.drop_left' (by rw [List.length_append])]
      have hmL : m ≤ L.length := by rw [hLL, hm]; simp; omega
      obtain ⟨A8, hcut, hcr, hcl⟩ := from_any (some ad) c4 L m h4.2.1 hmL
      rw [hdT] at hcut hcr hcl
      have HM := hide hm
      have HCUT := hide hcut
      have HCR := hide hcr
      have HLL := hide hLL
      have HFO := hide hfo
      have HTK := hide htk
      have HTT := hide hT
      have HTL : Hid (T.length ≤ 100000) := by rw [← hdT, List.length_drop]; show _ ≤ _; omega
      have HLC := hide h4.2.1
      have HC4 := hide h4c
      have HLX := hide hll
      have HJLT : Hid (j < js.length) := hlt
      clear hm hky hdr htk hfo hlen hzl hT hL hLL hll hp hdT hmL hcut hcr hcl h4 h4c hlt
      obtain ⟨⟨f0, f1, f2⟩, ⟨f3, f4, f5⟩, f6⟩ := (unhide F4).cells
      go_wp2_with fail
      refine (fread_ok ad L.length c4 k L ys T _ (unhide HC4) (unhide HLL) ⟨(unhide HFO).1, (unhide HFO).2.1⟩ (by have := unhide HLX; omega) (unhide HFO).2.2 (unhide HLC)).mono ?_
      rintro e w5 ⟨A1, c1, rfl, hO5, hB5⟩
      rw [← unhide HM]
      have F5 := hide (blk_below (unhide F4) hB5)
      have O5 := hide (Kd.R_below (unhide O4) hB5)
      have Q5 := hide (Kd.R_below (unhide Q4) hB5)
      have D5 := hide (Kd.R_lower (Kd.R_new hO5 (Kd.R_own (unhide Q4)).choose_spec) (Nat.le_trans hbw (unhide B4).size))
      have B5 := hide ((unhide B4).trans (hB5.mono (Nat.le_trans hbw (unhide B4).size)))
      clear hO5 hB5 F4 O4 Q4 B4 f0 f1 f2 f3 f4 f5 f6
      go_wp2_with fail
      refine (is_nil 30 _).mono ?_
      intro e w' hh; rw [hh.1, hh.2]; clear hh
      have F6 : Hid (Fd (w5.alloc (.cells #[.int .i64 (k : Int), .int .i64 0, .slice A1 ys.length c1] 51)) g (.slice (some ad) L.length c4) r4) := blk_alloc (unhide F5) _
      have O6 := hide (Kd.R_alloc (unhide O5) (.cells #[.int .i64 (k : Int), .int .i64 0, .slice A1 ys.length c1] 51))
      have Q6 := hide (Kd.R_alloc (unhide Q5) (.cells #[.int .i64 (k : Int), .int .i64 0, .slice A1 ys.length c1] 51))
      have D6 := hide (Kd.R_alloc (unhide D5) (.cells #[.int .i64 (k : Int), .int .i64 0, .slice A1 ys.length c1] 51))
      have B6 := hide ((unhide B5).alloc (Nat.le_trans hbw (unhide B5).size) (.cells #[.int .i64 (k : Int), .int .i64 0, .slice A1 ys.length c1] 51))
      have X6 : Hid (Frm (w5.alloc (.cells #[.int .i64 (k : Int), .int .i64 0, .slice A1 ys.length c1] 51)) w5.heap.size (k : Int) 0 (.slice A1 ys.length c1)) := blk_new _ _
      clear F5 O5 Q5 D5 B5
      generalize hg5 : w5.heap.size = g5 at X6 ⊢
      generalize w5.alloc (.cells #[.int .i64 (k : Int), .int .i64 0, .slice A1 ys.length c1] 51) = w6 at F6 O6 Q6 D6 B6 X6 ⊢
      clear hg5
      obtain ⟨⟨x0, x1, x2⟩, ⟨x3, x4, x5⟩, x6⟩ := (unhide X6).cells
      go_wp2_with (at_builtin; refine unhide ?_)
      refine hide ?_
      refine Kd.R_append frK (w0 := w) base rfl (.tmp 59) (.tmp 61) 48 51 (.agg #[.int .i64 0, .int .i64 0, .slice none 0 0]) 40 rfl Tryd.underlying48 info51 rfl (by decide) (by decide) (.slice Ao j co) ((js.take j).map frv) (frv (k, ys)) [.int .i64 (k : Int), .int .i64 0, .slice A1 ys.length c1] (fun _ => True) (fun q => True ∧ some q ≠ (Value.slice Ao j co).ownBlock) rfl rfl (frK_M (unhide D6)) (fun q h => h) (fun _ _ => trivial) (unhide Q6) (unhide B6) (Nat.le_trans hbw (unhide B6).size) (by rw [List.length_map, List.length_take]; omega) ?_
      intro v7 w7 hR7 hB7 hg7 hat7
      rw [← unhide HTK] at hR7
      have htl : ((js.take (j + 1)).map frv).length = j + 1 := by have := unhide HJLT; have := (unhide HJ1).2; rw [List.length_map, List.length_take]; omega
      obtain ⟨A7, c7, hv7⟩ := Kd.R_slice hR7
      rw [htl] at hv7
      subst hv7
      have F7 : Hid (Fd w7 g (.slice (some ad) L.length c4) r4) := blk_grown (unhide F6) hg7 (Kd.R_ne (unhide Q6) (unhide F6) (by decide))
      have O7 : Hid (Own w7 base (.slice (some ad) L.length c4) L) := Kd.R_mono (Kd.R_grown (Kd.R_apartR (unhide O6) (unhide Q6) (fun q hq => by simp [Kd.int, Kd.scalar] at hq; omega)) hg7 (fun q h => h.2)) (fun _ _ => trivial)
      have Q7 := hide hR7
      have B7 := hide hB7
      clear hR7 hB7 hg7 hat7 x0 x1 x2 x3 x4 x5 x6 F6 O6 Q6 D6 B6 X6 htl
      obtain ⟨⟨f0, f1, f2⟩, ⟨f3, f4, f5⟩, f6⟩ := (unhide F7).cells
      have hcut := unhide HCUT
      go_wp2_with (at_builtin; refine unhide ?_)
      refine hide ?_
      have E8 : Hid (Own (w7.alloc (.cells #[] 5)) base (.slice (some ⟨w7.heap.size, 0, none⟩) 0 0) []) := own_empty w7 base (Nat.le_trans hbw (unhide B7).size)
      have F8 : Hid (Fd (w7.alloc (.cells #[] 5)) g (.slice (some ad) L.length c4) r4) := blk_alloc (unhide F7) _
      have C8 : Hid (Kd.C (Kd.int .u8) (w7.alloc (.cells #[] 5)) A8 T.length T) := unhide HCR _ (Kd.C_alloc (Kd.R_reads' (unhide O7)).2.2 _)
      have Q8 := hide (Kd.R_bound (unhide Q7))
      have N8 : Hid (g < w7.heap.size) := f6
      have B8 := hide ((unhide B7).alloc (Nat.le_trans hbw (unhide B7).size) (.cells #[] 5))
      have Q9 := hide (Kd.R_mono (Kd.R_alloc (unhide Q8) (.cells #[] 5)) (ok' := fun q => True ∧ q < w7.heap.size) (fun q h => ⟨trivial, h.2.2.1⟩))
      generalize hg7 : w7.heap.size = g7 at E8 Q9 N8 ⊢
      generalize w7.alloc (.cells #[] 5) = w8 at E8 F8 C8 B8 Q9 ⊢
      clear F7 O7 Q7 B7 Q8 hg7 f0 f1 f2 f3 f4 f5 f6 hcut
      refine Kd.R_append_row (w0 := w) (Value.int .u8) (0 : Int) base rfl (.tmp 64) (.tmp 70) 22 5 (.int .u8 0) 1 rfl Tryd.underlying22 info5 rfl (by decide) (.slice (some ⟨g7, 0, none⟩) 0 0) [] T A8 T.length (c4 - m) (fun _ => True) rfl rfl (fun _ _ => trivial) (unhide E8) (unhide C8) (unhide B8) (Nat.le_trans hbw (unhide B8).size) (by have := unhide HTL; simp only [List.length_nil]; omega) ?_
      intro v9 w9 hR9 hB9 hg9 hat9
      rw [List.nil_append] at hR9
      have F9 : Hid (Fd w9 g (.slice (some ad) L.length c4) r4) := blk_grown (unhide F8) hg9 (by have := unhide N8; simp [Value.ownBlock]; omega)
      have Q10 := hide (Kd.R_mono (ok' := fun _ => True) (Kd.R_grown (unhide Q9) hg9 (fun q h => by have := h.2; simp [Value.ownBlock]; omega)) (fun _ _ => trivial))
      obtain ⟨A9, c9, rfl⟩ := Kd.R_slice hR9
      have O9 := hide hR9
      have B9 := hide hB9
      clear hR9 hB9 hg9 hat9 E8 F8 C8 B8 Q9
      obtain ⟨⟨f0, f1, f2⟩, ⟨f3, f4, f5⟩, f6⟩ := (unhide F9).cells
      go_wp2
      clear f0 f1 f2 f3 f4 f5 f6
      go_roundg (gk - 1)
      case measure => have := unhide HJ1; have := unhide HJLT; omega
      case rel =>
        have F10 : Fd (w9.setCell ⟨g, 0, none⟩ (.slice A9 T.length c9)) g (.slice A9 T.length c9) r4 := blk_put (unhide F9) 0 _ rfl
        refine ⟨j + 1, ?_, ⟨A9, T.length, c9, wrap64 (r4 + (m : Int)), blk_put F10 1 _ rfl, ?_⟩, ?_, ((unhide B9).setCell hbase _).setCell hbase _⟩
        · have := unhide HJ1; have := unhide HJLT; exact ⟨by omega, by omega⟩
        · rw [← unhide HTT]
          exact F10.own ((unhide F9).own (unhide O9) 0 _) 1 _
        · exact Kd.R_set (Kd.R_set (unhide Q10) (unhide F9) frK_47 0 _) F10 frK_47 1 _
    · have hje : j = js.length := by have := (unhide HJ1).2; omega
      subst hje
      rw [List.drop_length] at h4 O4
      rw [List.take_length] at Q4
      have hzl : rest.length ≤ 100000 := by have := unhide HN; rw [unhide HCAT, List.length_append] at this; omega
      have h4n : n4 = rest.length := h4.1
      have HC4 : Hid (Kd.C (Kd.int .u8) wr A4 n4 rest) := by rw [h4n]; exact h4.2.2
      have HN4 : Hid (n4 ≤ 100000) := by rw [h4n]; exact hzl
      clear h4 h4n hzl
      obtain ⟨⟨f0, f1, f2⟩, ⟨f3, f4, f5⟩, f6⟩ := (unhide F4).cells
      go_wp2_with fail
      refine (fread_end A4 n4 c4 rest _ (unhide HC4) (unhide HREST) (by have := unhide HN4; omega)).mono ?_
      rintro e w5 ⟨⟨f, a, rfl, hT5, hs5⟩, hB5⟩
      have F5 := hide (blk_alloc (blk_below (unhide F4) hB5) (.cells #[.int .i64 0, .int .i64 0, .slice none 0 0] 51))
      have O5 := hide (Kd.R_alloc (Kd.R_below (unhide O4) hB5) (.cells #[.int .i64 0, .int .i64 0, .slice none 0 0] 51))
      have Q5 := hide (Kd.R_alloc (Kd.R_below (unhide Q4) hB5) (.cells #[.int .i64 0, .int .i64 0, .slice none 0 0] 51))
      have B5 := hide (((unhide B4).trans (hB5.mono (Nat.le_trans hbw (unhide B4).size))).alloc (Nat.le_trans hbw (Nat.le_trans (unhide B4).size hB5.size)) (.cells #[.int .i64 0, .int .i64 0, .slice none 0 0] 51))
      have T5 := hide (hT5.alloc (.cells #[.int .i64 0, .int .i64 0, .slice none 0 0] 51))
      clear hT5 hs5 hB5 F4 O4 Q4 B4 f0 f1 f2 f3 f4 f5 f6
      go_wp2_with fail
      refine (is_short f a 30 _ (unhide T5)).mono ?_
      intro e w' hh; rw [hh.1, hh.2]; clear hh
      go_wp2
      go_ret
      exact ⟨Ao, co, rfl, unhide Q5, ⟨A4, n4, c4, r4, unhide F5, unhide O5⟩, unhide B5⟩
theorem feed_end (g : Nat) (A : Option Addr) (c : Nat) (r : Int) (w : World) (hf : Fd w g (.slice A 0 c) r) : Calls Tryd.prog 11 #[.pointer (some ⟨g, 0, none⟩)] w fun e w' => e = .returned .nilIface ∧ w' = w := by
  obtain ⟨⟨f0, f1, f2⟩, ⟨f3, f4, f5⟩, f6⟩ := hf.cells
  clear hf
  go_enter Tryd.func11, Tryd.ntmps11
  go_wp2
  go_ret
  exact ⟨rfl, rfl⟩
end Go.Proofs.YtgoephcembgmcaaDoor.Fr
namespace Go.Proofs.YtgoephcembgmcaaDoor.Fr
open Go.RowKit Go.Proofs.YtgoephcembgmcaaDoorW.PrintWords Go.Proofs.YtgoephcembgmcaaDoorW.PrintLast Wk FrM Rg
/-! Some frames' bytes, cut anywhere: whole frames, and one's beginning (plain law). -/
theorem vnum_high (m : Nat) : ∀ (i : Nat) (x : Int), i + 1 < (vnum m).length → (vnum m)[i]? = some x → 128 ≤ x ∧ x ≤ 255 := by
  induction m using Nat.strongRecOn with
  | _ m ih =>
    intro i x hi hx
    by_cases h : m ≤ 127
    · rw [vnum_small h] at hi; simp at hi
    · rw [vnum_big h] at hi hx
      cases i with
      | zero => simp at hx; omega
      | succ i => exact ih (m / 128) (by omega) i x (by simp at hi; omega) (by simpa using hx)
theorem vnum_three (m : Nat) (h : m ≤ 16384) : (vnum m).length ≤ 3 := by
  by_cases h1 : m ≤ 127
  · rw [vnum_small h1]; simp
  · rw [vnum_big h1]
    by_cases h2 : m / 128 ≤ 127
    · rw [vnum_small h2]; simp
    · rw [vnum_big h2, vnum_small (by omega)]; simp
theorem enc1_begin (k : Nat) (ys P T : List Int) (hk : FrOk (k, ys)) (h : enc1 k ys = P ++ T) (hT : T ≠ []) : Begin P := by
  cases P with
  | nil => exact .inl rfl
  | cons x q =>
    unfold enc1 at h
    rw [List.cons_append] at h
    obtain ⟨h1, h2⟩ := List.cons.inj h
    subst h1
    refine .inr ⟨k, q, hk.1, hk.2.1, rfl, ?_⟩
    rcases List.append_eq_append_iff.1 h2 with ⟨r, hq, hy⟩ | ⟨c, hv, hy⟩
    · exact .inr ⟨ys.length, r, hq, hk.2.2, by rw [hy, List.length_append]; have := List.length_pos_iff.2 hT; omega⟩
    · by_cases hc : c = []
      · subst hc
        rw [List.append_nil] at hv
        rw [List.nil_append] at hy
        exact .inr ⟨ys.length, [], by rw [hv, List.append_nil], hk.2.2, by rw [← hy]; exact List.length_pos_iff.2 hT⟩
      · have hl := List.length_pos_iff.2 hc
        have h3 := vnum_three ys.length hk.2.2
        have hvl : (vnum ys.length).length = q.length + c.length := by rw [hv, List.length_append]
        refine .inl ⟨by omega, fun x hx => ?_⟩
        obtain ⟨i, hi, hxi⟩ := List.getElem_of_mem hx
        refine vnum_high ys.length i x (by omega) ?_
        rw [hv, List.getElem?_append_left hi, List.getElem?_eq_getElem hi, hxi]
theorem cut_encs : ∀ (L : List (Nat × List Int)) (P T : List Int), (∀ j ∈ L, FrOk j) → encs1 L = P ++ T →
    ∃ k rest, k ≤ L.length ∧ P = encs1 (L.take k) ++ rest ∧ Begin rest ∧ encs1 (L.drop k) = rest ++ T ∧ (T = [] → k = L.length ∧ rest = [])
  | [], P, T, _, h => by
    have h' : P ++ T = [] := h.symm
    obtain ⟨rfl, rfl⟩ := List.append_eq_nil_iff.1 h'
    exact ⟨0, [], Nat.le_refl _, rfl, .inl rfl, rfl, fun _ => ⟨rfl, rfl⟩⟩
  | x :: L, P, T, hL, h => by
    have go : ∀ a', P = enc1 x.1 x.2 ++ a' → encs1 L = a' ++ T → ∃ k rest, k ≤ (x :: L).length ∧ P = encs1 ((x :: L).take k) ++ rest ∧ Begin rest ∧ encs1 ((x :: L).drop k) = rest ++ T ∧ (T = [] → k = (x :: L).length ∧ rest = []) := by
      intro a' hP hr
      obtain ⟨k, rest, h1, h2, h3, h4, h5⟩ := cut_encs L a' T (fun j hj => hL j (List.mem_cons_of_mem _ hj)) hr
      refine ⟨k + 1, rest, Nat.succ_le_succ h1, ?_, h3, h4, fun hT => ⟨by rw [(h5 hT).1]; rfl, (h5 hT).2⟩⟩
      rw [hP, h2, List.take_succ_cons]
      show _ = (enc1 x.1 x.2 ++ encs1 (L.take k)) ++ rest
      rw [List.append_assoc]
    have h' : enc1 x.1 x.2 ++ encs1 L = P ++ T := h
    rcases List.append_eq_append_iff.1 h' with ⟨a', hP, hr⟩ | ⟨c, hv, hT⟩
    · exact go a' hP hr
    · by_cases hc : c = []
      · subst hc
        exact go [] (by rw [hv, List.append_nil, List.append_nil]) (by rw [hT]; rfl)
      · refine ⟨0, P, Nat.zero_le _, rfl, enc1_begin x.1 x.2 P c (hL x List.mem_cons_self) hv hc, by rw [← h]; rfl, fun hT0 => ?_⟩
        rw [hT0] at hT
        exact absurd (List.append_eq_nil_iff.1 hT.symm).1 hc
end Go.Proofs.YtgoephcembgmcaaDoor.Fr
namespace Go.Proofs.YtgoephcembgmcaaDoor.Wd
open Go.RowKit Go.Proofs.YtgoephcembgmcaaDoorW.PrintWords Go.Proofs.YtgoephcembgmcaaDoorW.PrintLast Wk FrM Fr Bl Tk Sh Rg
open WkM (w64 Bytes)
/-- The words' cells lie in a row that begins at its block's head. -/
def WdC (w : World) (A : Option Addr) (ws : List (List Value × Nat × List Int)) : Prop := 0 < ws.length → ∃ g, A = some ⟨g, 0, none⟩ ∧ ∀ i x, ws[i]? = some x → w.rangeAt g (i * 91) x.1 ∧ x.1.length = 91 ∧ ∀ u ∈ x.1, u.oneCell' = true
theorem WdC.below {w w1 : World} {A : Option Addr} {ws : List (List Value × Nat × List Int)} (h : WdC w A ws) (hb : Below w.heap.size w w1) : WdC w1 A ws := fun h0 => by
  obtain ⟨g, e, hr⟩ := h h0
  exact ⟨g, e, fun i x hi => ⟨fun j v hv => pw_cell_below hb ((hr i x hi).1 j v hv), (hr i x hi).2⟩⟩
/-- What Word.Frame answers at these cells, over the world w. -/
def FrameAt (w : World) (cs : List Value) (k : Nat) (D : List Int) : Prop := ∀ w1, Below w.heap.size w w1 → Calls Tryd.prog 20 #[.agg cs.toArray] w1 fun e w' => ∃ A1 c1, e = .returned (.tuple #[.agg #[.int .i64 (k : Int), .int .i64 0, .slice A1 D.length c1], .int .i64 0]) ∧ Own w' w1.heap.size (.slice A1 D.length c1) D ∧ Below w1.heap.size w1 w'
theorem enc_step {js : List (Nat × List Int)} {i : Nat} {x : Nat × List Int} (h : js[i]? = some x) : encs1 (js.take (i + 1)) = encs1 (js.take i) ++ [((8 * x.1 : Nat) : Int)] ++ vnum x.2.length ++ x.2 := by
  have key : ∀ (l : List (Nat × List Int)) (y : Nat × List Int), encs1 (l ++ [y]) = encs1 l ++ enc1 y.1 y.2 := by
    intro l y
    induction l with
    | nil => simp [encs1]
    | cons a t ih => rw [List.cons_append]; show enc1 a.1 a.2 ++ encs1 (t ++ [y]) = (enc1 a.1 a.2 ++ encs1 t) ++ _; rw [ih, List.append_assoc]
  rw [List.take_add_one, h]
  show encs1 (js.take i ++ [x]) = _
  rw [key]
  unfold enc1
  simp only [List.append_assoc, List.cons_append, List.nil_append, List.singleton_append]
theorem encs1_take (l : List (Nat × List Int)) (i : Nat) : (encs1 (l.take i)).length ≤ (encs1 l).length := by
  induction l generalizing i with
  | nil => simp
  | cons a t ih =>
    cases i with
    | zero => simp [encs1]
    | succ i =>
      have := ih i
      rw [List.take_succ_cons]
      simp only [encs1, List.length_append]
      omega
theorem size51 : (Tryd.prog.info? 51).map (·.size) = some 3 := by kernel_rfl
def js (ws : List (List Value × Nat × List Int)) : List (Nat × List Int) := ws.map (·.2)
theorem zero38 : (Tryd.prog.info? 38).map (fun i => i.zero.map (fun z => z.cells.size)) = some (some 91) := by kernel_rfl
set_option maxHeartbeats 8000000 in
set_option maxRecDepth 100000 in
theorem wbytes_ok (A : Option Addr) (c : Nat) (ws : List (List Value × Nat × List Int)) (w : World) (hC : WdC w A ws) (hF : ∀ x ∈ ws, FrameAt w x.1 x.2.1 x.2.2) (hk : ∀ x ∈ js ws, FrOk x) (hl : (encs1 (js ws)).length ≤ 60000) (hn : ws.length ≤ 100) :
    Calls Tryd.prog 5 #[.slice A ws.length c] w fun e w' => ∃ A1 c1, e = .returned (.tuple #[.slice A1 (encs1 (js ws)).length c1, .int .i64 0]) ∧ Own w' w.heap.size (.slice A1 (encs1 (js ws)).length c1) (encs1 (js ws)) ∧ Below w.heap.size w w' := by
  obtain ⟨m, hm⟩ : ∃ m, m = ws.length := ⟨_, rfl⟩
  rw [← hm]
  have HM := hide hm
  have HC := hide hC
  have HF := hide hF
  have HK := hide hk
  have HL := hide hl
  have HN : Hid (m ≤ 100) := by show _ ≤ _; omega
  have O0 : Hid (Own w w.heap.size (.slice none 0 0) ([] : List Int)) := Kd.R_nil _ _ _ _ _
  clear hm hC hF hk hl hn
  go_enter Tryd.func5, Tryd.ntmps5
  go_wp2
  go_loopg [4, 11] m (fun kq v4 v11 wr => ∃ (i : Nat) (A2 : Option Addr) (c2 : Nat) (zs : List Int), v11 = .int .i64 (i : Int) ∧ v4 = .slice A2 zs.length c2 ∧ Hid (i + kq = m) ∧ Hid (zs = encs1 ((js ws).take i)) ∧ Hid (Own wr w.heap.size (.slice A2 zs.length c2) zs) ∧ Hid (Below w.heap.size w wr))
  case atStart => exact ⟨0, none, 0, [], rfl, rfl, Nat.zero_add _, rfl, O0, Below.refl _ _⟩
  case round =>
    obtain ⟨i, A2, c2, zs, rfl, rfl, HI, HZ, O2, B2⟩ := hrel
    by_cases hlt : i < m
    · have him : i < ws.length := by have := unhide HM; omega
      obtain ⟨x, hx⟩ : ∃ x, ws[i]? = some x := ⟨_, List.getElem?_eq_getElem him⟩
      obtain ⟨g, rfl, hr⟩ := ((unhide HC).below (unhide B2)) (by omega)
      obtain ⟨hrg, h91, hone⟩ := hr i x hx
      have hF := (unhide HF) x (List.mem_of_getElem? hx)
      have hjx : (js ws)[i]? = some x.2 := by unfold js; rw [List.getElem?_map, hx]; rfl
      have hok := (unhide HK) x.2 (List.mem_of_getElem? hjx)
      obtain ⟨cs, k, D⟩ := x
      have hzl : zs.length ≤ 60000 := by
        have h1 := encs1_take (js ws) i
        rw [unhide HZ]
        have := unhide HL
        omega
      have SZ : Hid ((Tryd.prog.info? 38).map (·.size) = some cs.length) := by show _ = _; rw [h91]; exact size38
      have SZA : Hid ((Tryd.prog.info? 38).map (·.size) = some cs.toArray.size) := by show _ = _; rw [List.size_toArray, h91]; exact size38
      have SA : Hid ((wcl 0 0 { data := #[] } nl nl 0 0 0 nl nl 0 (z8 32)).toArray.size = cs.toArray.size) := by show _ = _; rw [List.size_toArray, List.size_toArray, h91]; rfl
      have HRG := hide hrg
      have H91 := hide h91
      have HONE := hide hone
      have HFX := hide hF
      have HJX := hide hjx
      have HOKX := hide hok
      have HZL := hide hzl
      have HLT := hide hlt
      have d1 : (i : Int) < (m : Int) := by omega
      have e1 : wrap64 ((i : Int) + 1) = ((i + 1 : Nat) : Int) := by have := unhide HN; rw [w64 _ (by omega) (by omega)]; omega
      have E1 := hide e1
      have P5 : Hid ((wr.alloc (.cells cs.toArray 38)).heap[wr.heap.size]? = some (.cells cs.toArray 38 (0, 0))) := blk_new _ _
      have rg5 := hide (wcl_range (unhide P5) 0 cs (by rw [List.drop_zero, List.take_length]))
      clear him hx hrg h91 hone hF hjx hok hzl hlt e1 hr
      go_wp2_with (first | refine wpList_load_mid rfl 38 (.tmp 13) rfl g (i * 91) rfl cs _ (unhide HRG) Tryd.underlying38 rfl (unhide SZ) ?_ | (refine wpList_store_row rfl 38 (.tmp 6) (.tmp 14) rfl wr.heap.size cs.toArray rfl rfl 38 _ (blk_new wr _) (unhide SZA) (unhide SA) (all_oneCell_toArray (unhide HONE)) ?_; rw [World.setRow_alloc_new]) | refine wpList_load_mid rfl 38 (.tmp 6) rfl wr.heap.size 0 rfl cs _ (unhide rg5) Tryd.underlying38 rfl (unhide SZ) ?_)
      have b5 := below_alloc (unhide B2) (.cells cs.toArray 38)
      have o5 := Kd.R_alloc (unhide O2) (.cells cs.toArray 38)
      generalize wr.alloc (.cells cs.toArray 38) = w5 at b5 o5 ⊢
      refine ((unhide HFX) w5 b5).mono ?_
      rintro e w6 ⟨A6, c6, rfl, hO6, hb6⟩
      have o6 := Kd.R_alloc (Kd.R_below o5 hb6) (.cells #[.int .i64 (k : Int), .int .i64 0, .slice A6 D.length c6] 51)
      have q6 := Kd.R_alloc hO6 (.cells #[.int .i64 (k : Int), .int .i64 0, .slice A6 D.length c6] 51)
      have b6 := below_alloc (below_step b5 hb6) (.cells #[.int .i64 (k : Int), .int .i64 0, .slice A6 D.length c6] 51)
      have VL : Hid (∀ j, (Value.slice A2 zs.length c2).ownBlock = some j → j < w5.heap.size) := Kd.R_lt o5
      have f6 : Frm (w6.alloc (.cells #[.int .i64 (k : Int), .int .i64 0, .slice A6 D.length c6] 51)) w6.heap.size (k : Int) 0 (.slice A6 D.length c6) := blk_new _ _
      obtain ⟨⟨_, _, _⟩, _, _⟩ := f6.cells
      have O6 := hide o6
      have Q6 := hide q6
      have B6 := hide b6
      clear o6 q6 b6 o5 b5 hO6 hb6 f6 O2 B2
      go_wp2_with fail
      generalize w6.alloc (.cells #[.int .i64 (k : Int), .int .i64 0, .slice A6 D.length c6] 51) = w7 at O6 Q6 B6 ⊢
      have hcap := (Kd.R_reads' (unhide Q6)).2.1
      have hokx := unhide HOKX
      refine (append_ok2 w.heap.size (.slice A2 zs.length c2) zs A6 c6 D k w7 ⟨hokx.1, hokx.2.1⟩ (unhide O6) (fun w' v' _ hG => (Kd.R_reads' (R_keepG (unhide Q6) hG (unhide VL))).2.2) (unhide B6).size hcap hokx.2.2 (by have := unhide HZL; omega)).mono ?_
      rintro e w8 ⟨A8, c8, rfl, hO8, hB8, -⟩
      obtain ⟨z8_, hz8⟩ : ∃ z, z = zs ++ [((8 * k : Nat) : Int)] ++ vnum D.length ++ D := ⟨_, rfl⟩
      rw [← hz8] at hO8 ⊢
      have O8 := hide hO8
      have B8 := hide ((unhide B6).trans hB8)
      have HZ8 : Hid (z8_ = encs1 ((js ws).take (i + 1))) := by
        show z8_ = _
        rw [hz8, unhide HZ, enc_step (unhide HJX)]
      clear hO8 hB8 hz8 hcap hokx
      go_wp2
      go_roundg (gk - 1)
      case measure => have := unhide HI; have := unhide HLT; omega
      case rel => exact ⟨i + 1, A8, c8, z8_, by first | exact congrArg (Value.int .i64) (unhide E1) | exact congrArg (Value.int .i64) (by omega), rfl, by have := unhide HI; have := unhide HLT; show _ = _; omega, HZ8, O8, B8⟩
    · have d1 : ¬ (i : Int) < (m : Int) := by omega
      have hz : zs = encs1 (js ws) := by rw [unhide HZ, List.take_of_length_le (by unfold js; rw [List.length_map]; have := unhide HM; omega)]
      have HZZ := hide hz
      clear hlt hz
      go_wp2
      rw [← unhide HZZ]
      refine bodyPost_ret (v := .tuple #[.slice A2 zs.length c2, .int .i64 0]) (by simp [results, Tryd.results5, go_sem]) rfl ⟨A2, c2, rfl, unhide O2, unhide B2⟩
end Go.Proofs.YtgoephcembgmcaaDoor.Wd
namespace Go.Proofs.YtgoephcembgmcaaDoor.Wd
open Go.RowKit Go.Proofs.YtgoephcembgmcaaDoorW.PrintWords Go.Proofs.YtgoephcembgmcaaDoorW.PrintLast Wk FrM Fr Bl Tk Sh Rg
open WkM (w64 Bytes)
/-- A word of a kind, and no more. -/
def wz (k : Int) : List Value := wcl k 0 { data := #[] } nl nl 0 0 0 nl nl 0 (z8 32)
theorem wz_len (k : Int) : (wz k).length = 91 := rfl
theorem built38_11 : Tryd.prog.built 38 [(0, .int .i64 11)] = some (wz 11).toArray := by kernel_rfl
theorem built38_14 : Tryd.prog.built 38 [(0, .int .i64 14)] = some (wz 14).toArray := by kernel_rfl
theorem built38_4 : Tryd.prog.built 38 [(0, .int .i64 4)] = some (wz 4).toArray := by kernel_rfl
theorem built38_5 : Tryd.prog.built 38 [(0, .int .i64 5)] = some (wz 5).toArray := by kernel_rfl
theorem built38_7 : Tryd.prog.built 38 [(0, .int .i64 7)] = some (wz 7).toArray := by kernel_rfl
theorem built38_3 : Tryd.prog.built 38 [(0, .int .i64 3)] = some (wz 3).toArray := by kernel_rfl
/-- What word.Read holds: the frame, the answer's place, the word, the reader's place. -/
def WI (w0 wr : World) (p q t r : Nat) (k : Int) (A : Option Addr) (N c : Nat) (cs : List Value) : Prop :=
  Frm wr p k 0 (.slice A N c) ∧ wr.heap[p + 1]? = some (.cells Tryd.zeroCells38 38 (0, 0)) ∧ wr.heap[q]? = some (.cells cs.toArray 38 (0, 0)) ∧ wr.heap[t]? = some (.cells #[.pointer (some ⟨r, 0, none⟩)] 100 (0, 0)) ∧ Below w0.heap.size w0 wr ∧ w0.heap.size ≤ p ∧ p + 1 < q ∧ q < r ∧ r < t
section
variable {w0 wr w1 : World} {p q t r : Nat} {k : Int} {A : Option Addr} {N c : Nat} {cs : List Value}
theorem WI.rd (h : WI w0 wr p q t r k A N c cs) (hb : Below w0.heap.size wr w1) (hk : KeepBut wr w1 r none) : WI w0 w1 p q t r k A N c cs := by
  obtain ⟨h1, h2, h3, h4, h5, h6, h7, h8, h9⟩ := h
  exact ⟨blk_rd h1 hk (by omega), blk_rd h2 hk (by omega), blk_rd h3 hk (by omega), blk_rd h4 hk (by omega), h5.trans hb, h6, h7, h8, h9⟩
theorem WI.below (h : WI w0 wr p q t r k A N c cs) (hb : Below wr.heap.size wr w1) : WI w0 w1 p q t r k A N c cs := by
  obtain ⟨h1, h2, h3, h4, h5, h6⟩ := h
  exact ⟨blk_below h1 hb, blk_below h2 hb, blk_below h3 hb, blk_below h4 hb, below_step h5 hb, h6⟩
theorem WI.grown {v : Value} {xs : List Int} (h : WI w0 wr p q t r k A N c cs) (ho : Own wr w0.heap.size v xs) (hg : wr.grownBy w1 v.ownBlock) (hb : Below w0.heap.size w0 w1) : WI w0 w1 p q t r k A N c cs := by
  obtain ⟨h1, h2, h3, h4, h5, h6⟩ := h
  exact ⟨blk_grown h1 hg (Kd.R_ne ho h1 (by decide)), blk_grown h2 hg (Kd.R_ne ho h2 (by decide)), blk_grown h3 hg (Kd.R_ne ho h3 (by decide)), blk_grown h4 hg (Kd.R_ne ho h4 (by decide)), hb, h6⟩
theorem WI.put (h : WI w0 wr p q t r k A N c cs) (j : Nat) (v : Value) : WI w0 (wr.setCell ⟨q, j, none⟩ v) p q t r k A N c (cs.set j v) := by
  obtain ⟨h1, h2, h3, h4, h5, h6, h7, h8, h9⟩ := h
  exact ⟨blk_far h1 (by show p ≠ q; omega) v, blk_far h2 (by show p + 1 ≠ q; omega) v, blk_put h3 j v (by rw [List.setIfInBounds_toArray]), blk_far h4 (by show t ≠ q; omega) v, h5.setCell (p := ⟨q, j, none⟩) (by show w0.heap.size ≤ q; omega) v, h6, h7, h8, h9⟩
/-- Cells from a place on, set one by one. -/
def setL (cs : List Value) (o : Nat) : List Value → List Value
  | [] => cs
  | v :: r => setL (cs.set o v) (o + 1) r
theorem WI.puts : ∀ {wr : World} {cs : List Value} (h : WI w0 wr p q t r k A N c cs) (vs : List Value) (o : Nat), WI w0 (wr.setCells q o vs) p q t r k A N c (setL cs o vs)
  | _, _, h, [], _ => h
  | _, _, h, v :: r, o => (h.put o v).puts r (o + 1)
theorem WI.there (h : WI w0 wr p q t r k A N c cs) (hl : cs.length = 91) (o n : Nat) (hon : o + n ≤ 91) : wr.there q o n := fun j hj =>
  ⟨by rw [blk_cell h.2.2.1 (o + j), List.getElem?_toArray, List.getElem?_eq_getElem (by omega)]; rfl, blk_frozen h.2.2.1 _⟩
end
theorem size33 : (Tryd.prog.info? 33).map (·.size) = some 4 := by kernel_rfl
def T31_1 : Bool × List (List Nat × List Nat) := (true, [([], []), ([0], [0]), ([], []), ([2], [2]), ([1, 3], [1, 3]), ([4, 3, 0, 1, 2, 3, 4], [4])])
def BT31_1 : List Nat := [0, 1, 0, 4, 15, 31]
theorem tabT31_1 : rtab .any (opsOf Tryd.f31 1) = T31_1 := by kernel_rfl
theorem bitsT31_1 : waitsOk T31_1.2 BT31_1 = true := by kernel_rfl

theorem own5_38 : ∀ q, q ∈ 5 :: (Kd.int .u8).E → q ≠ 38 := by
  intro q hq
  simp [Kd.int, Kd.scalar] at hq
  omega
theorem R_row {α : Type} {d : Kd α} {e base g t : Nat} {w : World} {v : Value} {xs : List α} {old : Array Value} (h : d.R e w base (fun _ => True) v xs) (hb : w.heap[g]? = some (.cells old t (0, 0))) (ht : ∀ q, q ∈ e :: d.E → q ≠ t) (cs : Array Value) : d.R e (w.setRow g cs) base (fun _ => True) v xs :=
  Kd.R_mono (Kd.R_step (Kd.R_types h hb ht) (fun k hk _ => setRow_other w g k cs hk.2)) (fun _ _ => trivial)
theorem z8_one : ∀ u ∈ z8 32, u.oneCell' = true := by decide
theorem wcl_one (k n : Int) (name : ByteArray) (A1 A2 A3 A4 : Option Addr) (n1 m1 n2 m2 n3 m3 n4 m4 : Nat) (s0 s1 s2 cut : Int) (S : List Value) (hS : ∀ u ∈ S, u.oneCell' = true) :
    ∀ u ∈ wcl k n name (.slice A1 n1 m1) (.slice A2 n2 m2) s0 s1 s2 (.slice A3 n3 m3) (.slice A4 n4 m4) cut S, u.oneCell' = true := by
  intro u hu
  unfold wcl at hu
  rcases List.mem_append.1 hu with hu | hu
  · rcases List.mem_append.1 hu with hu | hu
    · rcases List.mem_append.1 hu with hu | hu
      · simp only [List.mem_cons, List.mem_nil_iff, or_false] at hu
        rcases hu with rfl | rfl | rfl | rfl <;> rfl
      · have h : u = .int .u8 0 := List.eq_of_mem_replicate hu
        rw [h]; rfl
    · simp only [List.mem_cons, List.mem_nil_iff, or_false] at hu
      rcases hu with rfl | rfl | rfl | rfl | rfl | rfl | rfl <;> rfl
  · exact hS u hu
theorem stop_load {P : Program} {ops : Array Oper} {rest : List Oper} {o : Oper} {a : Act} {w : World} {Q : Exit → Act → World → Prop} (t : TypeId) (x : Operand) (ho : o.op = .load t x) (h : Hid (wpList P ops Q (o :: rest) a w)) : wpList P ops Q (o :: rest) a w := h
theorem at_world {P : Program} {ops : Array Oper} {rest : List Oper} {a : Act} {w : World} {Q : Exit → Act → World → Prop} (S : World → Prop) (hS : S w) (h : ∀ w', S w' → wpList P ops Q rest a w') : wpList P ops Q rest a w := h w hS
theorem text_at (r base : Nat) (ad : Addr) (c : Nat) (L t rest : List Int) (w : World) (h : RdAt w r ad c L (vnum t.length ++ (t ++ rest))) (hC : Kd.C (Kd.int .u8) w (some ad) L.length L) (ht : t.length ≤ 4096) (hn : L.length ≤ 1000000) (hnc : L.length ≤ c) (hne : ad.block ≠ r) (hb : base ≤ r) :
    Calls Tryd.prog 34 #[.pointer (some ⟨r, 0, none⟩)] w fun e w' => ∃ A1 c1, e = .returned (.slice A1 t.length c1) ∧ OwnG r w' w.heap.size (.slice A1 t.length c1) t ∧ RdAt w' r ad c L rest ∧ Below base w w' ∧ KeepBut w w' r none := by
  obtain ⟨k, hr, hL, hk⟩ := h
  refine (text_rd r base ad L.length c k L t rest w hr hC hL ht hn hnc hne hb hk).mono ?_
  rintro e w' ⟨A1, c1, h1, h2, h3, h4, h5⟩
  have hl : (L.drop k).length = (vnum t.length).length + (t.length + rest.length) := by rw [hL, List.length_append, List.length_append]
  rw [List.length_drop] at hl
  exact ⟨A1, c1, h1, h2, ⟨_, h3, by rw [← List.drop_drop, ← List.drop_drop, hL, List.drop_left, List.drop_left], by omega⟩, h4, h5⟩
theorem str_bytesOf (s : ByteArray) : strOfNums (bytesOf s) = s := by
  have h : (s.data.toList.map fun b => (b.toNat : Int)).map (fun n => UInt8.ofNat n.toNat) = s.data.toList := by
    rw [List.map_map]
    conv => rhs; rw [← List.map_id s.data.toList]
    apply List.map_congr_left
    intro b _
    simp
  unfold strOfNums bytesOf
  rw [h]
theorem nsB_drop {ns : List ByteArray} {i : Nat} {s : ByteArray} (h : ns[i]? = some s) : nsB (ns.drop i) = vnum s.size ++ (bytesOf s ++ nsB (ns.drop (i + 1))) := by
  obtain ⟨hi, hb⟩ := List.getElem?_eq_some_iff.1 h
  rw [List.drop_eq_getElem_cons hi, hb]
  unfold nsB
  rw [List.flatMap_cons, List.append_assoc]
theorem str_155 : ∀ q, q ∈ 9 :: Kd.string.E → q ≠ 155 := by
  intro q hq
  simp [Kd.string, Kd.scalar] at hq
  omega
theorem str_38 : ∀ q, q ∈ 9 :: Kd.string.E → q ≠ 38 := by
  intro q hq
  simp [Kd.string, Kd.scalar] at hq
  omega
theorem info9 : (Tryd.prog.info? 9).map (fun i => (i.zero, i.size, i.bytes)) = some (some (.string { data := #[] }), 1, 16) := by kernel_rfl
theorem exec_conv {P : Program} {ev : Operand → Value} {o : Oper} {src dst : TypeId} {x : Operand} {v u : Value} {w : World} (ho : o.op = .convert src dst x) (hx : ev x = v) (h : (convert src dst v).run P w = .ok u w) : (execOp ev o).run P w = .ok (.value u) w := by
  unfold execOp
  rw [ho]
  simp [hx, h, Result.andThen]
theorem WI.grownS {w0 wr w1 : World} {p q t r : Nat} {k : Int} {A : Option Addr} {N c : Nat} {cs : List Value} {v : Value} {xs : List ByteArray} (h : WI w0 wr p q t r k A N c cs) (ho : Kd.string.R 9 wr w0.heap.size (fun _ => True) v xs) (hg : wr.grownBy w1 v.ownBlock) (hb : Below w0.heap.size w0 w1) : WI w0 w1 p q t r k A N c cs := by
  obtain ⟨h1, h2, h3, h4, h5, h6⟩ := h
  exact ⟨blk_grown h1 hg (Kd.R_ne ho h1 (by decide)), blk_grown h2 hg (Kd.R_ne ho h2 (by decide)), blk_grown h3 hg (Kd.R_ne ho h3 (by decide)), blk_grown h4 hg (Kd.R_ne ho h4 (by decide)), hb, h6⟩
theorem read_sig_m (ad : Addr) (c n m : Nat) (bs : List (Int × List Int)) (L : List Int) (w : World) (hm : m = bs.length) (hL : L = sgB n bs) (hC : Kd.C (Kd.int .u8) w (some ad) L.length L) (hbs : ∀ b ∈ bs, Blk b) (hl : bs.length = (n + 3) / 4) (hn : n ≤ 500) :
    Calls Tryd.prog 38 #[.slice (some ad) L.length c] w fun e w' => ∃ A1 c1, e = .returned (.tuple #[.agg #[.int .i64 4, .int .i64 8, .int .i64 (n : Int), .slice A1 m c1], .nilIface]) ∧ Below w.heap.size w w' := by
  subst hm
  exact read_sig ad c n bs L w hL hC hbs hl hn
theorem zc38 : Tryd.zeroCells38.size = 91 := by kernel_rfl
theorem from_any_m (A0 : Option Addr) (c0 N : Nat) (l : List Int) (a : Nat) (hN : N = l.length) (hc : l.length ≤ c0) (ha : a ≤ l.length) :
    ∃ A1 : Option Addr, (∀ W : World, (Instr.slice 22 (.slice A0 N c0) (some (.int .i64 (a : Int))) none none).run Tryd.prog W = .ok (.slice A1 (l.drop a).length (c0 - a)) W) ∧
    (∀ w : World, Kd.C (Kd.int .u8) w A0 l.length l → Kd.C (Kd.int .u8) w A1 (l.drop a).length (l.drop a)) ∧ (l.drop a).length ≤ c0 - a := by
  subst hN
  exact from_any A0 c0 l a hc ha
set_option maxHeartbeats 4000000 in
set_option maxRecDepth 100000 in
/-- The closure: the bytes that were not read yet. -/
theorem rest_ok (p t r N c : Nat) (k : Int) (ad : Addr) (L rest : List Int) (w : World) (hF : Frm w p k 0 (.slice (some ad) N c)) (hT : w.heap[t]? = some (.cells #[.pointer (some ⟨r, 0, none⟩)] 100 (0, 0))) (hR : RdAt w r ad c L rest) (hN : N = L.length) (hc : L.length ≤ c) :
    Calls Tryd.prog 31 #[.pointer (some ⟨p, 0, none⟩), .pointer (some ⟨t, 0, none⟩)] w fun e w' => ∃ A1 c1, e = .returned (.slice A1 rest.length c1) ∧ (∀ W : World, Kd.C (Kd.int .u8) W (some ad) L.length L → Kd.C (Kd.int .u8) W A1 rest.length rest) ∧ rest.length ≤ c1 ∧ Below w.heap.size w w' := by
  have HF := hide hF
  have HT := hide hT
  have HR := hide hR
  have HN := hide hN
  have HC := hide hc
  clear hF hT hR hN hc
  go_enter Tryd.func31, Tryd.ntmps31
  go_wp2
  have FD : Hid (Frm w.drew p k 0 (.slice (some ad) N c)) := unhide HF
  have TD : Hid (w.drew.heap[t]? = some (.cells #[.pointer (some ⟨r, 0, none⟩)] 100 (0, 0))) := unhide HT
  have RD : Hid (RdAt w.drew r ad c L rest) := unhide HR
  refine start_ (n := 6) (S := fun w' => Frm w' p k 0 (.slice (some ad) N c) ∧ w'.heap[t]? = some (.cells #[.pointer (some ⟨r, 0, none⟩)] 100 (0, 0))) (ds := []) (bt 6 0) (by kernel_rfl) rfl (by kernel_rfl) ⟨unhide FD, unhide TD⟩ (fun hHeld => ?_)
  refine with_tabW tabT31_1 bitsT31_1 (fun HT_ HW_ => ?_)
  refine run_ [(0, 3)] ?_
  iterate 1 ((first | refine sp_ (v := ?_) (a' := ?_) HT_.out rfl rfl rfl (by kernel_rfl) (fun _ _ _ h => h) ?_ ?_ ?_ | refine sg_ (v := ?_) (a' := ?_) HT_.out rfl rfl (by kernel_rfl) (fun _ _ _ h => h) (by rfl) ?_ ?_ ?_); rotate_left; (· intro w'; go_simp; with_reducible rfl); rotate_left; (· simp only [Act.put, List.setIfInBounds_toArray, List.set_cons_zero, List.set_cons_succ, i64_w, i32_w]; rfl))
  refine rend_ ?_
  refine take_ (i := 1) (N := some 4) (v := ?_) (a' := ?_) (bt 6 3) rfl rfl (take_ofW HT_.out HW_.out (by kernel_rfl)) (fun _ _ _ h => h) (Or.inl ⟨by rfl, ?_⟩) hHeld ?_ ?_
  rotate_left
  · rintro w' ⟨h1_, h2_⟩
    obtain ⟨⟨_, _, _⟩, _, _⟩ := h1_.cells
    have h3_ := (blk_cell h2_ 0).trans rfl
    go_simp
    with_reducible rfl
  rotate_left
  · simp only [Act.put, List.setIfInBounds_toArray, List.set_cons_zero, List.set_cons_succ, i64_w, i32_w]
    rfl
  refine take_ (i := 2) (N := some 5) (v := ?_) (a' := ?_) (bt 6 7) rfl rfl (take_ofW HT_.out HW_.out (by kernel_rfl)) (fun _ _ _ h => h) (Or.inl ⟨by rfl, ?_⟩) hHeld ?_ ?_
  rotate_left
  · rintro w' ⟨h1_, h2_⟩
    obtain ⟨⟨_, _, _⟩, _, _⟩ := h1_.cells
    have h3_ := (blk_cell h2_ 0).trans rfl
    go_simp
    with_reducible rfl
  rotate_left
  · simp only [Act.put, List.setIfInBounds_toArray, List.set_cons_zero, List.set_cons_succ, i64_w, i32_w]
    rfl
  refine one_ (i := 3) (N := some 6) (bt 6 15) rfl rfl (one_of HT_.out (by kernel_rfl)) (by decide) (fun K hK => ?_)
  refine goes_ Tryd.func32 (by kernel_rfl) rfl #[.pointer (some ⟨r, 0, none⟩)] (by rfl) rfl rfl (by (try simp only [List.map_toArray, List.map_cons, List.map_nil]); first | done | rfl) ?_
  refine (atAt r ad c L rest _ (unhide RD)).mono ?_
  rintro e w4 ⟨⟨k9, rfl, hk9, hk10⟩, rfl⟩
  refine ⟨_, rfl, ?_⟩
  obtain ⟨A1, hcut, hcr, hcl⟩ := from_any_m (some ad) c N L k9 (unhide HN) (unhide HC) hk10
  rw [hk9] at hcut hcr hcl
  have HCR := hide hcr
  have HCL := hide hcl
  clear hk9 hk10 hcr hcl
  clear hHeld
  refine hK.out _ _ ⟨unhide FD, unhide TD⟩ (fun hHeld => ?_)
  clear hK K
  refine norm_ (a' := ?_) ?_ ?_
  rotate_left
  · show Act.put _ (some 6) _ = _
    simp only [Act.put, List.setIfInBounds_toArray, List.set_cons_zero, List.set_cons_succ, i64_w, i32_w]
    rfl
  refine run_ [(4, 7), (5, 2)] ?_
  iterate 2 ((first | refine sp_ (v := ?_) (a' := ?_) HT_.out rfl rfl rfl (by kernel_rfl) (fun _ _ _ h => h) ?_ ?_ ?_ | refine sg_ (v := ?_) (a' := ?_) HT_.out rfl rfl (by kernel_rfl) (fun _ _ _ h => h) (by rfl) ?_ ?_ ?_); rotate_left; (· intro w'; go_simp; with_reducible rfl); rotate_left; (· simp only [Act.put, List.setIfInBounds_toArray, List.set_cons_zero, List.set_cons_succ, i64_w, i32_w]; rfl))
  refine rend_ ?_
  refine done_ (done_of HT_.out (by kernel_rfl)) ?_
  clear HT_ HW_ hHeld
  go_wp2
  refine bodyPost_ret (v := .slice A1 rest.length (c - k9)) (by simp [results, Tryd.results31, go_sem]) rfl ⟨A1, c - k9, rfl, unhide HCR, unhide HCL, below_drew (Below.refl _ _)⟩
end Go.Proofs.YtgoephcembgmcaaDoor.Wd
namespace Go.Proofs.YtgoephcembgmcaaDoor.Wd
open Go.RowKit Go.Proofs.YtgoephcembgmcaaDoorW.PrintWords Go.Proofs.YtgoephcembgmcaaDoorW.PrintLast Wk FrM Fr Bl Tk Sh Rg
open WkM (w64 Bytes)
/-- A word: its cells, its kind, its frame's data. -/
abbrev Wdt := List Value × Nat × List Int
def wdK : Kd Wdt := rawK 91 fun x => x.1
theorem wdK_M {w : World} {base : Nat} {ok : Nat → Prop} (x : Wdt) (h : x.1.length = 91) (h1 : ∀ u ∈ x.1, u.oneCell' = true) : wdK.M w base ok x x.1 := ⟨rfl, h, h1⟩
theorem wdK_33 : ∀ q, q ∈ 38 :: wdK.E → q = 38 := by
  intro q hq
  simp [wdK, rawK] at hq
  omega
theorem info38 : (Tryd.prog.info? 38).map (fun i => (i.zero, i.size, i.bytes)) = some (some (.agg Tryd.zeroCells38), 91, 240) := by kernel_rfl
theorem WdC.of_R {w : World} {base n c : Nat} {ok : Nat → Prop} {A : Option Addr} {ws : List Wdt} (h : wdK.R 38 w base ok (.slice A n c) ws) : WdC w A ws := fun h0 => by
  have hr := Kd.R_reads' h
  obtain ⟨ad, hA, hcell⟩ := hr.2.2.2.2 h0
  subst hA
  obtain ⟨g, rfl⟩ := Kd.R_head h
  refine ⟨g, rfl, fun i b hi => ?_⟩
  obtain ⟨c, _, hK, hcc⟩ := hcell i b hi
  obtain ⟨hc, h2, h3⟩ : c = b.1 ∧ c.length = 91 ∧ ∀ u ∈ c, u.oneCell' = true := hK
  subst hc
  refine ⟨fun j v hv => ?_, h2, h3⟩
  have := hcc j v hv
  rw [Addr.add_mid, Nat.zero_add] at this
  exact this
theorem FrameAt.up {w0 w : World} {cs : List Value} {k : Nat} {D : List Int} (h : FrameAt w0 cs k D) (hb : Below w0.heap.size w0 w) : FrameAt w cs k D := fun w1 h1 => h w1 (below_step hb h1)
/-! The six words. -/
def w11 : Wdt := (wz 11, 11, [])
def w14 (n : Nat) (A : Option Addr) (c : Nat) (bs : List (Int × List Int)) : Wdt := (wcl 14 3 { data := #[] } nl nl 4 8 (n : Int) (.slice A bs.length c) nl 0 (z8 32), 14, vnum 3 ++ sgB n bs)
def w4 (A : Option Addr) (c : Nat) (us : List (Int × Int × List Int)) (sm : List Int) : Wdt := (wcl 4 4 { data := #[] } nl nl 0 0 0 nl (.slice A us.length c) 32 (sm.map (Value.int .u8)), 4, vnum 4 ++ vnum 32 ++ sm ++ dtB us)
def w5 (A : Option Addr) (c : Nat) (ys : List Int) : Wdt := (wcl 5 5 { data := #[] } nl (.slice A ys.length c) 0 0 0 nl nl 0 (z8 32), 5, vnum 5 ++ ys)
def w7 (name : ByteArray) : Wdt := (wcl 7 0 name nl nl 0 0 0 nl nl 0 (z8 32), 7, vnum name.size ++ bytesOf name)
def w3 (A : Option Addr) (c : Nat) (ns : List ByteArray) : Wdt := (wcl 3 0 { data := #[] } (.slice A ns.length c) nl 0 0 0 nl nl 0 (z8 32), 3, vnum ns.length ++ nsB ns)
theorem sm_one (sm : List Int) : ∀ u ∈ sm.map (Value.int .u8), u.oneCell' = true := fun u hu => by obtain ⟨x, _, rfl⟩ := List.mem_map.1 hu; rfl
theorem w11_ok : w11.1.length = 91 ∧ ∀ u ∈ w11.1, u.oneCell' = true := ⟨rfl, wcl_one _ _ _ _ _ _ _ _ _ _ _ _ _ _ _ _ _ _ _ _ z8_one⟩
theorem w14_ok (n : Nat) (A : Option Addr) (c : Nat) (bs : List (Int × List Int)) : (w14 n A c bs).1.length = 91 ∧ ∀ u ∈ (w14 n A c bs).1, u.oneCell' = true := ⟨rfl, wcl_one _ _ _ _ _ _ _ _ _ _ _ _ _ _ _ _ _ _ _ _ z8_one⟩
theorem w4_ok (A : Option Addr) (c : Nat) (us : List (Int × Int × List Int)) (sm : List Int) (hs : sm.length = 32) : (w4 A c us sm).1.length = 91 ∧ ∀ u ∈ (w4 A c us sm).1, u.oneCell' = true := ⟨by simp [w4, wcl, z8, hs], wcl_one _ _ _ _ _ _ _ _ _ _ _ _ _ _ _ _ _ _ _ _ (sm_one sm)⟩
theorem w5_ok (A : Option Addr) (c : Nat) (ys : List Int) : (w5 A c ys).1.length = 91 ∧ ∀ u ∈ (w5 A c ys).1, u.oneCell' = true := ⟨rfl, wcl_one _ _ _ _ _ _ _ _ _ _ _ _ _ _ _ _ _ _ _ _ z8_one⟩
theorem w7_ok (name : ByteArray) : (w7 name).1.length = 91 ∧ ∀ u ∈ (w7 name).1, u.oneCell' = true := ⟨rfl, wcl_one _ _ _ _ _ _ _ _ _ _ _ _ _ _ _ _ _ _ _ _ z8_one⟩
theorem w3_ok (A : Option Addr) (c : Nat) (ns : List ByteArray) : (w3 A c ns).1.length = 91 ∧ ∀ u ∈ (w3 A c ns).1, u.oneCell' = true := ⟨rfl, wcl_one _ _ _ _ _ _ _ _ _ _ _ _ _ _ _ _ _ _ _ _ z8_one⟩
theorem b38_14 (n : Nat) (A : Option Addr) (m c : Nat) : Tryd.prog.built 38 [(0, .int .i64 14), (1, .int .i64 3), (7, sgV n (.slice A m c))] = some (wcl 14 3 { data := #[] } nl nl 4 8 (n : Int) (.slice A m c) nl 0 (z8 32)).toArray := by kernel_rfl
theorem b38_5 (A : Option Addr) (m c : Nat) : Tryd.prog.built 38 [(0, .int .i64 5), (1, .int .i64 5), (6, .slice A m c)] = some (wcl 5 5 { data := #[] } nl (.slice A m c) 0 0 0 nl nl 0 (z8 32)).toArray := by kernel_rfl
theorem b38_7 (name : ByteArray) : Tryd.prog.built 38 [(0, .int .i64 7), (2, .string name)] = some (wcl 7 0 name nl nl 0 0 0 nl nl 0 (z8 32)).toArray := by kernel_rfl
theorem b38_3 (A : Option Addr) (m c : Nat) : Tryd.prog.built 38 [(0, .int .i64 3), (3, .slice A m c)] = some (wcl 3 0 { data := #[] } (.slice A m c) nl 0 0 0 nl nl 0 (z8 32)).toArray := by kernel_rfl
theorem b38_4_ (A : Option Addr) (n k : Nat) (a0 a1 a2 a3 a4 a5 a6 a7 a8 a9 a10 a11 a12 a13 a14 a15 a16 a17 a18 a19 a20 a21 a22 a23 a24 a25 a26 a27 a28 a29 a30 a31 : Int) : Tryd.prog.built 38 [(0, .int .i64 4), (1, .int .i64 4), (8, .agg (tcl (.slice A n k) 32 [a0, a1, a2, a3, a4, a5, a6, a7, a8, a9, a10, a11, a12, a13, a14, a15, a16, a17, a18, a19, a20, a21, a22, a23, a24, a25, a26, a27, a28, a29, a30, a31]).toArray)] = some (wcl 4 4 { data := #[] } nl nl 0 0 0 nl (.slice A n k) 32 ([a0, a1, a2, a3, a4, a5, a6, a7, a8, a9, a10, a11, a12, a13, a14, a15, a16, a17, a18, a19, a20, a21, a22, a23, a24, a25, a26, a27, a28, a29, a30, a31].map (Value.int .u8))).toArray := by kernel_rfl
theorem b38_4 (A : Option Addr) (n k : Nat) (s : List Int) (h : s.length = 32) : Tryd.prog.built 38 [(0, .int .i64 4), (1, .int .i64 4), (8, .agg (tcl (.slice A n k) 32 s).toArray)] = some (wcl 4 4 { data := #[] } nl nl 0 0 0 nl (.slice A n k) 32 (s.map (Value.int .u8))).toArray := by
  match s, h with
  | [a0, a1, a2, a3, a4, a5, a6, a7, a8, a9, a10, a11, a12, a13, a14, a15, a16, a17, a18, a19, a20, a21, a22, a23, a24, a25, a26, a27, a28, a29, a30, a31], _ => exact b38_4_ A n k a0 a1 a2 a3 a4 a5 a6 a7 a8 a9 a10 a11 a12 a13 a14 a15 a16 a17 a18 a19 a20 a21 a22 a23 a24 a25 a26 a27 a28 a29 a30 a31
/-- A literal of words. -/
theorem lit38 (vs : List (List Value)) (hv : ∀ c ∈ vs, c.length = 91) (h0 : 0 < vs.length) (h1 : vs.length ≤ 100) (W : World) :
    (Instr.buildSlice 43 vs.length ((((vs.map fun c => Value.agg c.toArray).zipIdx 0).map fun x => (x.2, x.1)).toArray)).run Tryd.prog W = .ok (.slice (some ⟨W.heap.size, 0, none⟩) vs.length vs.length) (W.alloc (.cells vs.flatten.toArray 38)) := by
  obtain ⟨ie, hie, hz⟩ := Option.map_eq_some_iff.1 info38
  simp only [Prod.mk.injEq] at hz
  obtain ⟨hz, hs, -⟩ := hz
  have hf : (vs.map fun c => Value.agg c.toArray).flatMap (fun v => v.cells.toList) = vs.flatten := by
    rw [List.flatMap_map]
    show vs.flatMap (fun c => c.toArray.toList) = _
    simp [List.flatMap_id', List.flatMap_def]
  refine run_buildSlice W 43 38 vs.length _ _ ie (.agg Tryd.zeroCells38) Tryd.underlying43 hie hz (by rw [hs]; omega) (by rw [hs]; omega) ?_
  rw [hs, List.toList_toArray, ← hf]
  refine Great.fill_whole (by decide) _ _ ?_ ?_
  · intro v hv'
    obtain ⟨c, hc, rfl⟩ := List.mem_map.1 hv'
    show c.toArray.size = 91
    rw [List.size_toArray]
    exact hv c hc
  · rw [List.length_map, Array.size_map, Array.size_range]
theorem lit38_1 (cs : List Value) (h : cs.length = 91) (W : World) (o : Oper) (ev : Operand → Value) (x : Operand) (ho : o.op = .buildSlice 43 1 #[(0, x)]) (hx : ev x = .agg cs.toArray) :
    (execOp ev o).run Tryd.prog W = .ok (.value (.slice (some ⟨W.heap.size, 0, none⟩) 1 1)) (W.alloc (.cells cs.toArray 38)) := by
  have hl := lit38 [cs] (fun c hc => by rw [List.mem_singleton.1 hc]; exact h) (by simp) (by simp) W
  have e1 : ([cs].flatten : List Value) = cs := by simp
  rw [e1] at hl
  unfold execOp
  rw [ho]
  have e2 : (#[(0, x)] : Array (Nat × Operand)).map (fun (i, x) => (i, ev x)) = ((([cs].map fun c => Value.agg c.toArray).zipIdx 0).map fun x => (x.2, x.1)).toArray := by
    simp only [List.map_toArray, List.map_cons, List.map_nil, hx]
    rfl
  simp only [e2, Sem.run_map, Sem.run_bind, show ([cs] : List (List Value)).length = 1 from rfl] at hl ⊢
  rw [hl]
  rfl
theorem lit38_3 (c0 c1 c2 : List Value) (h0 : c0.length = 91) (h1 : c1.length = 91) (h2 : c2.length = 91) (W : World) (o : Oper) (ev : Operand → Value) (x y z : Operand) (ho : o.op = .buildSlice 43 3 #[(0, x), (1, y), (2, z)]) (hx : ev x = .agg c0.toArray) (hy : ev y = .agg c1.toArray) (hz : ev z = .agg c2.toArray) :
    (execOp ev o).run Tryd.prog W = .ok (.value (.slice (some ⟨W.heap.size, 0, none⟩) 3 3)) (W.alloc (.cells (c0 ++ c1 ++ c2).toArray 38)) := by
  have hl := lit38 [c0, c1, c2] (fun c hc => by
    rcases List.mem_cons.1 hc with rfl | hc
    · exact h0
    · rcases List.mem_cons.1 hc with rfl | hc
      · exact h1
      · rw [List.mem_singleton.1 hc]; exact h2) (by simp) (by simp) W
  have e1 : ([c0, c1, c2].flatten : List Value) = c0 ++ c1 ++ c2 := by simp
  rw [e1] at hl
  unfold execOp
  rw [ho]
  have e2 : (#[(0, x), (1, y), (2, z)] : Array (Nat × Operand)).map (fun (i, x) => (i, ev x)) = ((([c0, c1, c2].map fun c => Value.agg c.toArray).zipIdx 0).map fun x => (x.2, x.1)).toArray := by
    simp only [List.map_toArray, List.map_cons, List.map_nil, hx, hy, hz]
    rfl
  simp only [e2, Sem.run_map, Sem.run_bind, show ([c0, c1, c2] : List (List Value)).length = 3 from rfl] at hl ⊢
  rw [hl]
  rfl
theorem wpList_lit38 {ops : Array Oper} {rest : List Oper} {o : Oper} {a : Act} {w : World} {Q : Exit → Act → World → Prop} (hg : o.guard = none) (x : Operand) (ho : o.op = .buildSlice 43 1 #[(0, x)]) (cs : List Value) (h91 : cs.length = 91) (hx : a.eval x = .agg cs.toArray)
    (h : wpList Tryd.prog ops Q rest (a.put o.dst (.slice (some ⟨w.heap.size, 0, none⟩) 1 1)) (w.alloc (.cells cs.toArray 38))) : wpList Tryd.prog ops Q (o :: rest) a w :=
  wpList_plain hg fun _ hK => by
    unfold Oper.wp
    rw [lit38_1 cs h91 w o a.eval x ho hx]
    exact hK _ _ h
/-- Three words in a row. -/
theorem reps3 (x y z : Wdt) (M : Wdt → List Value → Prop) (hx : M x x.1) (hy : M y y.1) (hz : M z z.1) (h0 : x.1.length = 91) (h1 : y.1.length = 91) (h2 : z.1.length = 91) : Reps M 91 [x, y, z] (x.1 ++ y.1 ++ z.1) :=
  (((Reps.none M 91).snoc hx h0).snoc hy h1).snoc hz h2
theorem stop_build {P : Program} {ops : Array Oper} {rest : List Oper} {o : Oper} {a : Act} {w : World} {Q : Exit → Act → World → Prop} (t : TypeId) (ps : Array (Nat × Operand)) (ho : o.op = .build t ps) (h : Hid (wpList P ops Q (o :: rest) a w)) : wpList P ops Q (o :: rest) a w := h
theorem stop_lit {P : Program} {ops : Array Oper} {rest : List Oper} {o : Oper} {a : Act} {w : World} {Q : Exit → Act → World → Prop} (t : TypeId) (n : Nat) (ps : Array (Nat × Operand)) (ho : o.op = .buildSlice t n ps) (h : Hid (wpList P ops Q (o :: rest) a w)) : wpList P ops Q (o :: rest) a w := h
theorem stop_store' {P : Program} {ops : Array Oper} {rest : List Oper} {o : Oper} {a : Act} {w : World} {Q : Exit → Act → World → Prop} (t : TypeId) (x y : Operand) (ho : o.op = .store t x y) (h : Hid (wpList P ops Q (o :: rest) a w)) : wpList P ops Q (o :: rest) a w := h
end Go.Proofs.YtgoephcembgmcaaDoor.Wd
namespace Go.Proofs.YtgoephcembgmcaaDoor.Wd
open Go.RowKit Go.Proofs.YtgoephcembgmcaaDoorW.PrintWords Go.Proofs.YtgoephcembgmcaaDoorW.PrintLast Wk FrM Fr Bl Tk Sh Rg
open WkM (w64 Bytes)

theorem stop_store {P : Program} {ops : Array Oper} {rest : List Oper} {o : Oper} {a : Act} {w : World} {Q : Exit → Act → World → Prop} (t : TypeId) (x y : Operand) (ho : o.op = .store t x y) (h : Hid (wpList P ops Q (o :: rest) a w)) : wpList P ops Q (o :: rest) a w := h

set_option maxHeartbeats 8000000 in
set_option maxRecDepth 100000 in
theorem wread_14 (n : Nat) (bs : List (Int × List Int)) (A : Option Addr) (c : Nat) (L : List Int) (w : World) (hL : L = (vnum 3 ++ sgB n bs)) (hC : Kd.C (Kd.int .u8) w A L.length L) (hc : L.length ≤ c) (hbs : ∀ b ∈ bs, Blk b) (hbl : bs.length = (n + 3) / 4) (hn : n ≤ 500) :
    Calls Tryd.prog 9 #[.agg #[.int .i64 14, .int .i64 0, .slice A L.length c]] w fun e w' => ∃ (A1 : Option Addr) (c1 : Nat), e = .returned (.tuple #[.agg (wcl 14 3 { data := #[] } nl nl 4 8 (n : Int) (.slice A1 bs.length c1) nl 0 (z8 32)).toArray, .nilIface]) ∧ Below w.heap.size w w' := by
  have HL := hide hL
  have HC := hide hC
  have HCC := hide hc
  obtain ⟨N, hN⟩ : ∃ N, N = L.length := ⟨_, rfl⟩
  have HNL := hide hN
  rw [← hN]
  clear hL hC hc hN
  obtain ⟨p, hp⟩ : ∃ p, p = w.heap.size := ⟨_, rfl⟩
  have F1 : Frm ((w.alloc (.cells #[.int .i64 14, .int .i64 0, .slice A N c] 51)).alloc (.cells Tryd.zeroCells38 38)) p 14 0 (.slice A N c) := by rw [hp]; exact blk_alloc (blk_new _ _) _
  have G1 : ((w.alloc (.cells #[.int .i64 14, .int .i64 0, .slice A N c] 51)).alloc (.cells Tryd.zeroCells38 38)).heap[p + 1]? = some (.cells Tryd.zeroCells38 38 (0, 0)) := by
    have h := blk_new (w.alloc (.cells #[.int .i64 14, .int .i64 0, .slice A N c] 51)) (.cells (wz 0).toArray 38)
    rw [World.size_alloc, ← hp] at h
    exact h
  have B1 : Below w.heap.size w ((w.alloc (.cells #[.int .i64 14, .int .i64 0, .slice A N c] 51)).alloc (.cells Tryd.zeroCells38 38)) := below_alloc (below_alloc (Below.refl _ _) _) _
  go_enter Tryd.func9, Tryd.ntmps9
  go_wp2_with fail
  refine (shape_14 _).mono ?_
  intro e w' hh
  rw [hh.1, hh.2]
  clear hh
  try rw [← hp]
  generalize (w.alloc (.cells #[.int .i64 14, .int .i64 0, .slice A N c] 51)).alloc (.cells Tryd.zeroCells38 38) = w1 at F1 G1 B1 ⊢
  have HWP : Hid (w.heap.size ≤ p) := by show _ ≤ _; omega
  have hq : w.heap.size + 1 = p + 1 := by rw [hp]
  try rw [hq]
  clear hp hq
  obtain ⟨⟨_, _, _⟩, ⟨_, _, _⟩, _⟩ := F1.cells
  have F1 := hide F1
  have G1 := hide G1
  have B1 := hide B1
  have f2 : Frm (w1.alloc (.cells (wz 14).toArray 38)) p 14 0 (.slice A N c) := blk_alloc (unhide F1) _
  obtain ⟨⟨_, _, _⟩, ⟨_, _, _⟩, _⟩ := f2.cells
  have SZ : Hid ((Tryd.prog.info? 38).map (·.size) = some (wz 14).toArray.size) := size38
  have SA : Hid (Tryd.zeroCells38.size = (wz 14).toArray.size) := by show _ = _; kernel_rfl
  have ONE : Hid (∀ u ∈ wz 14, u.oneCell' = true) := by show ∀ u ∈ wz 14, _; decide
  go_wp2_with (first | refine wpList_build_is rfl 38 _ rfl (wz 14).toArray built38_14 ?_ | (refine wpList_store_row rfl 38 (.tmp 6) (.tmp 39) rfl w1.heap.size (wz 14).toArray rfl rfl 38 _ (blk_new w1 _) (unhide SZ) (unhide SA) (all_oneCell_toArray (unhide ONE)) ?_; rw [World.setRow_alloc_new]))
  obtain ⟨q, hq⟩ : ∃ q, q = w1.heap.size := ⟨_, rfl⟩
  have hpq : p + 1 < q := by have := blk_lt (unhide G1); omega
  have F2 : Frm (w1.alloc (.cells (wz 14).toArray 38)) p 14 0 (.slice A N c) := blk_alloc (unhide F1) _
  have G2 : (w1.alloc (.cells (wz 14).toArray 38)).heap[p + 1]? = some (.cells Tryd.zeroCells38 38 (0, 0)) := blk_alloc (unhide G1) _
  have W2 : (w1.alloc (.cells (wz 14).toArray 38)).heap[q]? = some (.cells (wz 14).toArray 38 (0, 0)) := by rw [hq]; exact blk_new _ _
  have B2 := below_alloc (unhide B1) (.cells (wz 14).toArray 38)
  try rw [← hq]
  generalize w1.alloc (.cells (wz 14).toArray 38) = w2 at F2 G2 W2 B2 ⊢
  clear hq f2
  refine (read_any A N c w2).mono ?_
  rintro e w3 ⟨rfl, hr3, hb3⟩
  obtain ⟨r, hr⟩ : ∃ r, r = w2.heap.size := ⟨_, rfl⟩
  obtain ⟨t, ht⟩ : ∃ t, t = w3.heap.size := ⟨_, rfl⟩
  have hqr : q < r := by have := blk_lt W2; omega
  rw [← hr] at hr3 ⊢
  have hrt : r < t := by have := blk_lt hr3; omega
  have I4 : Hid (WI w (w3.alloc (.cells #[.pointer (some ⟨r, 0, none⟩)] 100)) p q t r 14 A N c (wz 14)) := ⟨blk_alloc (blk_below F2 hb3) _, blk_alloc (blk_below G2 hb3) _, blk_alloc (blk_below W2 hb3) _, by rw [ht]; exact blk_new _ _, below_alloc (below_step B2 hb3) _, unhide HWP, hpq, hqr, hrt⟩
  have R4 : Hid (Rdr (w3.alloc (.cells #[.pointer (some ⟨r, 0, none⟩)] 100)) r (.slice A N c) 0) := blk_alloc hr3 _
  clear F1 G1 B1 F2 G2 W2 B2 hr3 hb3 hr hpq hqr hrt SZ SA ONE
  go_wp2
  try rw [← ht]
  generalize w3.alloc (.cells #[.pointer (some ⟨r, 0, none⟩)] 100) = w4 at I4 R4 ⊢
  clear ht
  have HLN : Hid (L.length ≤ 1000000) := by
    show L.length ≤ _
    rw [unhide HL]
    have h1 := bsB_len bs hbs; have h2 := vnum_len 5 3 (by decide); have h3 := vnum_len 5 4 (by decide); have h4 := vnum_len 5 8 (by decide); have h5 := vnum_len 5 n (by omega); unfold sgB; simp only [List.length_append]; omega
  have hl0 : 0 < L.length := by rw [unhide HL]; exact List.length_pos_iff.2 (by simp [vnum_ne])
  obtain ⟨ad, hA, -⟩ := (unhide HC).2.2 hl0
  subst hA
  have HNE : Hid (∀ j, w.heap.size ≤ j → ad.block ≠ j) := fun j hj => Kd.far_C 0 (unhide HC) hj ad rfl hl0
  have HRW : Hid (w.heap.size ≤ r) := by have h := (unhide I4).2.2.2.2.2; show _ ≤ _; omega
  have Q4 : Hid (RdAt w4 r ad c L (vnum 3 ++ sgB n bs)) := ⟨0, by rw [← unhide HNL]; exact unhide R4, (unhide HL), Nat.zero_le _⟩
  clear hl0 R4
  have t_ : w4.cell? ⟨t, 0, none⟩ = some (.pointer (some ⟨r, 0, none⟩)) := (blk_cell (unhide I4).2.2.2.1 0).trans rfl
  refine wp_loop_rounds 3 ?_
  rw [rounds_succ]
  go_wp2_with fail
  clear t_
  refine (num_at r w.heap.size ad c 3 L (sgB n bs) w4 (unhide Q4) (Kd.C_below (unhide HC) (unhide I4).2.2.2.2.1) (by decide) (unhide HLN) ((unhide HNE) r (unhide HRW)) (unhide HRW)).mono ?_
  rintro e w5 ⟨rfl, hr5, hb5, hk5⟩
  have I5 := hide ((unhide I4).rd hb5 hk5)
  have Q5 := hide hr5
  clear hr5 hb5 hk5 I4 Q4
  have t_ : w5.cell? ⟨t, 0, none⟩ = some (.pointer (some ⟨r, 0, none⟩)) := (blk_cell (unhide I5).2.2.2.1 0).trans rfl
  have c1_ := cell_wcl (unhide I5).2.2.1 1 rfl
  have z1_ : w5.frozen? ⟨q, 1, none⟩ = false := blk_frozen (unhide I5).2.2.1 1
  have i6 := (unhide I5).put 1 (.int .i64 3)
  have q6 := (unhide Q5).far (p := ⟨q, 1, none⟩) (by have h := (unhide I5).2.2.2.2.2; show r ≠ q; omega) (.int .i64 3)
  have t6_ := (blk_cell i6.2.2.2.1 0).trans rfl
  go_wp2_with fail
  clear t6_ t_ c1_ z1_
  generalize w5.setCell ⟨q, 1, none⟩ (.int .i64 3) = w6 at i6 q6 ⊢
  have I6 : Hid (WI w w6 p q t r 14 (some ad) N c (wcl 14 3 { data := #[] } nl nl 0 0 0 nl nl 0 (z8 32))) := i6
  have Q6 := hide q6
  clear i6 q6 I5 Q5
  refine (errAt r ad c L _ w6 (unhide Q6)).mono ?_
  intro e w' hh
  rw [hh.1, ← hh.2]
  clear hh
  go_wp2
  rw [rounds_succ]
  have t_ : w6.cell? ⟨t, 0, none⟩ = some (.pointer (some ⟨r, 0, none⟩)) := (blk_cell (unhide I6).2.2.2.1 0).trans rfl
  go_wp2_with fail
  refine (errAt r ad c L _ w6 (unhide Q6)).mono ?_
  intro e w' hh
  rw [hh.1, ← hh.2]
  clear hh
  go_wp2_with fail
  refine (rest_ok p t r N c 14 ad L (sgB n bs) w6 (unhide I6).1 (unhide I6).2.2.2.1 (unhide Q6) (unhide HNL) (unhide HCC)).mono ?_
  rintro e w7 ⟨A1, c1, rfl, hcr, hcl, hb7⟩
  have I7 := hide ((unhide I6).below hb7)
  have hC7 := hcr _ (Kd.C_below (unhide HC) (unhide I7).2.2.2.2.1)
  obtain ⟨ad1, hA1, -⟩ := hC7.2.2 (List.length_pos_iff.2 (by unfold sgB; simp [vnum_ne]))
  subst hA1
  have C7 := hide hC7
  clear hcr hcl hb7 hC7 I6 Q6 t_
  go_wp2_with fail
  obtain ⟨m, hm⟩ : ∃ m, m = bs.length := ⟨_, rfl⟩
  have hrs := read_sig_m ad1 c1 n m bs (sgB n bs) w7 hm rfl (unhide C7) hbs hbl hn
  have HM := hide hm
  clear hm hbs hbl hn
  refine hrs.mono ?_
  clear hrs
  rintro e w8 ⟨A8, c8, rfl, hb8⟩
  have I8 := hide ((unhide I7).below hb8)
  clear hb8 I7 C7
  have i9 := (unhide I8).below (below_alloc (Below.refl _ _) (.cells #[.int .i64 4, .int .i64 8, .int .i64 (n : Int), .slice A8 m c8] 33))
  have I9_ := PLift.up i9
  clear i9 I8
  have c53_ := cell_wcl I9_.down.2.2.1 53 rfl
  have z53_ : (w8.alloc (.cells #[.int .i64 4, .int .i64 8, .int .i64 (n : Int), .slice A8 m c8] 33)).frozen? ⟨q, 53, none⟩ = false := blk_frozen I9_.down.2.2.1 53
  have c54_ := cell_wcl I9_.down.2.2.1 54 rfl
  have z54_ : (w8.alloc (.cells #[.int .i64 4, .int .i64 8, .int .i64 (n : Int), .slice A8 m c8] 33)).frozen? ⟨q, 54, none⟩ = false := blk_frozen I9_.down.2.2.1 54
  have c55_ := cell_wcl I9_.down.2.2.1 55 rfl
  have z55_ : (w8.alloc (.cells #[.int .i64 4, .int .i64 8, .int .i64 (n : Int), .slice A8 m c8] 33)).frozen? ⟨q, 55, none⟩ = false := blk_frozen I9_.down.2.2.1 55
  have c56_ := cell_wcl I9_.down.2.2.1 56 rfl
  have z56_ : (w8.alloc (.cells #[.int .i64 4, .int .i64 8, .int .i64 (n : Int), .slice A8 m c8] 33)).frozen? ⟨q, 56, none⟩ = false := blk_frozen I9_.down.2.2.1 56
  obtain ⟨W9, hW9⟩ : ∃ W, W = w8.alloc (.cells #[.int .i64 4, .int .i64 8, .int .i64 (n : Int), .slice A8 m c8] 33) := ⟨_, rfl⟩
  have i10 := (((((hW9 ▸ I9_.down : WI w W9 p q t r 14 (some ad) N c (wcl 14 3 { data := #[] } nl nl 0 0 0 nl nl 0 (z8 32))).put 53 (.int .i64 4)).put 54 (.int .i64 8)).put 55 (.int .i64 (n : Int))).put 56 (.slice A8 m c8))
  subst hW9
  have I10 : Hid (WI w ((((((w8.alloc (.cells #[.int .i64 4, .int .i64 8, .int .i64 (n : Int), .slice A8 m c8] 33)).setCell ⟨q, 53, none⟩ (.int .i64 4)).setCell ⟨q, 54, none⟩ (.int .i64 8)).setCell ⟨q, 55, none⟩ (.int .i64 (n : Int))).setCell ⟨q, 56, none⟩ (.slice A8 m c8))) p q t r 14 (some ad) N c (wcl 14 3 { data := #[] } nl nl 4 8 (n : Int) (.slice A8 m c8) nl 0 (z8 32))) := i10
  clear i10 I9_
  obtain ⟨cs, hcs⟩ : ∃ cs, cs = wcl 14 3 { data := #[] } nl nl 4 8 (n : Int) (.slice A8 m c8) nl 0 (z8 32) := ⟨_, rfl⟩
  have i11 := unhide I10
  rw [← hcs] at i11
  have h91 : cs.length = 91 := by rw [hcs]; rfl
  have hone : ∀ u ∈ cs, u.oneCell' = true := by rw [hcs]; exact wcl_one _ _ _ _ _ _ _ _ _ _ _ _ _ _ _ _ _ _ _ _ z8_one
  have I11 := hide i11
  have SZ : Hid ((Tryd.prog.info? 38).map (·.size) = some cs.length) := by show _ = _; rw [h91]; exact size38
  have SZA : Hid ((Tryd.prog.info? 38).map (·.size) = some cs.toArray.size) := by show _ = _; rw [List.size_toArray, h91]; exact size38
  have SA : Hid (Tryd.zeroCells38.size = cs.toArray.size) := by show _ = _; rw [zc38, List.size_toArray, h91]
  have rg11 := hide (wcl_range i11.2.2.1 0 cs (by rw [List.drop_zero, List.take_length]))
  have ONE := hide hone
  have HCS := hide hcs
  clear i11 h91 hone hcs
  go_wp2_with (first | (with_reducible refine stop_load 38 (.tmp 6) rfl ?_; refine hide ?_; refine wpList_load_mid rfl 38 (.tmp 6) rfl q 0 rfl cs _ (unhide rg11) Tryd.underlying38 rfl (unhide SZ) ?_) | (with_reducible refine stop_store 38 (.tmp 2) (.tmp 141) rfl ?_))
  refine hide ?_
  refine wpList_store_row rfl 38 (.tmp 2) (.tmp 141) rfl (p + 1) cs.toArray rfl rfl 38 _ (unhide I11).2.1 (unhide SZA) (unhide SA) (all_oneCell_toArray (unhide ONE)) ?_
  go_wp2
  have B12 : Below w.heap.size w ((((((w8.alloc (.cells #[.int .i64 4, .int .i64 8, .int .i64 (n : Int), .slice A8 m c8] 33)).setCell ⟨q, 53, none⟩ (.int .i64 4)).setCell ⟨q, 54, none⟩ (.int .i64 8)).setCell ⟨q, 55, none⟩ (.int .i64 (n : Int))).setCell ⟨q, 56, none⟩ (.slice A8 m c8)).setRow (p + 1) cs.toArray) := below_setRow (unhide I11).2.2.2.2.1 (by have h := (unhide I11).2.2.2.2.2.1; show w.heap.size ≤ p + 1; omega) _
  refine bodyPost_ret (v := .tuple #[.agg cs.toArray, .nilIface]) (Go.Proofs.YtgoephcembgmcaaDoor.Tk.results_cell_tmp rfl _ _ (p + 1) 38 _ (0, 0) _ _ rfl rfl (setRow_heap _ _ _ _ 38 _ (unhide I11).2.1) Tryd.underlying38 rfl (unhide SZA)) rfl ⟨A8, c8, by rw [unhide HCS, unhide HM], B12⟩
end Go.Proofs.YtgoephcembgmcaaDoor.Wd
