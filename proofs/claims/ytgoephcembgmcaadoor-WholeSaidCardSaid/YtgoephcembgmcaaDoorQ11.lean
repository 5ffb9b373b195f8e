import Derived.Test.YtgoephcembgmcaaDoorQ10
set_option linter.unusedSimpArgs false
set_option linter.unusedVariables false
namespace Go.Proofs.YtgoephcembgmcaaDoor.Wd
open Go.RowKit Go.Proofs.YtgoephcembgmcaaDoorW.PrintWords Go.Proofs.YtgoephcembgmcaaDoorW.PrintLast Wk FrM Fr Bl Tk Sh Rg
open WkM (w64 Bytes)
def T9_47 : Bool × List (List Nat × List Nat) := (true, [([], []), ([0], [0]), ([], []), ([2, 1], [2]), ([0, 1], []), ([4, 0, 1], [4]), ([5, 1, 3, 0, 1], [1, 5]), ([0, 1, 2, 3, 4, 5, 6], []), ([7, 0, 1, 2, 3, 4, 5, 6], [7]), ([8, 3, 6, 0, 1, 2, 3, 4, 5, 6], [3, 8])])
def BT9_47 : List Nat := [0, 1, 0, 7, 3, 19, 63, 127, 255, 511]
theorem tabT9_47 : rtab .any (opsOf Tryd.f9 47) = T9_47 := by kernel_rfl
theorem bitsT9_47 : waitsOk T9_47.2 BT9_47 = true := by kernel_rfl

theorem setL_end : ∀ (vs a b : List Value), b.length = vs.length → setL (a ++ b) a.length vs = a ++ vs
  | [], a, b, h => by rw [List.length_nil] at h; rw [List.eq_nil_of_length_eq_zero h]; rfl
  | v :: r, a, [], h => by simp at h
  | v :: r, a, x :: b, h => by
    have h1 : (a ++ x :: b).set a.length v = (a ++ [v]) ++ b := by
      rw [List.set_append_right _ _ (Nat.le_refl _), Nat.sub_self, List.set_cons_zero, List.append_assoc]; rfl
    have h2 : a.length + 1 = (a ++ [v]).length := by rw [List.length_append]; rfl
    show setL ((a ++ x :: b).set a.length v) (a.length + 1) r = _
    rw [h1, h2, setL_end r (a ++ [v]) b (by simpa using h), List.append_assoc]
    rfl
theorem setL_sum (k n : Int) (name : ByteArray) (ps ds : Value) (s0 s1 s2 : Int) (bl tk : Value) (cut : Int) (sm : List Int) (hs : sm.length = 32) :
    setL (wcl k n name ps ds s0 s1 s2 bl tk cut (z8 32)) 59 (sm.map (Value.int .u8)) = wcl k n name ps ds s0 s1 s2 bl tk cut (sm.map (Value.int .u8)) := by
  unfold wcl
  exact setL_end (sm.map (Value.int .u8)) _ (z8 32) (by rw [List.length_map, hs]; rfl)
theorem RdAt_fars {r : Nat} {ad : Addr} {c : Nat} {L rest : List Int} {q : Nat} (hq : r ≠ q) : ∀ (vs : List Value) (o : Nat) {w : World} (h : RdAt w r ad c L rest), RdAt (w.setCells q o vs) r ad c L rest
  | [], _, _, h => h
  | v :: vs, o, _, h => RdAt_fars hq vs (o + 1) (h.far (p := ⟨q, o, none⟩) hq v)
theorem exec_store_mid {P : Program} (ty : TypeId) (x y : Operand) (o : Oper) (ev : Operand → Value) (W : World) (ho : o.op = .store ty x y) (b k : Nat) (cells : Array Value) (hx : ev x = .pointer (some ⟨b, k, none⟩)) (hy : ev y = .agg cells)
    (ht : W.there b k cells.size) (hi : (P.info? ty).map (·.size) = some cells.size) (h1 : cells.all (·.oneCell') = true) : (execOp ev o).run P W = .ok .skip (W.setCells b k cells.toList) := by
  unfold execOp
  simp only [ho, hx, hy, Instr.storeAt, Instr.sureAddr, Sem.run_bind, Sem.run_pure, Result.andThen_ok, run_storeVar_mid W b k ty cells ht hi h1]
theorem sum_at (r base : Nat) (ad : Addr) (c : Nat) (L sm rest : List Int) (w : World) (h : RdAt w r ad c L (sm ++ rest)) (hC : Kd.C (Kd.int .u8) w (some ad) L.length L) (hs : sm.length = 32) (hn : L.length ≤ 1000000) (hnc : L.length ≤ c) (hne : ad.block ≠ r) (hb : base ≤ r) :
    Calls Tryd.prog 36 #[.pointer (some ⟨r, 0, none⟩)] w fun e w' => e = .returned (.agg (bys sm)) ∧ RdAt w' r ad c L rest ∧ Below base w w' ∧ KeepBut w w' r none := by
  obtain ⟨k, hr, hL, hk⟩ := h
  refine (sum_rd r base ad L.length c k L sm rest w hr hC hL hs hn hnc hne hb hk).mono ?_
  rintro e w' ⟨h1, h2, h3, h4⟩
  have hl : (L.drop k).length = sm.length + rest.length := by rw [hL, List.length_append]
  rw [List.length_drop] at hl
  exact ⟨h1, ⟨_, h2, by rw [← List.drop_drop, hL, ← hs, List.drop_left], by omega⟩, h3, h4⟩

set_option maxHeartbeats 8000000 in
set_option maxRecDepth 100000 in
theorem wread_4 (us : List (Int × Int × List Int)) (sm : List Int) (A : Option Addr) (c : Nat) (L : List Int) (w : World) (hL : L = (vnum 4 ++ (vnum 32 ++ (sm ++ dtB us)))) (hC : Kd.C (Kd.int .u8) w A L.length L) (hc : L.length ≤ c) (hok : AllOk us) (hw : tws us ≤ 501) (hs : sm.length = 32) :
    Calls Tryd.prog 9 #[.agg #[.int .i64 4, .int .i64 0, .slice A L.length c]] w fun e w' => ∃ (A1 : Option Addr) (n1 c1 : Nat), e = .returned (.tuple #[.agg (wcl 4 4 { data := #[] } nl nl 0 0 0 nl (.slice A1 n1 c1) 32 (sm.map (Value.int .u8))).toArray, .nilIface]) ∧ Below w.heap.size w w' := by
  have HL := hide hL
  have HC := hide hC
  have HCC := hide hc
  obtain ⟨N, hN⟩ : ∃ N, N = L.length := ⟨_, rfl⟩
  have HNL := hide hN
  rw [← hN]
  clear hL hC hc hN
  obtain ⟨p, hp⟩ : ∃ p, p = w.heap.size := ⟨_, rfl⟩
  have F1 : Frm ((w.alloc (.cells #[.int .i64 4, .int .i64 0, .slice A N c] 51)).alloc (.cells Tryd.zeroCells38 38)) p 4 0 (.slice A N c) := by rw [hp]; exact blk_alloc (blk_new _ _) _
  have G1 : ((w.alloc (.cells #[.int .i64 4, .int .i64 0, .slice A N c] 51)).alloc (.cells Tryd.zeroCells38 38)).heap[p + 1]? = some (.cells Tryd.zeroCells38 38 (0, 0)) := by
    have h := blk_new (w.alloc (.cells #[.int .i64 4, .int .i64 0, .slice A N c] 51)) (.cells (wz 0).toArray 38)
    rw [World.size_alloc, ← hp] at h
    exact h
  have B1 : Below w.heap.size w ((w.alloc (.cells #[.int .i64 4, .int .i64 0, .slice A N c] 51)).alloc (.cells Tryd.zeroCells38 38)) := below_alloc (below_alloc (Below.refl _ _) _) _
  go_enter Tryd.func9, Tryd.ntmps9
  go_wp2_with fail
  refine (shape_4 _).mono ?_
  intro e w' hh
  rw [hh.1, hh.2]
  clear hh
  try rw [← hp]
  generalize (w.alloc (.cells #[.int .i64 4, .int .i64 0, .slice A N c] 51)).alloc (.cells Tryd.zeroCells38 38) = w1 at F1 G1 B1 ⊢
  have HWP : Hid (w.heap.size ≤ p) := by show _ ≤ _; omega
  have hq : w.heap.size + 1 = p + 1 := by rw [hp]
  try rw [hq]
  clear hp hq
  obtain ⟨⟨_, _, _⟩, ⟨_, _, _⟩, _⟩ := F1.cells
  have F1 := hide F1
  have G1 := hide G1
  have B1 := hide B1
  have f2 : Frm (w1.alloc (.cells (wz 4).toArray 38)) p 4 0 (.slice A N c) := blk_alloc (unhide F1) _
  obtain ⟨⟨_, _, _⟩, ⟨_, _, _⟩, _⟩ := f2.cells
  have SZ : Hid ((Tryd.prog.info? 38).map (·.size) = some (wz 4).toArray.size) := size38
  have SA : Hid (Tryd.zeroCells38.size = (wz 4).toArray.size) := by show _ = _; kernel_rfl
  have ONE : Hid (∀ u ∈ wz 4, u.oneCell' = true) := by show ∀ u ∈ wz 4, _; decide
  go_wp2_with (first | refine wpList_build_is rfl 38 _ rfl (wz 4).toArray built38_4 ?_ | (refine wpList_store_row rfl 38 (.tmp 6) (.tmp 39) rfl w1.heap.size (wz 4).toArray rfl rfl 38 _ (blk_new w1 _) (unhide SZ) (unhide SA) (all_oneCell_toArray (unhide ONE)) ?_; rw [World.setRow_alloc_new]))
  obtain ⟨q, hq⟩ : ∃ q, q = w1.heap.size := ⟨_, rfl⟩
  have hpq : p + 1 < q := by have := blk_lt (unhide G1); omega
  have F2 : Frm (w1.alloc (.cells (wz 4).toArray 38)) p 4 0 (.slice A N c) := blk_alloc (unhide F1) _
  have G2 : (w1.alloc (.cells (wz 4).toArray 38)).heap[p + 1]? = some (.cells Tryd.zeroCells38 38 (0, 0)) := blk_alloc (unhide G1) _
  have W2 : (w1.alloc (.cells (wz 4).toArray 38)).heap[q]? = some (.cells (wz 4).toArray 38 (0, 0)) := by rw [hq]; exact blk_new _ _
  have B2 := below_alloc (unhide B1) (.cells (wz 4).toArray 38)
  try rw [← hq]
  generalize w1.alloc (.cells (wz 4).toArray 38) = w2 at F2 G2 W2 B2 ⊢
  clear hq f2
  refine (read_any A N c w2).mono ?_
  rintro e w3 ⟨rfl, hr3, hb3⟩
  obtain ⟨r, hr⟩ : ∃ r, r = w2.heap.size := ⟨_, rfl⟩
  obtain ⟨t, ht⟩ : ∃ t, t = w3.heap.size := ⟨_, rfl⟩
  have hqr : q < r := by have := blk_lt W2; omega
  rw [← hr] at hr3 ⊢
  have hrt : r < t := by have := blk_lt hr3; omega
  have I4 : Hid (WI w (w3.alloc (.cells #[.pointer (some ⟨r, 0, none⟩)] 100)) p q t r 4 A N c (wz 4)) := ⟨blk_alloc (blk_below F2 hb3) _, blk_alloc (blk_below G2 hb3) _, blk_alloc (blk_below W2 hb3) _, by rw [ht]; exact blk_new _ _, below_alloc (below_step B2 hb3) _, unhide HWP, hpq, hqr, hrt⟩
  have R4 : Hid (Rdr (w3.alloc (.cells #[.pointer (some ⟨r, 0, none⟩)] 100)) r (.slice A N c) 0) := blk_alloc hr3 _
  clear F1 G1 B1 F2 G2 W2 B2 hr3 hb3 hr hpq hqr hrt SZ SA ONE
  go_wp2
  try rw [← ht]
  generalize w3.alloc (.cells #[.pointer (some ⟨r, 0, none⟩)] 100) = w4 at I4 R4 ⊢
  clear ht
  have HLN : Hid (L.length ≤ 1000000) := by
    show L.length ≤ _
    rw [unhide HL]
    have h1 := tksB_len hok (by omega); have h2 := vnum_len 5 4 (by decide); have h3 := vnum_len 5 32 (by decide); have h4 := vnum_len 5 us.length (by have := len_tws hok; omega); have h5 := len_tws hok; unfold dtB; simp only [List.length_append]; omega
  have hl0 : 0 < L.length := by rw [unhide HL]; exact List.length_pos_iff.2 (by simp [vnum_ne])
  obtain ⟨ad, hA, -⟩ := (unhide HC).2.2 hl0
  subst hA
  have HNE : Hid (∀ j, w.heap.size ≤ j → ad.block ≠ j) := fun j hj => Kd.far_C 0 (unhide HC) hj ad rfl hl0
  have HRW : Hid (w.heap.size ≤ r) := by have h := (unhide I4).2.2.2.2.2; show _ ≤ _; omega
  have Q4 : Hid (RdAt w4 r ad c L (vnum 4 ++ (vnum 32 ++ (sm ++ dtB us)))) := ⟨0, by rw [← unhide HNL]; exact unhide R4, (unhide HL), Nat.zero_le _⟩
  clear hl0 R4
  have t_ : w4.cell? ⟨t, 0, none⟩ = some (.pointer (some ⟨r, 0, none⟩)) := (blk_cell (unhide I4).2.2.2.1 0).trans rfl
  refine wp_loop_rounds 3 ?_
  rw [rounds_succ]
  go_wp2_with fail
  clear t_
  refine (num_at r w.heap.size ad c 4 L (vnum 32 ++ (sm ++ dtB us)) w4 (unhide Q4) (Kd.C_below (unhide HC) (unhide I4).2.2.2.2.1) (by decide) (unhide HLN) ((unhide HNE) r (unhide HRW)) (unhide HRW)).mono ?_
  rintro e w5 ⟨rfl, hr5, hb5, hk5⟩
  have I5 := hide ((unhide I4).rd hb5 hk5)
  have Q5 := hide hr5
  clear hr5 hb5 hk5 I4 Q4
  have t_ : w5.cell? ⟨t, 0, none⟩ = some (.pointer (some ⟨r, 0, none⟩)) := (blk_cell (unhide I5).2.2.2.1 0).trans rfl
  have c1_ := cell_wcl (unhide I5).2.2.1 1 rfl
  have z1_ : w5.frozen? ⟨q, 1, none⟩ = false := blk_frozen (unhide I5).2.2.1 1
  have i6 := (unhide I5).put 1 (.int .i64 4)
  have q6 := (unhide Q5).far (p := ⟨q, 1, none⟩) (by have h := (unhide I5).2.2.2.2.2; show r ≠ q; omega) (.int .i64 4)
  have t6_ := (blk_cell i6.2.2.2.1 0).trans rfl
  go_wp2_with fail
  clear t6_ t_ c1_ z1_
  generalize w5.setCell ⟨q, 1, none⟩ (.int .i64 4) = w6 at i6 q6 ⊢
  have I6 : Hid (WI w w6 p q t r 4 (some ad) N c (wcl 4 4 { data := #[] } nl nl 0 0 0 nl nl 0 (z8 32))) := i6
  have Q6 := hide q6
  clear i6 q6 I5 Q5
  refine (errAt r ad c L _ w6 (unhide Q6)).mono ?_
  intro e w' hh
  rw [hh.1, ← hh.2]
  clear hh
  go_wp2
  rw [rounds_succ]
  have t_ : w6.cell? ⟨t, 0, none⟩ = some (.pointer (some ⟨r, 0, none⟩)) := (blk_cell (unhide I6).2.2.2.1 0).trans rfl
  go_wp2_with fail
  refine (errAt r ad c L _ w6 (unhide Q6)).mono ?_
  intro e w' hh
  rw [hh.1, ← hh.2]
  clear hh
  go_wp2
  clear t_
  have T8 : Hid (w6.drew.heap[t]? = some (.cells #[.pointer (some ⟨r, 0, none⟩)] 100 (0, 0))) := (unhide I6).2.2.2.1
  have I8 : Hid (WI w w6.drew p q t r 4 (some ad) N c (wcl 4 4 { data := #[] } nl nl 0 0 0 nl nl 0 (z8 32))) := (unhide I6).below (below_drew (Below.refl _ _))
  have Q8 := hide ((unhide Q6).below (below_drew (Below.refl _ _)))
  have HS := hide hs
  have HOK := hide hok
  have HTW := hide hw
  clear I6 Q6 hs hok hw
  refine start_ (n := 10) (S := fun w' => w'.heap[t]? = some (.cells #[.pointer (some ⟨r, 0, none⟩)] 100 (0, 0))) (ds := [9]) (bt 10 0) (by kernel_rfl) rfl (by kernel_rfl) (unhide T8) (fun hHeld => ?_)
  refine with_tabW tabT9_47 bitsT9_47 (fun HT_ HW_ => ?_)
  refine take_ (i := 0) (N := some 144) (v := ?_) (a' := ?_) (bt 10 1) rfl rfl (take_ofW HT_.out HW_.out (by kernel_rfl)) (fun _ _ _ h => h) (Or.inl ⟨by rfl, ?_⟩) hHeld ?_ ?_
  rotate_left
  · rintro w' h2_
    have t_ := (blk_cell h2_ 0).trans rfl
    go_simp
    with_reducible rfl
  rotate_left
  · simp only [Act.put, List.setIfInBounds_toArray, List.set_cons_zero, List.set_cons_succ, i64_w, i32_w]
    rfl
  refine take_ (i := 2) (N := some 146) (v := ?_) (a' := ?_) (bt 10 5) rfl rfl (take_ofW HT_.out HW_.out (by kernel_rfl)) (fun _ _ _ h => h) (Or.inl ⟨by rfl, ?_⟩) hHeld ?_ ?_
  rotate_left
  · rintro w' h2_
    have t_ := (blk_cell h2_ 0).trans rfl
    go_simp
    with_reducible rfl
  rotate_left
  · simp only [Act.put, List.setIfInBounds_toArray, List.set_cons_zero, List.set_cons_succ, i64_w, i32_w]
    rfl
  refine one_ (i := 1) (N := some 145) (bt 10 7) rfl rfl (one_of HT_.out (by kernel_rfl)) (by decide) (fun K hK => ?_)
  refine goes_ Tryd.func33 (by kernel_rfl) rfl #[.pointer (some ⟨r, 0, none⟩)] (by rfl) rfl rfl (by (try simp only [List.map_toArray, List.map_cons, List.map_nil]); first | done | rfl) ?_
  refine (num_at r w.heap.size ad c 32 L (sm ++ dtB us) _ (unhide Q8) (Kd.C_below (unhide HC) (unhide I8).2.2.2.2.1) (by decide) (unhide HLN) ((unhide HNE) r (unhide HRW)) (unhide HRW)).mono ?_
  rintro e w9 ⟨rfl, hr9, hb9, hk9⟩
  refine ⟨_, rfl, ?_⟩
  have I9 := hide ((unhide I8).rd hb9 hk9)
  have Q9 := hide hr9
  clear hr9 hb9 hk9
  clear hHeld
  refine hK.out _ _ ((unhide I9).2.2.2.1) (fun hHeld => ?_)
  clear hK K
  refine norm_ (a' := ?_) ?_ ?_
  rotate_left
  · show Act.put _ (some 145) _ = _
    simp only [Act.put, List.setIfInBounds_toArray, List.set_cons_zero, List.set_cons_succ, i64_w, i32_w]
    rfl
  refine run_ [(4, 148), (5, 149)] ?_
  iterate 2 ((first | refine sp_ (v := ?_) (a' := ?_) HT_.out rfl rfl rfl (by kernel_rfl) (fun _ _ _ h => h) ?_ ?_ ?_ | refine sg_ (v := ?_) (a' := ?_) HT_.out rfl rfl (by kernel_rfl) (fun _ _ _ h => h) (by rfl) ?_ ?_ ?_); rotate_left; (· intro w'; go_simp; with_reducible rfl); rotate_left; (· simp only [Act.put, List.setIfInBounds_toArray, List.set_cons_zero, List.set_cons_succ, i64_w, i32_w]; rfl))
  refine rend_ ?_
  refine one_ (i := 3) (N := some 147) (bt 10 63) rfl rfl (one_of HT_.out (by kernel_rfl)) (by decide) (fun K hK => ?_)
  refine goes_ Tryd.func36 (by kernel_rfl) rfl #[.pointer (some ⟨r, 0, none⟩)] (by rfl) rfl rfl (by (try simp only [List.map_toArray, List.map_cons, List.map_nil]); first | done | rfl) ?_
  refine (sum_at r w.heap.size ad c L sm (dtB us) _ (unhide Q9) (Kd.C_below (unhide HC) (unhide I9).2.2.2.2.1) (unhide HS) (unhide HLN) (unhide HCC) ((unhide HNE) r (unhide HRW)) (unhide HRW)).mono ?_
  rintro e w10 ⟨rfl, hr10, hb10, hk10⟩
  refine ⟨_, rfl, ?_⟩
  have I10 := hide ((unhide I9).rd hb10 hk10)
  have Q10 := hide hr10
  clear hr10 hb10 hk10
  clear hHeld
  refine hK.out _ _ ((unhide I10).2.2.2.1) (fun hHeld => ?_)
  clear hK K
  refine norm_ (a' := ?_) ?_ ?_
  rotate_left
  · show Act.put _ (some 147) _ = _
    simp only [Act.put, List.setIfInBounds_toArray, List.set_cons_zero, List.set_cons_succ, i64_w, i32_w]
    rfl
  refine one_ (i := 6) (N := none) (bt 10 127) rfl rfl (one_of HT_.out (by kernel_rfl)) (by decide) (fun K hK => ?_)
  have c58_ := cell_wcl (unhide I10).2.2.1 58 rfl
  have z58_ : w10.frozen? ⟨q, 58, none⟩ = false := blk_frozen (unhide I10).2.2.1 58
  refine skip_ (w1 := w10.setCell ⟨q, 58, none⟩ (.int .i64 32)) (wanted_none rfl) rfl ?hrun ?_
  case hrun =>
    go_simp
  clear c58_ z58_
  have I11 : Hid (WI w (w10.setCell ⟨q, 58, none⟩ (.int .i64 32)) p q t r 4 (some ad) N c (wcl 4 4 { data := #[] } nl nl 0 0 0 nl nl 32 (z8 32))) := (unhide I10).put 58 _
  have Q11 := hide ((unhide Q10).far (p := ⟨q, 58, none⟩) (by have h := (unhide I10).2.2.2.2.2; show r ≠ q; omega) (.int .i64 32))
  clear I10 Q10
  generalize w10.setCell ⟨q, 58, none⟩ (.int .i64 32) = w11 at I11 Q11 ⊢
  clear hHeld
  refine hK.out _ _ (unhide I11).2.2.2.1 (fun hHeld => ?_)
  clear hK K
  refine run_ [(7, 150), (8, 151)] ?_
  iterate 2 ((first | refine sp_ (v := ?_) (a' := ?_) HT_.out rfl rfl rfl (by kernel_rfl) (fun _ _ _ h => h) ?_ ?_ ?_ | refine sg_ (v := ?_) (a' := ?_) HT_.out rfl rfl (by kernel_rfl) (fun _ _ _ h => h) (by rfl) ?_ ?_ ?_); rotate_left; (· intro w'; go_simp; with_reducible rfl); rotate_left; (· simp only [Act.put, List.setIfInBounds_toArray, List.set_cons_zero, List.set_cons_succ, i64_w, i32_w]; rfl))
  refine rend_ ?_
  refine last_ (i := 9) (N := none) (bt 10 1023) rfl rfl (one_of HT_.out (by kernel_rfl)) (by decide) (fun K hK => ?_)
  refine skip_ (w1 := w11.setCells q 59 (bys sm).toList) (wanted_none rfl) rfl ?hrun ?_
  case hrun =>
    exact exec_store_mid 28 (.tmp 151) (.tmp 147) _ _ w11 rfl q 59 (bys sm) rfl rfl ((unhide I11).there rfl 59 _ (by rw [bys_size, unhide HS]; decide)) (by rw [bys_size, unhide HS]; exact size28) (bys_one sm)
  refine hK.out _ _ ?_
  clear hK K
  refine done_ (done_of HT_.out (by kernel_rfl)) ?_
  clear HT_ HW_; (try clear hHeld)
  have I12 : Hid (WI w (w11.setCells q 59 (bys sm).toList) p q t r 4 (some ad) N c (wcl 4 4 { data := #[] } nl nl 0 0 0 nl nl 32 (sm.map (Value.int .u8)))) := by
    have h := (unhide I11).puts (bys sm).toList 59
    have e : (bys sm).toList = sm.map (Value.int .u8) := rfl
    rw [e, setL_sum 4 4 _ _ _ _ _ _ _ _ _ sm (unhide HS)] at h
    exact h
  have Q12 := hide (RdAt_fars (q := q) (by have h := (unhide I11).2.2.2.2.2; omega) (bys sm).toList 59 (unhide Q11))
  clear I11 Q11 T8
  have c58_ := cell_wcl (unhide I12).2.2.1 58 rfl
  generalize w11.setCells q 59 (bys sm).toList = w12 at I12 Q12 c58_ ⊢
  have t_ : w12.cell? ⟨t, 0, none⟩ = some (.pointer (some ⟨r, 0, none⟩)) := (blk_cell (unhide I12).2.2.2.1 0).trans rfl
  go_wp2_with fail
  refine (errAt r ad c L _ w12 (unhide Q12)).mono ?_
  intro e w' hh
  rw [hh.1, ← hh.2]
  clear hh
  go_wp2_with fail
  refine (rest_ok p t r N c 4 ad L (dtB us) w12 (unhide I12).1 (unhide I12).2.2.2.1 (unhide Q12) (unhide HNL) (unhide HCC)).mono ?_
  rintro e w7 ⟨A1, c1, rfl, hcr, hcl, hb7⟩
  have I7 := hide ((unhide I12).below hb7)
  have hC7 := hcr _ (Kd.C_below (unhide HC) (unhide I7).2.2.2.2.1)
  obtain ⟨ad1, hA1, -⟩ := hC7.2.2 (List.length_pos_iff.2 (by unfold dtB; simp [vnum_ne]))
  subst hA1
  have C7 := hide hC7
  clear hcr hcl hb7 hC7 I12 Q12 t_ c58_
  go_wp2_with fail
  refine (dread_ok ad1 c1 us (dtB us) w7 rfl (unhide C7) (unhide HOK) (unhide HTW)).mono ?_
  rintro e w8 ⟨A8, n8, c8, rfl, hb8⟩
  have I8 := hide ((unhide I7).below hb8)
  clear hb8 I7 C7
  have c57_ := cell_wcl (unhide I8).2.2.1 57 rfl
  have z57_ : w8.frozen? ⟨q, 57, none⟩ = false := blk_frozen (unhide I8).2.2.1 57
  have I10 : Hid (WI w (w8.setCell ⟨q, 57, none⟩ (.slice A8 n8 c8)) p q t r 4 (some ad) N c (wcl 4 4 { data := #[] } nl nl 0 0 0 nl (.slice A8 n8 c8) 32 (sm.map (Value.int .u8)))) := (unhide I8).put 57 _
  obtain ⟨cs, hcs⟩ : ∃ cs, cs = wcl 4 4 { data := #[] } nl nl 0 0 0 nl (.slice A8 n8 c8) 32 (sm.map (Value.int .u8)) := ⟨_, rfl⟩
  have i11 := unhide I10
  rw [← hcs] at i11
  have h91 : cs.length = 91 := by rw [hcs]; simp [wcl, z8, unhide HS]
  have hone : ∀ u ∈ cs, u.oneCell' = true := by rw [hcs]; exact wcl_one _ _ _ _ _ _ _ _ _ _ _ _ _ _ _ _ _ _ _ _ (fun u hu => by obtain ⟨x, _, rfl⟩ := List.mem_map.1 hu; rfl)
  have I11 := hide i11
  have SZ : Hid ((Tryd.prog.info? 38).map (·.size) = some cs.length) := by show _ = _; rw [h91]; exact size38
  have SZA : Hid ((Tryd.prog.info? 38).map (·.size) = some cs.toArray.size) := by show _ = _; rw [List.size_toArray, h91]; exact size38
  have SA : Hid (Tryd.zeroCells38.size = cs.toArray.size) := by show _ = _; rw [zc38, List.size_toArray, h91]
  have rg11 := hide (wcl_range i11.2.2.1 0 cs (by rw [List.drop_zero, List.take_length]))
  have ONE := hide hone
  have HCS := hide hcs
  clear i11 h91 hone hcs
  go_wp2_with (first | (with_reducible refine stop_load 38 (.tmp 6) rfl ?_; refine hide ?_; refine wpList_load_mid rfl 38 (.tmp 6) rfl q 0 rfl cs _ (unhide rg11) Tryd.underlying38 rfl (unhide SZ) ?_) | (with_reducible refine stop_store 38 (.tmp 2) (.tmp 177) rfl ?_))
  refine hide ?_
  refine wpList_store_row rfl 38 (.tmp 2) (.tmp 177) rfl (p + 1) cs.toArray rfl rfl 38 _ (unhide I11).2.1 (unhide SZA) (unhide SA) (all_oneCell_toArray (unhide ONE)) ?_
  go_wp2
  have B12 : Below w.heap.size w ((w8.setCell ⟨q, 57, none⟩ (.slice A8 n8 c8)).setRow (p + 1) cs.toArray) := below_setRow (unhide I11).2.2.2.2.1 (by have h := (unhide I11).2.2.2.2.2.1; show w.heap.size ≤ p + 1; omega) _
  refine bodyPost_ret (v := .tuple #[.agg cs.toArray, .nilIface]) (Go.Proofs.YtgoephcembgmcaaDoor.Tk.results_cell_tmp rfl _ _ (p + 1) 38 _ (0, 0) _ _ rfl rfl (setRow_heap _ _ _ _ 38 _ (unhide I11).2.1) Tryd.underlying38 rfl (unhide SZA)) rfl ⟨A8, n8, c8, by rw [unhide HCS], B12⟩
end Go.Proofs.YtgoephcembgmcaaDoor.Wd
namespace Go.Proofs.YtgoephcembgmcaaDoor.Wd
open Go.RowKit Go.Proofs.YtgoephcembgmcaaDoorW.PrintWords Go.Proofs.YtgoephcembgmcaaDoorW.PrintLast Wk FrM Fr Bl Tk Sh Rg
open WkM (w64 Bytes)

set_option maxHeartbeats 8000000 in
set_option maxRecDepth 100000 in
theorem wread_5 (ys : List Int) (A : Option Addr) (c : Nat) (L : List Int) (w : World) (hL : L = (vnum 5 ++ ys)) (hC : Kd.C (Kd.int .u8) w A L.length L) (hc : L.length ≤ c) (hl : ys.length ≤ 500) :
    Calls Tryd.prog 9 #[.agg #[.int .i64 5, .int .i64 0, .slice A L.length c]] w fun e w' => ∃ (A1 : Option Addr) (c1 : Nat), e = .returned (.tuple #[.agg (wcl 5 5 { data := #[] } nl (.slice A1 ys.length c1) 0 0 0 nl nl 0 (z8 32)).toArray, .nilIface]) ∧ Kd.C (Kd.int .u8) w' A1 ys.length ys ∧ Below w.heap.size w w' := by
  have HL := hide hL
  have HC := hide hC
  have HCC := hide hc
  obtain ⟨N, hN⟩ : ∃ N, N = L.length := ⟨_, rfl⟩
  have HNL := hide hN
  rw [← hN]
  clear hL hC hc hN
  obtain ⟨p, hp⟩ : ∃ p, p = w.heap.size := ⟨_, rfl⟩
  have F1 : Frm ((w.alloc (.cells #[.int .i64 5, .int .i64 0, .slice A N c] 51)).alloc (.cells Tryd.zeroCells38 38)) p 5 0 (.slice A N c) := by rw [hp]; exact blk_alloc (blk_new _ _) _
  have G1 : ((w.alloc (.cells #[.int .i64 5, .int .i64 0, .slice A N c] 51)).alloc (.cells Tryd.zeroCells38 38)).heap[p + 1]? = some (.cells Tryd.zeroCells38 38 (0, 0)) := by
    have h := blk_new (w.alloc (.cells #[.int .i64 5, .int .i64 0, .slice A N c] 51)) (.cells (wz 0).toArray 38)
    rw [World.size_alloc, ← hp] at h
    exact h
  have B1 : Below w.heap.size w ((w.alloc (.cells #[.int .i64 5, .int .i64 0, .slice A N c] 51)).alloc (.cells Tryd.zeroCells38 38)) := below_alloc (below_alloc (Below.refl _ _) _) _
  go_enter Tryd.func9, Tryd.ntmps9
  go_wp2_with fail
  refine (shape_5 _).mono ?_
  intro e w' hh
  rw [hh.1, hh.2]
  clear hh
  try rw [← hp]
  generalize (w.alloc (.cells #[.int .i64 5, .int .i64 0, .slice A N c] 51)).alloc (.cells Tryd.zeroCells38 38) = w1 at F1 G1 B1 ⊢
  have HWP : Hid (w.heap.size ≤ p) := by show _ ≤ _; omega
  have hq : w.heap.size + 1 = p + 1 := by rw [hp]
  try rw [hq]
  clear hp hq
  obtain ⟨⟨_, _, _⟩, ⟨_, _, _⟩, _⟩ := F1.cells
  have F1 := hide F1
  have G1 := hide G1
  have B1 := hide B1
  have f2 : Frm (w1.alloc (.cells (wz 5).toArray 38)) p 5 0 (.slice A N c) := blk_alloc (unhide F1) _
  obtain ⟨⟨_, _, _⟩, ⟨_, _, _⟩, _⟩ := f2.cells
  have SZ : Hid ((Tryd.prog.info? 38).map (·.size) = some (wz 5).toArray.size) := size38
  have SA : Hid (Tryd.zeroCells38.size = (wz 5).toArray.size) := by show _ = _; kernel_rfl
  have ONE : Hid (∀ u ∈ wz 5, u.oneCell' = true) := by show ∀ u ∈ wz 5, _; decide
  go_wp2_with (first | refine wpList_build_is rfl 38 _ rfl (wz 5).toArray built38_5 ?_ | (refine wpList_store_row rfl 38 (.tmp 6) (.tmp 39) rfl w1.heap.size (wz 5).toArray rfl rfl 38 _ (blk_new w1 _) (unhide SZ) (unhide SA) (all_oneCell_toArray (unhide ONE)) ?_; rw [World.setRow_alloc_new]))
  obtain ⟨q, hq⟩ : ∃ q, q = w1.heap.size := ⟨_, rfl⟩
  have hpq : p + 1 < q := by have := blk_lt (unhide G1); omega
  have F2 : Frm (w1.alloc (.cells (wz 5).toArray 38)) p 5 0 (.slice A N c) := blk_alloc (unhide F1) _
  have G2 : (w1.alloc (.cells (wz 5).toArray 38)).heap[p + 1]? = some (.cells Tryd.zeroCells38 38 (0, 0)) := blk_alloc (unhide G1) _
  have W2 : (w1.alloc (.cells (wz 5).toArray 38)).heap[q]? = some (.cells (wz 5).toArray 38 (0, 0)) := by rw [hq]; exact blk_new _ _
  have B2 := below_alloc (unhide B1) (.cells (wz 5).toArray 38)
  try rw [← hq]
  generalize w1.alloc (.cells (wz 5).toArray 38) = w2 at F2 G2 W2 B2 ⊢
  clear hq f2
  refine (read_any A N c w2).mono ?_
  rintro e w3 ⟨rfl, hr3, hb3⟩
  obtain ⟨r, hr⟩ : ∃ r, r = w2.heap.size := ⟨_, rfl⟩
  obtain ⟨t, ht⟩ : ∃ t, t = w3.heap.size := ⟨_, rfl⟩
  have hqr : q < r := by have := blk_lt W2; omega
  rw [← hr] at hr3 ⊢
  have hrt : r < t := by have := blk_lt hr3; omega
  have I4 : Hid (WI w (w3.alloc (.cells #[.pointer (some ⟨r, 0, none⟩)] 100)) p q t r 5 A N c (wz 5)) := ⟨blk_alloc (blk_below F2 hb3) _, blk_alloc (blk_below G2 hb3) _, blk_alloc (blk_below W2 hb3) _, by rw [ht]; exact blk_new _ _, below_alloc (below_step B2 hb3) _, unhide HWP, hpq, hqr, hrt⟩
  have R4 : Hid (Rdr (w3.alloc (.cells #[.pointer (some ⟨r, 0, none⟩)] 100)) r (.slice A N c) 0) := blk_alloc hr3 _
  clear F1 G1 B1 F2 G2 W2 B2 hr3 hb3 hr hpq hqr hrt SZ SA ONE
  go_wp2
  try rw [← ht]
  generalize w3.alloc (.cells #[.pointer (some ⟨r, 0, none⟩)] 100) = w4 at I4 R4 ⊢
  clear ht
  have HLN : Hid (L.length ≤ 1000000) := by
    show L.length ≤ _
    rw [unhide HL]
    have := vnum_len 5 5 (by decide); rw [List.length_append]; omega
  have hl0 : 0 < L.length := by rw [unhide HL]; exact List.length_pos_iff.2 (by simp [vnum_ne])
  obtain ⟨ad, hA, -⟩ := (unhide HC).2.2 hl0
  subst hA
  have HNE : Hid (∀ j, w.heap.size ≤ j → ad.block ≠ j) := fun j hj => Kd.far_C 0 (unhide HC) hj ad rfl hl0
  have HRW : Hid (w.heap.size ≤ r) := by have h := (unhide I4).2.2.2.2.2; show _ ≤ _; omega
  have Q4 : Hid (RdAt w4 r ad c L (vnum 5 ++ ys)) := ⟨0, by rw [← unhide HNL]; exact unhide R4, (unhide HL), Nat.zero_le _⟩
  clear hl0 R4
  have t_ : w4.cell? ⟨t, 0, none⟩ = some (.pointer (some ⟨r, 0, none⟩)) := (blk_cell (unhide I4).2.2.2.1 0).trans rfl
  refine wp_loop_rounds 3 ?_
  rw [rounds_succ]
  go_wp2_with fail
  clear t_
  refine (num_at r w.heap.size ad c 5 L ys w4 (unhide Q4) (Kd.C_below (unhide HC) (unhide I4).2.2.2.2.1) (by decide) (unhide HLN) ((unhide HNE) r (unhide HRW)) (unhide HRW)).mono ?_
  rintro e w5 ⟨rfl, hr5, hb5, hk5⟩
  have I5 := hide ((unhide I4).rd hb5 hk5)
  have Q5 := hide hr5
  clear hr5 hb5 hk5 I4 Q4
  have t_ : w5.cell? ⟨t, 0, none⟩ = some (.pointer (some ⟨r, 0, none⟩)) := (blk_cell (unhide I5).2.2.2.1 0).trans rfl
  have c1_ := cell_wcl (unhide I5).2.2.1 1 rfl
  have z1_ : w5.frozen? ⟨q, 1, none⟩ = false := blk_frozen (unhide I5).2.2.1 1
  have i6 := (unhide I5).put 1 (.int .i64 5)
  have q6 := (unhide Q5).far (p := ⟨q, 1, none⟩) (by have h := (unhide I5).2.2.2.2.2; show r ≠ q; omega) (.int .i64 5)
  have t6_ := (blk_cell i6.2.2.2.1 0).trans rfl
  go_wp2_with fail
  clear t6_ t_ c1_ z1_
  generalize w5.setCell ⟨q, 1, none⟩ (.int .i64 5) = w6 at i6 q6 ⊢
  have I6 : Hid (WI w w6 p q t r 5 (some ad) N c (wcl 5 5 { data := #[] } nl nl 0 0 0 nl nl 0 (z8 32))) := i6
  have Q6 := hide q6
  clear i6 q6 I5 Q5
  refine (errAt r ad c L _ w6 (unhide Q6)).mono ?_
  intro e w' hh
  rw [hh.1, ← hh.2]
  clear hh
  go_wp2
  rw [rounds_succ]
  have t_ : w6.cell? ⟨t, 0, none⟩ = some (.pointer (some ⟨r, 0, none⟩)) := (blk_cell (unhide I6).2.2.2.1 0).trans rfl
  go_wp2_with fail
  refine (errAt r ad c L _ w6 (unhide Q6)).mono ?_
  intro e w' hh
  rw [hh.1, ← hh.2]
  clear hh
  go_wp2_with fail
  obtain ⟨e7, he7⟩ : ∃ z, z = w6.heap.size := ⟨_, rfl⟩
  have i7 := (unhide I6).below (below_alloc (Below.refl _ _) (.cells #[] 5))
  have q7 := (unhide Q6).alloc (.cells #[] 5)
  have o7 := own_empty w6 w.heap.size (unhide I6).2.2.2.2.1.size
  rw [← he7] at o7
  try rw [← he7]
  generalize w6.alloc (.cells #[] 5) = w7 at i7 q7 o7 ⊢
  clear he7 I6 Q6 t_
  refine (rest_ok p t r N c 5 ad L ys w7 i7.1 i7.2.2.2.1 q7 (unhide HNL) (unhide HCC)).mono ?_
  rintro e w8 ⟨A1, c1, rfl, hcr, hcl, hb8⟩
  have I8 := hide (i7.below hb8)
  have O8 := hide (Kd.R_below o7 hb8)
  obtain ⟨yl, hyl⟩ : ∃ yl, yl = ys.length := ⟨_, rfl⟩
  have C8 : Hid (Kd.C (Kd.int .u8) w8 A1 yl ys) := by show Kd.C _ _ _ _ _; rw [hyl]; exact hcr _ (Kd.C_below (unhide HC) (unhide I8).2.2.2.2.1)
  have hyl5 : yl ≤ 500 := by rw [hyl]; exact hl
  rw [← hyl]
  have HYL := hide hyl
  have HY5 := hide hyl5
  clear hcr hcl hb8 i7 q7 o7 hyl hyl5
  go_wp2_with (at_builtin; refine unhide ?_)
  refine hide ?_
  refine Kd.R_append_row (w0 := w) (Value.int .u8) (0 : Int) w.heap.size rfl (.tmp 121) (.tmp 123) 22 5 (.int .u8 0) 1 rfl Tryd.underlying22 info5 rfl (by decide) (.slice (some ⟨e7, 0, none⟩) 0 0) [] ys A1 yl c1 (fun _ => True) rfl rfl (fun _ _ => trivial) (unhide O8) (unhide C8) (unhide I8).2.2.2.2.1 (unhide I8).2.2.2.2.1.size (by have := unhide HY5; simp only [List.length_nil]; omega) ?_
  intro v9 w9 hR9 hB9 hg9 hat9
  rw [List.nil_append] at hR9
  obtain ⟨A9, c9, rfl⟩ := Kd.R_slice hR9
  rw [← unhide HYL] at hR9
  have I9 := hide ((unhide I8).grown (unhide O8) hg9 hB9)
  have O9 := hide hR9
  clear hR9 hB9 hg9 hat9 I8 O8 C8
  rw [← unhide HYL]
  have c52_ := cell_wcl (unhide I9).2.2.1 52 rfl
  have z52_ : w9.frozen? ⟨q, 52, none⟩ = false := blk_frozen (unhide I9).2.2.1 52
  have I10 : Hid (WI w (w9.setCell ⟨q, 52, none⟩ (.slice A9 yl c9)) p q t r 5 (some ad) N c (wcl 5 5 { data := #[] } nl (.slice A9 yl c9) 0 0 0 nl nl 0 (z8 32))) := (unhide I9).put 52 _
  have O10 := hide (Kd.R_set (unhide O9) (unhide I9).2.2.1 own5_38 52 (.slice A9 yl c9))
  obtain ⟨cs, hcs⟩ : ∃ cs, cs = wcl 5 5 { data := #[] } nl (.slice A9 yl c9) 0 0 0 nl nl 0 (z8 32) := ⟨_, rfl⟩
  have i11 := unhide I10
  rw [← hcs] at i11
  have h91 : cs.length = 91 := by rw [hcs]; rfl
  have hone : ∀ u ∈ cs, u.oneCell' = true := by rw [hcs]; exact wcl_one _ _ _ _ _ _ _ _ _ _ _ _ _ _ _ _ _ _ _ _ z8_one
  have I11 := hide i11
  have SZ : Hid ((Tryd.prog.info? 38).map (·.size) = some cs.length) := by show _ = _; rw [h91]; exact size38
  have SZA : Hid ((Tryd.prog.info? 38).map (·.size) = some cs.toArray.size) := by show _ = _; rw [List.size_toArray, h91]; exact size38
  have SA : Hid (Tryd.zeroCells38.size = cs.toArray.size) := by show _ = _; rw [zc38, List.size_toArray, h91]
  have rg11 := hide (wcl_range i11.2.2.1 0 cs (by rw [List.drop_zero, List.take_length]))
  have ONE := hide hone
  have HCS := hide hcs
  clear i11 h91 hone hcs
  go_wp2_with (first | refine wpList_load_mid rfl 38 (.tmp 6) rfl q 0 rfl cs _ (unhide rg11) Tryd.underlying38 rfl (unhide SZ) ?_ | refine wpList_store_row rfl 38 (.tmp 2) (.tmp 126) rfl (p + 1) cs.toArray rfl rfl 38 _ (unhide I11).2.1 (unhide SZA) (unhide SA) (all_oneCell_toArray (unhide ONE)) ?_)
  have B12 : Below w.heap.size w ((w9.setCell ⟨q, 52, none⟩ (.slice A9 yl c9)).setRow (p + 1) cs.toArray) := below_setRow (unhide I11).2.2.2.2.1 (by have h := (unhide I11).2.2.2.2.2.1; show w.heap.size ≤ p + 1; omega) _
  have O12 := R_row (unhide O10) (unhide I11).2.1 own5_38 cs.toArray
  refine bodyPost_ret (v := .tuple #[.agg cs.toArray, .nilIface]) (Go.Proofs.YtgoephcembgmcaaDoor.Tk.results_cell_tmp rfl _ _ (p + 1) 38 _ (0, 0) _ _ rfl rfl (setRow_heap _ _ _ _ 38 _ (unhide I11).2.1) Tryd.underlying38 rfl (unhide SZA)) rfl ⟨A9, c9, by rw [unhide HCS, unhide HYL], (Kd.R_reads' O12).2.2, B12⟩
end Go.Proofs.YtgoephcembgmcaaDoor.Wd
namespace Go.Proofs.YtgoephcembgmcaaDoor.Wd
open Go.RowKit Go.Proofs.YtgoephcembgmcaaDoorW.PrintWords Go.Proofs.YtgoephcembgmcaaDoorW.PrintLast Wk FrM Fr Bl Tk Sh Rg
open WkM (w64 Bytes)

set_option maxHeartbeats 8000000 in
set_option maxRecDepth 100000 in
theorem wread_7 (name : ByteArray) (A : Option Addr) (c : Nat) (L : List Int) (w : World) (hL : L = (vnum name.size ++ bytesOf name)) (hC : Kd.C (Kd.int .u8) w A L.length L) (hc : L.length ≤ c) (hl : name.size ≤ 200) :
    Calls Tryd.prog 9 #[.agg #[.int .i64 7, .int .i64 0, .slice A L.length c]] w fun e w' => e = .returned (.tuple #[.agg (wcl 7 0 name nl nl 0 0 0 nl nl 0 (z8 32)).toArray, .nilIface]) ∧ Below w.heap.size w w' := by
  have HL := hide hL
  have HC := hide hC
  have HCC := hide hc
  obtain ⟨N, hN⟩ : ∃ N, N = L.length := ⟨_, rfl⟩
  have HNL := hide hN
  rw [← hN]
  clear hL hC hc hN
  obtain ⟨p, hp⟩ : ∃ p, p = w.heap.size := ⟨_, rfl⟩
  have F1 : Frm ((w.alloc (.cells #[.int .i64 7, .int .i64 0, .slice A N c] 51)).alloc (.cells Tryd.zeroCells38 38)) p 7 0 (.slice A N c) := by rw [hp]; exact blk_alloc (blk_new _ _) _
  have G1 : ((w.alloc (.cells #[.int .i64 7, .int .i64 0, .slice A N c] 51)).alloc (.cells Tryd.zeroCells38 38)).heap[p + 1]? = some (.cells Tryd.zeroCells38 38 (0, 0)) := by
    have h := blk_new (w.alloc (.cells #[.int .i64 7, .int .i64 0, .slice A N c] 51)) (.cells (wz 0).toArray 38)
    rw [World.size_alloc, ← hp] at h
    exact h
  have B1 : Below w.heap.size w ((w.alloc (.cells #[.int .i64 7, .int .i64 0, .slice A N c] 51)).alloc (.cells Tryd.zeroCells38 38)) := below_alloc (below_alloc (Below.refl _ _) _) _
  go_enter Tryd.func9, Tryd.ntmps9
  go_wp2_with fail
  refine (shape_7 _).mono ?_
  intro e w' hh
  rw [hh.1, hh.2]
  clear hh
  try rw [← hp]
  generalize (w.alloc (.cells #[.int .i64 7, .int .i64 0, .slice A N c] 51)).alloc (.cells Tryd.zeroCells38 38) = w1 at F1 G1 B1 ⊢
  have HWP : Hid (w.heap.size ≤ p) := by show _ ≤ _; omega
  have hq : w.heap.size + 1 = p + 1 := by rw [hp]
  try rw [hq]
  clear hp hq
  obtain ⟨⟨_, _, _⟩, ⟨_, _, _⟩, _⟩ := F1.cells
  have F1 := hide F1
  have G1 := hide G1
  have B1 := hide B1
  have f2 : Frm (w1.alloc (.cells (wz 7).toArray 38)) p 7 0 (.slice A N c) := blk_alloc (unhide F1) _
  obtain ⟨⟨_, _, _⟩, ⟨_, _, _⟩, _⟩ := f2.cells
  have SZ : Hid ((Tryd.prog.info? 38).map (·.size) = some (wz 7).toArray.size) := size38
  have SA : Hid (Tryd.zeroCells38.size = (wz 7).toArray.size) := by show _ = _; kernel_rfl
  have ONE : Hid (∀ u ∈ wz 7, u.oneCell' = true) := by show ∀ u ∈ wz 7, _; decide
  go_wp2_with (first | refine wpList_build_is rfl 38 _ rfl (wz 7).toArray built38_7 ?_ | (refine wpList_store_row rfl 38 (.tmp 6) (.tmp 39) rfl w1.heap.size (wz 7).toArray rfl rfl 38 _ (blk_new w1 _) (unhide SZ) (unhide SA) (all_oneCell_toArray (unhide ONE)) ?_; rw [World.setRow_alloc_new]))
  obtain ⟨q, hq⟩ : ∃ q, q = w1.heap.size := ⟨_, rfl⟩
  have hpq : p + 1 < q := by have := blk_lt (unhide G1); omega
  have F2 : Frm (w1.alloc (.cells (wz 7).toArray 38)) p 7 0 (.slice A N c) := blk_alloc (unhide F1) _
  have G2 : (w1.alloc (.cells (wz 7).toArray 38)).heap[p + 1]? = some (.cells Tryd.zeroCells38 38 (0, 0)) := blk_alloc (unhide G1) _
  have W2 : (w1.alloc (.cells (wz 7).toArray 38)).heap[q]? = some (.cells (wz 7).toArray 38 (0, 0)) := by rw [hq]; exact blk_new _ _
  have B2 := below_alloc (unhide B1) (.cells (wz 7).toArray 38)
  try rw [← hq]
  generalize w1.alloc (.cells (wz 7).toArray 38) = w2 at F2 G2 W2 B2 ⊢
  clear hq f2
  refine (read_any A N c w2).mono ?_
  rintro e w3 ⟨rfl, hr3, hb3⟩
  obtain ⟨r, hr⟩ : ∃ r, r = w2.heap.size := ⟨_, rfl⟩
  obtain ⟨t, ht⟩ : ∃ t, t = w3.heap.size := ⟨_, rfl⟩
  have hqr : q < r := by have := blk_lt W2; omega
  rw [← hr] at hr3 ⊢
  have hrt : r < t := by have := blk_lt hr3; omega
  have I4 : Hid (WI w (w3.alloc (.cells #[.pointer (some ⟨r, 0, none⟩)] 100)) p q t r 7 A N c (wz 7)) := ⟨blk_alloc (blk_below F2 hb3) _, blk_alloc (blk_below G2 hb3) _, blk_alloc (blk_below W2 hb3) _, by rw [ht]; exact blk_new _ _, below_alloc (below_step B2 hb3) _, unhide HWP, hpq, hqr, hrt⟩
  have R4 : Hid (Rdr (w3.alloc (.cells #[.pointer (some ⟨r, 0, none⟩)] 100)) r (.slice A N c) 0) := blk_alloc hr3 _
  clear F1 G1 B1 F2 G2 W2 B2 hr3 hb3 hr hpq hqr hrt SZ SA ONE
  go_wp2
  try rw [← ht]
  generalize w3.alloc (.cells #[.pointer (some ⟨r, 0, none⟩)] 100) = w4 at I4 R4 ⊢
  clear ht
  have HLN : Hid (L.length ≤ 1000000) := by
    show L.length ≤ _
    rw [unhide HL]
    have := vnum_len 5 name.size (by omega); rw [List.length_append, bytesOf_length]; omega
  have hl0 : 0 < L.length := by rw [unhide HL]; exact List.length_pos_iff.2 (by simp [vnum_ne])
  obtain ⟨ad, hA, -⟩ := (unhide HC).2.2 hl0
  subst hA
  have HNE : Hid (∀ j, w.heap.size ≤ j → ad.block ≠ j) := fun j hj => Kd.far_C 0 (unhide HC) hj ad rfl hl0
  have HRW : Hid (w.heap.size ≤ r) := by have h := (unhide I4).2.2.2.2.2; show _ ≤ _; omega
  have Q4 : Hid (RdAt w4 r ad c L (vnum name.size ++ bytesOf name)) := ⟨0, by rw [← unhide HNL]; exact unhide R4, (unhide HL), Nat.zero_le _⟩
  clear hl0 R4
  have t_ : w4.cell? ⟨t, 0, none⟩ = some (.pointer (some ⟨r, 0, none⟩)) := (blk_cell (unhide I4).2.2.2.1 0).trans rfl
  have c2_ := cell_wcl (unhide I4).2.2.1 2 rfl
  have z2_ : w4.frozen? ⟨q, 2, none⟩ = false := blk_frozen (unhide I4).2.2.1 2
  refine wp_loop_rounds 2 ?_
  rw [rounds_succ]
  go_wp2_with fail
  clear c2_ z2_
  refine (text_at r w.heap.size ad c L (bytesOf name) [] w4 (by rw [bytesOf_length, List.append_nil]; exact unhide Q4) (Kd.C_below (unhide HC) (unhide I4).2.2.2.2.1) (by rw [bytesOf_length]; omega) (unhide HLN) (unhide HCC) ((unhide HNE) r (unhide HRW)) (unhide HRW)).mono ?_
  rintro e w5 ⟨A5, c5, rfl, hO5, hr5, hb5, hk5⟩
  have I5 := hide ((unhide I4).rd hb5 hk5)
  have Q5 := hide hr5
  have hcv : (convert 22 9 (.slice A5 (bytesOf name).length c5)).run Tryd.prog w5 = .ok (.string (strOfNums (bytesOf name))) w5 := Kd.C_string Tryd.underlying22 Tryd.underlying5 Tryd.underlying9 (Kd.R_reads' hO5).2.2
  rw [str_bytesOf] at hcv
  clear hO5 hr5 hb5 hk5 I4 Q4 t_
  have t_ : w5.cell? ⟨t, 0, none⟩ = some (.pointer (some ⟨r, 0, none⟩)) := (blk_cell (unhide I5).2.2.2.1 0).trans rfl
  have c2_ := cell_wcl (unhide I5).2.2.1 2 rfl
  have z2_ : w5.frozen? ⟨q, 2, none⟩ = false := blk_frozen (unhide I5).2.2.1 2
  have i6 := (unhide I5).put 2 (.string name)
  have q6 := (unhide Q5).far (p := ⟨q, 2, none⟩) (by have h := (unhide I5).2.2.2.2.2; show r ≠ q; omega) (.string name)
  have t6_ := (blk_cell i6.2.2.2.1 0).trans rfl
  have I6_ := hide i6
  have Q6_ := hide q6
  clear i6 q6
  go_wp2_with fail
  have i6 := unhide I6_
  have q6 := unhide Q6_
  clear t6_ t_ c2_ z2_ hcv I6_ Q6_
  generalize w5.setCell ⟨q, 2, none⟩ (.string name) = w6 at i6 q6 ⊢
  have I6 : Hid (WI w w6 p q t r 7 (some ad) N c (wcl 7 0 name nl nl 0 0 0 nl nl 0 (z8 32))) := i6
  have Q6 := hide q6
  clear i6 q6 I5 Q5
  refine (errAt r ad c L _ w6 (unhide Q6)).mono ?_
  intro e w' hh
  rw [hh.1, ← hh.2]
  clear hh
  go_wp2
  rw [rounds_succ]
  have t_ : w6.cell? ⟨t, 0, none⟩ = some (.pointer (some ⟨r, 0, none⟩)) := (blk_cell (unhide I6).2.2.2.1 0).trans rfl
  go_wp2_with fail
  refine (endAt r ad c L w6 (unhide Q6)).mono ?_
  rintro e w7 ⟨rfl, hb7⟩
  have I7 := hide ((unhide I6).below hb7)
  clear hb7 I6 Q6 t_
  obtain ⟨cs, hcs⟩ : ∃ cs, cs = wcl 7 0 name nl nl 0 0 0 nl nl 0 (z8 32) := ⟨_, rfl⟩
  have i11 := unhide I7
  rw [← hcs] at i11
  have h91 : cs.length = 91 := by rw [hcs]; rfl
  have hone : ∀ u ∈ cs, u.oneCell' = true := by rw [hcs]; exact wcl_one _ _ _ _ _ _ _ _ _ _ _ _ _ _ _ _ _ _ _ _ z8_one
  have I11 := hide i11
  have SZ : Hid ((Tryd.prog.info? 38).map (·.size) = some cs.length) := by show _ = _; rw [h91]; exact size38
  have SZA : Hid ((Tryd.prog.info? 38).map (·.size) = some cs.toArray.size) := by show _ = _; rw [List.size_toArray, h91]; exact size38
  have SA : Hid (Tryd.zeroCells38.size = cs.toArray.size) := by show _ = _; rw [zc38, List.size_toArray, h91]
  have rg11 := hide (wcl_range i11.2.2.1 0 cs (by rw [List.drop_zero, List.take_length]))
  have ONE := hide hone
  have HCS := hide hcs
  clear i11 h91 hone hcs
  go_wp2_with (first | refine wpList_load_mid rfl 38 (.tmp 6) rfl q 0 rfl cs _ (unhide rg11) Tryd.underlying38 rfl (unhide SZ) ?_ | refine wpList_store_row rfl 38 (.tmp 2) (.tmp 185) rfl (p + 1) cs.toArray rfl rfl 38 _ (unhide I11).2.1 (unhide SZA) (unhide SA) (all_oneCell_toArray (unhide ONE)) ?_)
  have B12 : Below w.heap.size w ((w7).setRow (p + 1) cs.toArray) := below_setRow (unhide I11).2.2.2.2.1 (by have h := (unhide I11).2.2.2.2.2.1; show w.heap.size ≤ p + 1; omega) _
  refine bodyPost_ret (v := .tuple #[.agg cs.toArray, .nilIface]) (Go.Proofs.YtgoephcembgmcaaDoor.Tk.results_cell_tmp rfl _ _ (p + 1) 38 _ (0, 0) _ _ rfl rfl (setRow_heap _ _ _ _ 38 _ (unhide I11).2.1) Tryd.underlying38 rfl (unhide SZA)) rfl ⟨by rw [unhide HCS], B12⟩
end Go.Proofs.YtgoephcembgmcaaDoor.Wd
namespace Go.Proofs.YtgoephcembgmcaaDoor.Wd
open Go.RowKit Go.Proofs.YtgoephcembgmcaaDoorW.PrintWords Go.Proofs.YtgoephcembgmcaaDoorW.PrintLast Wk FrM Fr Bl Tk Sh Rg
open WkM (w64 Bytes)
def T9_24 : Bool × List (List Nat × List Nat) := (true, [([], []), ([0], [0]), ([], []), ([2], [2]), ([3], [3]), ([4], [4]), ([1, 5, 3], [1, 5]), ([0, 1, 2, 3, 4, 5, 6], []), ([7, 6, 6, 0, 1, 2, 3, 4, 5, 6], [6, 7])])
def BT9_24 : List Nat := [0, 1, 0, 4, 12, 28, 63, 127, 255]
theorem tabT9_24 : rtab .any (opsOf Tryd.f9 24) = T9_24 := by kernel_rfl
theorem bitsT9_24 : waitsOk T9_24.2 BT9_24 = true := by kernel_rfl

set_option maxHeartbeats 8000000 in
set_option maxRecDepth 100000 in
theorem wread_3 (ns : List ByteArray) (A : Option Addr) (c : Nat) (L : List Int) (w : World) (hL : L = (vnum ns.length ++ nsB ns)) (hC : Kd.C (Kd.int .u8) w A L.length L) (hc : L.length ≤ c) (hm : ns.length ≤ 10) (hl : ∀ x ∈ ns, x.size ≤ 200) :
    Calls Tryd.prog 9 #[.agg #[.int .i64 3, .int .i64 0, .slice A L.length c]] w fun e w' => ∃ (A1 : Option Addr) (c1 : Nat), e = .returned (.tuple #[.agg (wcl 3 0 { data := #[] } (.slice A1 ns.length c1) nl 0 0 0 nl nl 0 (z8 32)).toArray, .nilIface]) ∧ Below w.heap.size w w' := by
  have HL := hide hL
  have HC := hide hC
  have HCC := hide hc
  obtain ⟨N, hN⟩ : ∃ N, N = L.length := ⟨_, rfl⟩
  have HNL := hide hN
  rw [← hN]
  clear hL hC hc hN
  obtain ⟨p, hp⟩ : ∃ p, p = w.heap.size := ⟨_, rfl⟩
  have F1 : Frm ((w.alloc (.cells #[.int .i64 3, .int .i64 0, .slice A N c] 51)).alloc (.cells Tryd.zeroCells38 38)) p 3 0 (.slice A N c) := by rw [hp]; exact blk_alloc (blk_new _ _) _
  have G1 : ((w.alloc (.cells #[.int .i64 3, .int .i64 0, .slice A N c] 51)).alloc (.cells Tryd.zeroCells38 38)).heap[p + 1]? = some (.cells Tryd.zeroCells38 38 (0, 0)) := by
    have h := blk_new (w.alloc (.cells #[.int .i64 3, .int .i64 0, .slice A N c] 51)) (.cells (wz 0).toArray 38)
    rw [World.size_alloc, ← hp] at h
    exact h
  have B1 : Below w.heap.size w ((w.alloc (.cells #[.int .i64 3, .int .i64 0, .slice A N c] 51)).alloc (.cells Tryd.zeroCells38 38)) := below_alloc (below_alloc (Below.refl _ _) _) _
  go_enter Tryd.func9, Tryd.ntmps9
  go_wp2_with fail
  refine (shape_3 _).mono ?_
  intro e w' hh
  rw [hh.1, hh.2]
  clear hh
  try rw [← hp]
  generalize (w.alloc (.cells #[.int .i64 3, .int .i64 0, .slice A N c] 51)).alloc (.cells Tryd.zeroCells38 38) = w1 at F1 G1 B1 ⊢
  have HWP : Hid (w.heap.size ≤ p) := by show _ ≤ _; omega
  have hq : w.heap.size + 1 = p + 1 := by rw [hp]
  try rw [hq]
  clear hp hq
  obtain ⟨⟨_, _, _⟩, ⟨_, _, _⟩, _⟩ := F1.cells
  have F1 := hide F1
  have G1 := hide G1
  have B1 := hide B1
  have f2 : Frm (w1.alloc (.cells (wz 3).toArray 38)) p 3 0 (.slice A N c) := blk_alloc (unhide F1) _
  obtain ⟨⟨_, _, _⟩, ⟨_, _, _⟩, _⟩ := f2.cells
  have SZ : Hid ((Tryd.prog.info? 38).map (·.size) = some (wz 3).toArray.size) := size38
  have SA : Hid (Tryd.zeroCells38.size = (wz 3).toArray.size) := by show _ = _; kernel_rfl
  have ONE : Hid (∀ u ∈ wz 3, u.oneCell' = true) := by show ∀ u ∈ wz 3, _; decide
  go_wp2_with (first | refine wpList_build_is rfl 38 _ rfl (wz 3).toArray built38_3 ?_ | (refine wpList_store_row rfl 38 (.tmp 6) (.tmp 39) rfl w1.heap.size (wz 3).toArray rfl rfl 38 _ (blk_new w1 _) (unhide SZ) (unhide SA) (all_oneCell_toArray (unhide ONE)) ?_; rw [World.setRow_alloc_new]))
  obtain ⟨q, hq⟩ : ∃ q, q = w1.heap.size := ⟨_, rfl⟩
  have hpq : p + 1 < q := by have := blk_lt (unhide G1); omega
  have F2 : Frm (w1.alloc (.cells (wz 3).toArray 38)) p 3 0 (.slice A N c) := blk_alloc (unhide F1) _
  have G2 : (w1.alloc (.cells (wz 3).toArray 38)).heap[p + 1]? = some (.cells Tryd.zeroCells38 38 (0, 0)) := blk_alloc (unhide G1) _
  have W2 : (w1.alloc (.cells (wz 3).toArray 38)).heap[q]? = some (.cells (wz 3).toArray 38 (0, 0)) := by rw [hq]; exact blk_new _ _
  have B2 := below_alloc (unhide B1) (.cells (wz 3).toArray 38)
  try rw [← hq]
  generalize w1.alloc (.cells (wz 3).toArray 38) = w2 at F2 G2 W2 B2 ⊢
  clear hq f2
  refine (read_any A N c w2).mono ?_
  rintro e w3 ⟨rfl, hr3, hb3⟩
  obtain ⟨r, hr⟩ : ∃ r, r = w2.heap.size := ⟨_, rfl⟩
  obtain ⟨t, ht⟩ : ∃ t, t = w3.heap.size := ⟨_, rfl⟩
  have hqr : q < r := by have := blk_lt W2; omega
  rw [← hr] at hr3 ⊢
  have hrt : r < t := by have := blk_lt hr3; omega
  have I4 : Hid (WI w (w3.alloc (.cells #[.pointer (some ⟨r, 0, none⟩)] 100)) p q t r 3 A N c (wz 3)) := ⟨blk_alloc (blk_below F2 hb3) _, blk_alloc (blk_below G2 hb3) _, blk_alloc (blk_below W2 hb3) _, by rw [ht]; exact blk_new _ _, below_alloc (below_step B2 hb3) _, unhide HWP, hpq, hqr, hrt⟩
  have R4 : Hid (Rdr (w3.alloc (.cells #[.pointer (some ⟨r, 0, none⟩)] 100)) r (.slice A N c) 0) := blk_alloc hr3 _
  clear F1 G1 B1 F2 G2 W2 B2 hr3 hb3 hr hpq hqr hrt SZ SA ONE
  go_wp2
  try rw [← ht]
  generalize w3.alloc (.cells #[.pointer (some ⟨r, 0, none⟩)] 100) = w4 at I4 R4 ⊢
  clear ht
  have HLN : Hid (L.length ≤ 1000000) := by
    show L.length ≤ _
    rw [unhide HL]
    have h1 := nsB_len ns hl ns.length; rw [List.take_length] at h1; have := vnum_len 5 ns.length (by omega); rw [List.length_append]; omega
  have hl0 : 0 < L.length := by rw [unhide HL]; exact List.length_pos_iff.2 (by simp [vnum_ne])
  obtain ⟨ad, hA, -⟩ := (unhide HC).2.2 hl0
  subst hA
  have HNE : Hid (∀ j, w.heap.size ≤ j → ad.block ≠ j) := fun j hj => Kd.far_C 0 (unhide HC) hj ad rfl hl0
  have HRW : Hid (w.heap.size ≤ r) := by have h := (unhide I4).2.2.2.2.2; show _ ≤ _; omega
  have Q4 : Hid (RdAt w4 r ad c L (vnum ns.length ++ nsB ns)) := ⟨0, by rw [← unhide HNL]; exact unhide R4, (unhide HL), Nat.zero_le _⟩
  clear hl0 R4
  obtain ⟨m, hm'⟩ : ∃ m, m = ns.length := ⟨_, rfl⟩
  have hm10 : m ≤ 10 := by rw [hm']; exact hm
  have d1 : ¬ (64 : Int) < (m : Int) := by omega
  have HM := hide hm'
  have HM10 := hide hm10
  have HSN := hide hl
  rw [← hm'] at Q4
  clear hm' hm10 hl hm
  have t_ : w4.cell? ⟨t, 0, none⟩ = some (.pointer (some ⟨r, 0, none⟩)) := (blk_cell (unhide I4).2.2.2.1 0).trans rfl
  refine wp_loop_rounds 2 ?_
  rw [rounds_succ]
  go_wp2_with fail
  clear t_
  refine (num_at r w.heap.size ad c m L (nsB ns) w4 (unhide Q4) (Kd.C_below (unhide HC) (unhide I4).2.2.2.2.1) (by have := unhide HM10; omega) (unhide HLN) ((unhide HNE) r (unhide HRW)) (unhide HRW)).mono ?_
  rintro e w5 ⟨rfl, hr5, hb5, hk5⟩
  have I5 := hide ((unhide I4).rd hb5 hk5)
  have Q5 := hide hr5
  clear hr5 hb5 hk5 I4 Q4
  have t_ : w5.cell? ⟨t, 0, none⟩ = some (.pointer (some ⟨r, 0, none⟩)) := (blk_cell (unhide I5).2.2.2.1 0).trans rfl
  go_wp2_with fail
  refine (errAt r ad c L _ w5 (unhide Q5)).mono ?_
  intro e w' hh
  rw [hh.1, ← hh.2]
  clear hh
  go_wp2
  clear d1 t_
  go_loopg [11] m (fun kq v11 wr => ∃ (i : Nat) (A5 : Option Addr) (c5 : Nat) (xs : List ByteArray), v11 = .int .i64 (i : Int) ∧ Hid (i + kq = m) ∧ Hid (xs.length = i) ∧ Hid (WI w wr p q t r 3 (some ad) N c (wcl 3 0 { data := #[] } (.slice A5 i c5) nl 0 0 0 nl nl 0 (z8 32))) ∧ Hid (RdAt wr r ad c L (nsB (ns.drop i))) ∧ Hid (Kd.string.R 9 wr w.heap.size (fun _ => True) (.slice A5 i c5) xs))
  case atStart => exact ⟨0, none, 0, [], rfl, Nat.zero_add _, rfl, I5, Q5, Kd.R_nil _ _ _ _ _⟩
  case round =>
    obtain ⟨i, A5, c5, xs, rfl, HI, HX, I6, Q6, R6⟩ := hrel
    by_cases hlt : i < m
    · obtain ⟨nm, hnm⟩ : ∃ nm, ns[i]? = some nm := ⟨_, List.getElem?_eq_getElem (by have := unhide HM; omega)⟩
      have hsz := (unhide HSN) nm (List.mem_of_getElem? hnm)
      obtain ⟨rest, hrest⟩ : ∃ z, z = nsB (ns.drop (i + 1)) := ⟨_, rfl⟩
      have q7 : RdAt wr r ad c L (vnum (bytesOf nm).length ++ (bytesOf nm ++ rest)) := by
        have h := unhide Q6
        rw [nsB_drop hnm, ← hrest] at h
        rw [bytesOf_length]
        exact h
      have Q7 := hide q7
      have HREST := hide hrest
      have HSZ : Hid ((bytesOf nm).length ≤ 4096) := by show _ ≤ _; rw [bytesOf_length]; omega
      have HLT := hide hlt
      have d1 : (i : Int) < (m : Int) := by omega
      have e1 : wrap64 ((i : Int) + 1) = ((i + 1 : Nat) : Int) := by have := unhide HM10; rw [w64 _ (by omega) (by omega)]; omega
      have E1 := hide e1
      clear q7 hrest hnm hsz hlt e1 Q6
      have t_ : wr.cell? ⟨t, 0, none⟩ = some (.pointer (some ⟨r, 0, none⟩)) := (blk_cell (unhide I6).2.2.2.1 0).trans rfl
      go_wp2_with fail
      refine (errAt r ad c L _ wr (unhide Q7)).mono ?_
      intro e w' hh
      rw [hh.1, ← hh.2]
      clear hh
      go_wp2
      clear t_
      have P8 : Hid (wr.drew.heap[q]? = some (.cells (wcl 3 0 { data := #[] } (.slice A5 i c5) nl 0 0 0 nl nl 0 (z8 32)).toArray 38 (0, 0))) := (unhide I6).2.2.1
      have T8 : Hid (wr.drew.heap[t]? = some (.cells #[.pointer (some ⟨r, 0, none⟩)] 100 (0, 0))) := (unhide I6).2.2.2.1
      have I8 : Hid (WI w wr.drew p q t r 3 (some ad) N c (wcl 3 0 { data := #[] } (.slice A5 i c5) nl 0 0 0 nl nl 0 (z8 32))) := (unhide I6).below (below_drew (Below.refl _ _))
      have Q8 := hide ((unhide Q7).below (below_drew (Below.refl _ _)))
      have R8 := hide (Kd.R_drew (unhide R6))
      clear I6 Q7 R6
      refine start_ (n := 9) (S := fun w' => w'.heap[q]? = some (.cells (wcl 3 0 { data := #[] } (.slice A5 i c5) nl 0 0 0 nl nl 0 (z8 32)).toArray 38 (0, 0)) ∧ w'.heap[t]? = some (.cells #[.pointer (some ⟨r, 0, none⟩)] 100 (0, 0))) (ds := [8]) (bt 9 0) (by kernel_rfl) rfl (by kernel_rfl) ⟨unhide P8, unhide T8⟩ (fun hHeld => ?_)
      refine with_tabW tabT9_24 bitsT9_24 (fun HT_ HW_ => ?_)
      refine run_ [(0, 86)] ?_
      iterate 1 ((first | refine sp_ (v := ?_) (a' := ?_) HT_.out rfl rfl rfl (by kernel_rfl) (fun _ _ _ h => h) ?_ ?_ ?_ | refine sg_ (v := ?_) (a' := ?_) HT_.out rfl rfl (by kernel_rfl) (fun _ _ _ h => h) (by rfl) ?_ ?_ ?_); rotate_left; (· intro w'; go_simp; with_reducible rfl); rotate_left; (· simp only [Act.put, List.setIfInBounds_toArray, List.set_cons_zero, List.set_cons_succ, i64_w, i32_w]; rfl))
      refine rend_ ?_
      refine take_ (i := 1) (N := some 87) (v := ?_) (a' := ?_) (bt 9 3) rfl rfl (take_ofW HT_.out HW_.out (by kernel_rfl)) (fun _ _ _ h => h) (Or.inl ⟨by rfl, ?_⟩) hHeld ?_ ?_
      rotate_left
      · rintro w' ⟨h1_, h2_⟩
        have t_ := (blk_cell h2_ 0).trans rfl
        have c3_ := cell_wcl h1_ 3 rfl
        go_simp
        with_reducible rfl
      rotate_left
      · simp only [Act.put, List.setIfInBounds_toArray, List.set_cons_zero, List.set_cons_succ, i64_w, i32_w]
        rfl
      refine take_ (i := 2) (N := some 88) (v := ?_) (a' := ?_) (bt 9 7) rfl rfl (take_ofW HT_.out HW_.out (by kernel_rfl)) (fun _ _ _ h => h) (Or.inl ⟨by rfl, ?_⟩) hHeld ?_ ?_
      rotate_left
      · rintro w' ⟨h1_, h2_⟩
        have t_ := (blk_cell h2_ 0).trans rfl
        have c3_ := cell_wcl h1_ 3 rfl
        go_simp
        with_reducible rfl
      rotate_left
      · simp only [Act.put, List.setIfInBounds_toArray, List.set_cons_zero, List.set_cons_succ, i64_w, i32_w]
        rfl
      refine one_ (i := 3) (N := some 89) (bt 9 15) rfl rfl (one_of HT_.out (by kernel_rfl)) (by decide) (fun K hK => ?_)
      refine goes_ Tryd.func34 (by kernel_rfl) rfl #[.pointer (some ⟨r, 0, none⟩)] (by rfl) rfl rfl (by (try simp only [List.map_toArray, List.map_cons, List.map_nil]); first | done | rfl) ?_
      refine (text_at r w.heap.size ad c L (bytesOf nm) rest _ (unhide Q8) (Kd.C_below (unhide HC) (unhide I8).2.2.2.2.1) (unhide HSZ) (unhide HLN) (unhide HCC) ((unhide HNE) r (unhide HRW)) (unhide HRW)).mono ?_
      rintro e w9 ⟨A9, c9, rfl, hO9, hr9, hb9, hk9⟩
      refine ⟨_, rfl, ?_⟩
      have I9 := hide ((unhide I8).rd hb9 hk9)
      have Q9 := hide hr9
      have R9 := hide (R_rd (unhide R8) (unhide Q8) hk9 str_155)
      have hcv : (convert 22 9 (.slice A9 (bytesOf nm).length c9)).run Tryd.prog w9 = .ok (.string (strOfNums (bytesOf nm))) w9 := Kd.C_string Tryd.underlying22 Tryd.underlying5 Tryd.underlying9 (Kd.R_reads' hO9).2.2
      rw [str_bytesOf] at hcv
      have HCV := hide hcv
      clear hO9 hr9 hb9 hk9 hcv
      clear hHeld
      refine hK.out _ _ ⟨(unhide I9).2.2.1, (unhide I9).2.2.2.1⟩ (fun hHeld => ?_)
      clear hK K
      refine norm_ (a' := ?_) ?_ ?_
      rotate_left
      · show Act.put _ (some 89) _ = _
        simp only [Act.put, List.setIfInBounds_toArray, List.set_cons_zero, List.set_cons_succ, i64_w, i32_w]
        rfl
      refine one_ (i := 4) (N := some 90) (bt 9 31) rfl rfl (one_of HT_.out (by kernel_rfl)) (by decide) (fun K hK => ?_)
      refine value_ (v := .string nm) (w1 := w9) (wanted_none rfl) rfl ?hrun ?_
      case hrun =>
        exact exec_conv (x := .tmp 89) rfl rfl (unhide HCV)
      clear hHeld
      refine hK.out _ _ ⟨(unhide I9).2.2.1, (unhide I9).2.2.2.1⟩ (fun hHeld => ?_)
      clear hK K
      refine norm_ (a' := ?_) ?_ ?_
      rotate_left
      · show Act.put _ (some 90) _ = _
        simp only [Act.put, List.setIfInBounds_toArray, List.set_cons_zero, List.set_cons_succ, i64_w, i32_w]
        rfl
      refine one_ (i := 5) (N := some 91) (bt 9 63) rfl rfl (one_of HT_.out (by kernel_rfl)) (by decide) (fun K hK => ?_)
      refine value_ (v := .slice (some ⟨w9.heap.size, 0, none⟩) 1 1) (w1 := w9.alloc (.cells #[.string nm] 9)) (wanted_none rfl) rfl ?hrun ?_
      case hrun =>
        go_simp
      clear hHeld
      refine hK.out _ _ ⟨blk_alloc (unhide I9).2.2.1 _, blk_alloc (unhide I9).2.2.2.1 _⟩ (fun hHeld => ?_)
      clear hK K
      refine norm_ (a' := ?_) ?_ ?_
      rotate_left
      · show Act.put _ (some 91) _ = _
        simp only [Act.put, List.setIfInBounds_toArray, List.set_cons_zero, List.set_cons_succ, i64_w, i32_w]
        rfl
      refine one_ (i := 6) (N := some 92) (bt 9 127) rfl rfl (one_of HT_.out (by kernel_rfl)) (by decide) (fun K hK => ?_)
      have HXL : Hid (xs.length ≤ 20) := by have := unhide HX; have := unhide HLT; have := unhide HM10; show _ ≤ _; omega
      refine Kd.R_append_step Kd.string (W := w9) (w0 := w) w.heap.size (wanted_none rfl) (.tmp 87) (.tmp 91) 23 9 (.string { data := #[] }) 16 rfl Tryd.underlying23 info9 rfl (by decide) (by decide) (.slice A5 i c5) xs nm [.string nm] (fun _ => True) (fun _ => False) rfl rfl rfl (fun k h => h.elim) (fun _ _ => trivial) (unhide R9) (unhide I9).2.2.2.2.1 (unhide I9).2.2.2.2.1.size (by have := unhide HXL; omega) ?_
      intro v10 w10 hR10 hB10 hg10 hat10
      obtain ⟨ys, hys⟩ : ∃ ys, ys = xs ++ [nm] := ⟨_, rfl⟩
      rw [← hys] at hR10
      have hyl : ys.length = i + 1 := by rw [hys, List.length_append, unhide HX]; rfl
      obtain ⟨A10, c10, rfl⟩ := Kd.R_slice hR10
      rw [hyl] at hR10 ⊢
      have I10 := hide ((unhide I9).grownS (unhide R9) hg10 hB10)
      have Q10 := hide ((unhide Q9).grown hg10 ((unhide Q9).ne (unhide R9) (by decide)))
      have R10 := hide hR10
      have HYL := hide hyl
      clear hR10 hB10 hg10 hat10 hys hyl
      clear hHeld
      refine hK.out _ _ ⟨(unhide I10).2.2.1, (unhide I10).2.2.2.1⟩ (fun hHeld => ?_)
      clear hK K
      refine norm_ (a' := ?_) ?_ ?_
      rotate_left
      · show Act.put _ (some 92) _ = _
        simp only [Act.put, List.setIfInBounds_toArray, List.set_cons_zero, List.set_cons_succ, i64_w, i32_w]
        rfl
      refine run_ [(7, 93)] ?_
      iterate 1 ((first | refine sp_ (v := ?_) (a' := ?_) HT_.out rfl rfl rfl (by kernel_rfl) (fun _ _ _ h => h) ?_ ?_ ?_ | refine sg_ (v := ?_) (a' := ?_) HT_.out rfl rfl (by kernel_rfl) (fun _ _ _ h => h) (by rfl) ?_ ?_ ?_); rotate_left; (· intro w'; go_simp; with_reducible rfl); rotate_left; (· simp only [Act.put, List.setIfInBounds_toArray, List.set_cons_zero, List.set_cons_succ, i64_w, i32_w]; rfl))
      refine rend_ ?_
      refine last_ (i := 8) (N := none) (bt 9 511) rfl rfl (one_of HT_.out (by kernel_rfl)) (by decide) (fun K hK => ?_)
      have c3_ := cell_wcl (unhide I10).2.2.1 3 rfl
      have z3_ : w10.frozen? ⟨q, 3, none⟩ = false := blk_frozen (unhide I10).2.2.1 3
      refine skip_ (w1 := ?w11) (wanted_none rfl) rfl ?hrun ?_
      case hrun =>
        go_simp
        rfl
      refine hK.out _ _ ?_
      clear hK K
      refine done_ (done_of HT_.out (by kernel_rfl)) ?_
      clear HT_ HW_; (try clear hHeld)
      have I11 : Hid (WI w (w10.setCell ⟨q, 3, none⟩ (.slice A10 (i + 1) c10)) p q t r 3 (some ad) N c (wcl 3 0 { data := #[] } (.slice A10 (i + 1) c10) nl 0 0 0 nl nl 0 (z8 32))) := (unhide I10).put 3 _
      have Q11 := hide ((unhide Q10).far (p := ⟨q, 3, none⟩) (by have h := (unhide I10).2.2.2.2.2; show r ≠ q; omega) (.slice A10 (i + 1) c10))
      have R11 := hide (Kd.R_set (unhide R10) (unhide I10).2.2.1 str_38 3 (.slice A10 (i + 1) c10))
      rw [unhide HREST] at Q11
      clear I10 Q10 R10
      go_wp2
      go_roundg (gk - 1)
      case measure => have := unhide HI; have := unhide HLT; omega
      case rel => exact ⟨i + 1, A10, c10, ys, by first | exact congrArg (Value.int .i64) (unhide E1) | exact congrArg (Value.int .i64) (by omega), by have := unhide HI; have := unhide HLT; show _ = _; omega, HYL, I11, Q11, R11⟩
    · have d1 : ¬ (i : Int) < (m : Int) := by omega
      have him : i = m := by have := unhide HI; omega
      subst him
      have Q7 : Hid (RdAt wr r ad c L []) := by
        have h := unhide Q6
        rw [List.drop_of_length_le (by have := unhide HM; omega)] at h
        exact h
      clear hlt Q6
      have t_ : wr.cell? ⟨t, 0, none⟩ = some (.pointer (some ⟨r, 0, none⟩)) := (blk_cell (unhide I6).2.2.2.1 0).trans rfl
      go_wp2_with fail
      refine (errAt r ad c L _ wr (unhide Q7)).mono ?_
      intro e w' hh
      rw [hh.1, ← hh.2]
      clear hh
      go_wp2
      rw [rounds_succ]
      go_wp2_with fail
      refine (endAt r ad c L wr (unhide Q7)).mono ?_
      rintro e w7 ⟨rfl, hb7⟩
      have I7 := hide ((unhide I6).below hb7)
      clear hb7 I6 Q7 t_
      obtain ⟨cs, hcs⟩ : ∃ cs, cs = wcl 3 0 { data := #[] } (.slice A5 i c5) nl 0 0 0 nl nl 0 (z8 32) := ⟨_, rfl⟩
      have i11 := unhide I7
      rw [← hcs] at i11
      have h91 : cs.length = 91 := by rw [hcs]; rfl
      have hone : ∀ u ∈ cs, u.oneCell' = true := by rw [hcs]; exact wcl_one _ _ _ _ _ _ _ _ _ _ _ _ _ _ _ _ _ _ _ _ z8_one
      have I11 := hide i11
      have SZ : Hid ((Tryd.prog.info? 38).map (·.size) = some cs.length) := by show _ = _; rw [h91]; exact size38
      have SZA : Hid ((Tryd.prog.info? 38).map (·.size) = some cs.toArray.size) := by show _ = _; rw [List.size_toArray, h91]; exact size38
      have SA : Hid (Tryd.zeroCells38.size = cs.toArray.size) := by show _ = _; rw [zc38, List.size_toArray, h91]
      have rg11 := hide (wcl_range i11.2.2.1 0 cs (by rw [List.drop_zero, List.take_length]))
      have ONE := hide hone
      have HCS := hide hcs
      clear i11 h91 hone hcs
      go_wp2_with (first | refine wpList_load_mid rfl 38 (.tmp 6) rfl q 0 rfl cs _ (unhide rg11) Tryd.underlying38 rfl (unhide SZ) ?_ | refine wpList_store_row rfl 38 (.tmp 2) (.tmp 185) rfl (p + 1) cs.toArray rfl rfl 38 _ (unhide I11).2.1 (unhide SZA) (unhide SA) (all_oneCell_toArray (unhide ONE)) ?_)
      have B12 : Below w.heap.size w ((w7).setRow (p + 1) cs.toArray) := below_setRow (unhide I11).2.2.2.2.1 (by have h := (unhide I11).2.2.2.2.2.1; show w.heap.size ≤ p + 1; omega) _
      refine bodyPost_ret (v := .tuple #[.agg cs.toArray, .nilIface]) (Go.Proofs.YtgoephcembgmcaaDoor.Tk.results_cell_tmp rfl _ _ (p + 1) 38 _ (0, 0) _ _ rfl rfl (setRow_heap _ _ _ _ 38 _ (unhide I11).2.1) Tryd.underlying38 rfl (unhide SZA)) rfl ⟨A5, c5, by rw [unhide HCS, unhide HM], B12⟩
end Go.Proofs.YtgoephcembgmcaaDoor.Wd
namespace Go.Proofs.YtgoephcembgmcaaDoor.Fr
open Go.RowKit Go.Proofs.YtgoephcembgmcaaDoorW.PrintWords Go.Proofs.YtgoephcembgmcaaDoorW.PrintLast Wk FrM Rg
open WkM (w64)
def T40_1 : Bool × List (List Nat × List Nat) := (true, [([], []), ([0], [0]), ([1], [1]), ([2], [2]), ([3], [3]), ([4], [4]), ([5], [5]), ([6, 5], [5, 6]), ([7, 5], [5, 7]), ([8, 5], [5, 8]), ([5], [5]), ([10, 5], [5, 10]), ([11, 5], [5, 11]), ([12, 5], [5, 12]), ([13, 5], [5, 13]), ([9, 14, 5], [5, 9, 14]), ([5, 15], [5, 15])])
def BT40_1 : List Nat := [0, 1, 3, 7, 15, 31, 63, 127, 255, 511, 63, 1087, 3135, 7231, 15423, 32767, 65535]
theorem tabT40_1 : rtab .any (opsOf Tryd.f40 1) = T40_1 := by kernel_rfl
theorem bitsT40_1 : waitsOk T40_1.2 BT40_1 = true := by kernel_rfl

set_option maxHeartbeats 2000000 in
set_option maxRecDepth 100000 in
theorem end_bad (g base n c k : Nat) (A : Option Addr) (w : World) (h : Rdr w g (.slice A n c) (k : Int)) (hb : base ≤ g) (hk : k < n) :
    Calls Tryd.prog 40 #[.pointer (some ⟨g, 0, none⟩)] w fun e w' => e = .returned (fe w.heap.size) ∧ Flt w' w.heap.size (k : Int) 31 ∧ Below base w w' ∧ KeepBut w w' g none := by
  have hu := Tryd.underlying155
  have d1 : (k : Int) < (n : Int) := by omega
  have R0 : Hid (Rdr w.drew g (.slice A n c) (k : Int)) := h
  clear h hk
  go_enter Tryd.func40, Tryd.ntmps40
  go_wp2
  refine start_ (n := 17) (S := fun w' => Rdr w' g (.slice A n c) (k : Int)) (ds := []) (bt 17 0) (by kernel_rfl) rfl (by kernel_rfl) (unhide R0) (fun hHeld => ?_)
  refine with_tabW tabT40_1 bitsT40_1 (fun HT_ HW_ => ?_)
  refine run_ [(0, 3), (1, 4), (2, 5)] ?_
  iterate 3 ((first | refine sp_ (v := ?_) (a' := ?_) HT_.out rfl rfl rfl (by kernel_rfl) (fun _ _ _ h => h) ?_ ?_ ?_ | refine sg_ (v := ?_) (a' := ?_) HT_.out rfl rfl (by kernel_rfl) (fun _ _ _ h => h) (by rfl) ?_ ?_ ?_); rotate_left; (· intro w'; go_simp; with_reducible rfl); rotate_left; (· simp only [Act.put, List.setIfInBounds_toArray, List.set_cons_zero, List.set_cons_succ, i64_w, i32_w]; rfl))
  refine rend_ ?_
  refine take_ (i := 3) (N := some 6) (v := ?_) (a' := ?_) (bt 17 15) rfl rfl (take_ofW HT_.out HW_.out (by kernel_rfl)) (fun _ _ _ h => h) (Or.inl ⟨by rfl, ?_⟩) hHeld ?_ ?_
  rotate_left
  · rintro w' h1_
    obtain ⟨⟨_, _, _⟩, _, _⟩ := h1_.cells
    go_simp
    with_reducible rfl
  rotate_left
  · simp only [Act.put, List.setIfInBounds_toArray, List.set_cons_zero, List.set_cons_succ, i64_w, i32_w]
    rfl
  refine run_ [(4, 7), (5, 8), (6, 9), (7, 10), (8, 11)] ?_
  iterate 5 ((first | refine sp_ (v := ?_) (a' := ?_) HT_.out rfl rfl rfl (by kernel_rfl) (fun _ _ _ h => h) ?_ ?_ ?_ | refine sg_ (v := ?_) (a' := ?_) HT_.out rfl rfl (by kernel_rfl) (fun _ _ _ h => h) (by rfl) ?_ ?_ ?_); rotate_left; (· intro w'; go_simp; with_reducible rfl); rotate_left; (· simp only [Act.put, List.setIfInBounds_toArray, List.set_cons_zero, List.set_cons_succ, i64_w, i32_w]; rfl))
  refine rend_ ?_
  refine take_ (i := 9) (N := some 12) (v := ?_) (a' := ?_) (bt 17 1023) rfl rfl (take_ofW HT_.out HW_.out (by kernel_rfl)) (fun _ _ _ h => h) (Or.inl ⟨by rfl, ?_⟩) hHeld ?_ ?_
  rotate_left
  · rintro w' h1_
    obtain ⟨⟨_, _, _⟩, _, _⟩ := h1_.cells
    go_simp
    with_reducible rfl
  rotate_left
  · simp only [Act.put, List.setIfInBounds_toArray, List.set_cons_zero, List.set_cons_succ, i64_w, i32_w]
    rfl
  refine run_ [(10, 13), (11, 14), (12, 15)] ?_
  iterate 3 ((first | refine sp_ (v := ?_) (a' := ?_) HT_.out rfl rfl rfl (by kernel_rfl) (fun _ _ _ h => h) ?_ ?_ ?_ | refine sg_ (v := ?_) (a' := ?_) HT_.out rfl rfl (by kernel_rfl) (fun _ _ _ h => h) (by rfl) ?_ ?_ ?_); rotate_left; (· intro w'; go_simp; with_reducible rfl); rotate_left; (· simp only [Act.put, List.setIfInBounds_toArray, List.set_cons_zero, List.set_cons_succ, i64_w, i32_w]; rfl))
  refine rend_ ?_
  refine take_ (i := 13) (N := some 16) (v := ?_) (a' := ?_) (bt 17 16383) rfl rfl (take_ofW HT_.out HW_.out (by kernel_rfl)) (fun _ _ _ h => h) (Or.inl ⟨by rfl, ?_⟩) hHeld ?_ ?_
  rotate_left
  · rintro w' h1_
    obtain ⟨⟨_, _, _⟩, _, _⟩ := h1_.cells
    go_simp
    with_reducible rfl
  rotate_left
  · simp only [Act.put, List.setIfInBounds_toArray, List.set_cons_zero, List.set_cons_succ, i64_w, i32_w]
    rfl
  refine run_ [(14, 17), (15, 18), (16, 19)] ?_
  iterate 3 ((first | refine sp_ (v := ?_) (a' := ?_) HT_.out rfl rfl rfl (by kernel_rfl) (fun _ _ _ h => h) ?_ ?_ ?_ | refine sg_ (v := ?_) (a' := ?_) HT_.out rfl rfl (by kernel_rfl) (fun _ _ _ h => h) (by rfl) ?_ ?_ ?_); rotate_left; (· intro w'; go_simp; with_reducible rfl); rotate_left; (· simp only [Act.put, List.setIfInBounds_toArray, List.set_cons_zero, List.set_cons_succ, i64_w, i32_w]; rfl))
  refine rend_ ?_
  refine done_ (done_of HT_.out (by kernel_rfl)) ?_
  clear HT_ HW_ hHeld
  obtain ⟨⟨m0, m1, m2⟩, m3, m4⟩ := (unhide R0).cells
  go_wp2_with fail
  clear m0 m1 m2 m3 m4
  refine (fail_ok g base (.slice A n c) (k : Int) (k : Int) 31 _ (unhide R0) hb).mono ?_
  rintro e w1 ⟨rfl, hE, hF, hB, hK⟩
  obtain ⟨⟨m0, m1, m2⟩, m3, m4⟩ := hE.cells
  have HF := hide hF
  have HB := hide hB
  have HK := hide hK
  clear hE hF hB hK
  go_wp2
  go_ret
  exact ⟨rfl, unhide HF, (below_drew (Below.refl base w)).trans (unhide HB), unhide HK⟩
end Go.Proofs.YtgoephcembgmcaaDoor.Fr
namespace Go.Proofs.YtgoephcembgmcaaDoor.Wd
open Go.RowKit Go.Proofs.YtgoephcembgmcaaDoorW.PrintWords Go.Proofs.YtgoephcembgmcaaDoorW.PrintLast Wk FrM Fr Bl Tk Sh Rg
open WkM (w64 Bytes)

set_option maxHeartbeats 8000000 in
set_option maxRecDepth 100000 in
theorem wread_bad (A : Option Addr) (c : Nat) (L : List Int) (w : World) (hL : L = [120]) (hC : Kd.C (Kd.int .u8) w A L.length L) (hc : L.length ≤ c) :
    Calls Tryd.prog 9 #[.agg #[.int .i64 11, .int .i64 0, .slice A L.length c]] w fun e w' => ∃ (f : Nat) (at_ : Int), e = .returned (.tuple #[.agg (wz 0).toArray, fe f]) ∧ Flt w' f at_ 31 ∧ Below w.heap.size w w' := by
  have HL := hide hL
  have HC := hide hC
  have HCC := hide hc
  obtain ⟨N, hN⟩ : ∃ N, N = L.length := ⟨_, rfl⟩
  have HNL := hide hN
  rw [← hN]
  clear hL hC hc hN
  obtain ⟨p, hp⟩ : ∃ p, p = w.heap.size := ⟨_, rfl⟩
  have F1 : Frm ((w.alloc (.cells #[.int .i64 11, .int .i64 0, .slice A N c] 51)).alloc (.cells Tryd.zeroCells38 38)) p 11 0 (.slice A N c) := by rw [hp]; exact blk_alloc (blk_new _ _) _
  have G1 : ((w.alloc (.cells #[.int .i64 11, .int .i64 0, .slice A N c] 51)).alloc (.cells Tryd.zeroCells38 38)).heap[p + 1]? = some (.cells Tryd.zeroCells38 38 (0, 0)) := by
    have h := blk_new (w.alloc (.cells #[.int .i64 11, .int .i64 0, .slice A N c] 51)) (.cells (wz 0).toArray 38)
    rw [World.size_alloc, ← hp] at h
    exact h
  have B1 : Below w.heap.size w ((w.alloc (.cells #[.int .i64 11, .int .i64 0, .slice A N c] 51)).alloc (.cells Tryd.zeroCells38 38)) := below_alloc (below_alloc (Below.refl _ _) _) _
  go_enter Tryd.func9, Tryd.ntmps9
  go_wp2_with fail
  refine (shape_11 _).mono ?_
  intro e w' hh
  rw [hh.1, hh.2]
  clear hh
  try rw [← hp]
  generalize (w.alloc (.cells #[.int .i64 11, .int .i64 0, .slice A N c] 51)).alloc (.cells Tryd.zeroCells38 38) = w1 at F1 G1 B1 ⊢
  have HWP : Hid (w.heap.size ≤ p) := by show _ ≤ _; omega
  have hq : w.heap.size + 1 = p + 1 := by rw [hp]
  try rw [hq]
  clear hp hq
  obtain ⟨⟨_, _, _⟩, ⟨_, _, _⟩, _⟩ := F1.cells
  have F1 := hide F1
  have G1 := hide G1
  have B1 := hide B1
  have f2 : Frm (w1.alloc (.cells (wz 11).toArray 38)) p 11 0 (.slice A N c) := blk_alloc (unhide F1) _
  obtain ⟨⟨_, _, _⟩, ⟨_, _, _⟩, _⟩ := f2.cells
  have SZ : Hid ((Tryd.prog.info? 38).map (·.size) = some (wz 11).toArray.size) := size38
  have SA : Hid (Tryd.zeroCells38.size = (wz 11).toArray.size) := by show _ = _; kernel_rfl
  have ONE : Hid (∀ u ∈ wz 11, u.oneCell' = true) := by show ∀ u ∈ wz 11, _; decide
  go_wp2_with (first | refine wpList_build_is rfl 38 _ rfl (wz 11).toArray built38_11 ?_ | (refine wpList_store_row rfl 38 (.tmp 6) (.tmp 39) rfl w1.heap.size (wz 11).toArray rfl rfl 38 _ (blk_new w1 _) (unhide SZ) (unhide SA) (all_oneCell_toArray (unhide ONE)) ?_; rw [World.setRow_alloc_new]))
  obtain ⟨q, hq⟩ : ∃ q, q = w1.heap.size := ⟨_, rfl⟩
  have hpq : p + 1 < q := by have := blk_lt (unhide G1); omega
  have F2 : Frm (w1.alloc (.cells (wz 11).toArray 38)) p 11 0 (.slice A N c) := blk_alloc (unhide F1) _
  have G2 : (w1.alloc (.cells (wz 11).toArray 38)).heap[p + 1]? = some (.cells Tryd.zeroCells38 38 (0, 0)) := blk_alloc (unhide G1) _
  have W2 : (w1.alloc (.cells (wz 11).toArray 38)).heap[q]? = some (.cells (wz 11).toArray 38 (0, 0)) := by rw [hq]; exact blk_new _ _
  have B2 := below_alloc (unhide B1) (.cells (wz 11).toArray 38)
  try rw [← hq]
  generalize w1.alloc (.cells (wz 11).toArray 38) = w2 at F2 G2 W2 B2 ⊢
  clear hq f2
  refine (read_any A N c w2).mono ?_
  rintro e w3 ⟨rfl, hr3, hb3⟩
  obtain ⟨r, hr⟩ : ∃ r, r = w2.heap.size := ⟨_, rfl⟩
  obtain ⟨t, ht⟩ : ∃ t, t = w3.heap.size := ⟨_, rfl⟩
  have hqr : q < r := by have := blk_lt W2; omega
  rw [← hr] at hr3 ⊢
  have hrt : r < t := by have := blk_lt hr3; omega
  have I4 : Hid (WI w (w3.alloc (.cells #[.pointer (some ⟨r, 0, none⟩)] 100)) p q t r 11 A N c (wz 11)) := ⟨blk_alloc (blk_below F2 hb3) _, blk_alloc (blk_below G2 hb3) _, blk_alloc (blk_below W2 hb3) _, by rw [ht]; exact blk_new _ _, below_alloc (below_step B2 hb3) _, unhide HWP, hpq, hqr, hrt⟩
  have R4 : Hid (Rdr (w3.alloc (.cells #[.pointer (some ⟨r, 0, none⟩)] 100)) r (.slice A N c) 0) := blk_alloc hr3 _
  clear F1 G1 B1 F2 G2 W2 B2 hr3 hb3 hr hpq hqr hrt SZ SA ONE
  go_wp2
  try rw [← ht]
  generalize w3.alloc (.cells #[.pointer (some ⟨r, 0, none⟩)] 100) = w4 at I4 R4 ⊢
  clear ht
  have hN0 : N = 1 := by rw [unhide HNL, unhide HL]; rfl
  subst hN0
  have t_ : w4.cell? ⟨t, 0, none⟩ = some (.pointer (some ⟨r, 0, none⟩)) := (blk_cell (unhide I4).2.2.2.1 0).trans rfl
  refine wp_loop_rounds 1 ?_
  rw [rounds_succ]
  go_wp2_with fail
  refine (end_bad r w.heap.size 1 c 0 A w4 (unhide R4) (by have h := (unhide I4).2.2.2.2.2; omega) (by decide)).mono ?_
  rintro e w5 ⟨rfl, hf5, hb5, hk5⟩
  have I5 := hide ((unhide I4).rd hb5 hk5)
  have F5 := hide hf5
  have HT4 : Hid (t < w4.heap.size) := blk_lt (unhide I4).2.2.2.1
  clear hb5 hk5 hf5 I4 R4 t_
  have SZA : Hid ((Tryd.prog.info? 38).map (·.size) = some (wz 0).toArray.size) := size38
  have SA : Hid (Tryd.zeroCells38.size = (wz 0).toArray.size) := by show _ = _; kernel_rfl
  have ONE : Hid (∀ u ∈ wz 0, u.oneCell' = true) := by show ∀ u ∈ wz 0, _; decide
  go_wp2_with (first | (with_reducible refine stop_store 38 (.tmp 2) (.tmp 183) rfl ?_))
  refine hide ?_
  refine wpList_store_row rfl 38 (.tmp 2) (.tmp 183) rfl (p + 1) (wz 0).toArray rfl rfl 38 _ (unhide I5).2.1 (unhide SZA) (unhide SA) (all_oneCell_toArray (unhide ONE)) ?_
  go_wp2
  have B12 : Below w.heap.size w (w5.setRow (p + 1) (wz 0).toArray) := below_setRow (unhide I5).2.2.2.2.1 (by have h := (unhide I5).2.2.2.2.2.1; show w.heap.size ≤ p + 1; omega) _
  refine bodyPost_ret (v := .tuple #[.agg (wz 0).toArray, fe w4.heap.size]) (Go.Proofs.YtgoephcembgmcaaDoor.Tk.results_cell_tmp rfl _ _ (p + 1) 38 _ (0, 0) _ _ rfl rfl (setRow_heap _ _ _ _ 38 _ (unhide I5).2.1) Tryd.underlying38 rfl (unhide SZA)) rfl ⟨_, _, rfl, (setRow_other _ _ _ _ (by have h1 := (unhide I5).2.2.2.2.2; have h2 := unhide HT4; omega)).trans (unhide F5), B12⟩
end Go.Proofs.YtgoephcembgmcaaDoor.Wd
namespace Go.Proofs.YtgoephcembgmcaaDoor.Wd
open Go.RowKit Go.Proofs.YtgoephcembgmcaaDoorW.PrintWords Go.Proofs.YtgoephcembgmcaaDoorW.PrintLast Wk FrM Fr Bl Tk Sh Rg
open WkM (w64 Bytes)

set_option maxHeartbeats 8000000 in
set_option maxRecDepth 100000 in
theorem frame_11 (w : World) :
    Calls Tryd.prog 20 #[.agg (wcl 11 0 { data := #[] } nl nl 0 0 0 nl nl 0 (z8 32)).toArray] w fun e w' => ∃ A1 c1, e = .returned (.tuple #[.agg #[.int .i64 11, .int .i64 0, .slice A1 ([] : List Int).length c1], .int .i64 0]) ∧ Own w' w.heap.size (.slice A1 ([] : List Int).length c1) ([] : List Int) ∧ Below w.heap.size w w' := by
  obtain ⟨cs, hcs⟩ : ∃ cs, cs = wcl 11 0 { data := #[] } nl nl 0 0 0 nl nl 0 (z8 32) := ⟨_, rfl⟩
  have hsp : ∀ w1, Calls Tryd.prog 52 #[.agg cs.toArray, .string { data := #[] }] w1 fun e w' => e = .returned (.bool false) ∧ Below w1.heap.size w1 w' := fun w1 => by rw [hcs]; exact spare_11 w1
  have hlen : cs.length = 91 := by rw [hcs]; rfl
  rw [← hcs]
  have hc0 : cs[0]? = some (.int .i64 11) := by rw [hcs]; rfl
  have hc1 : cs[1]? = some (.int .i64 0) := by rw [hcs]; rfl
  have hc2 : cs[2]? = some (.string { data := #[] }) := by rw [hcs]; rfl
  have hc3 : cs[3]? = some (nl) := by rw [hcs]; rfl
  have HC0 := hide hc0
  have HC1 := hide hc1
  have HC2 := hide hc2
  have HC3 := hide hc3
  have HSP := hide hsp
  have SZ : Hid ((Tryd.prog.info? 38).map (·.size) = some cs.length) := by show _ = _; rw [hlen]; exact size38
  have SZA : Hid ((Tryd.prog.info? 38).map (·.size) = some cs.toArray.size) := by show _ = _; rw [List.size_toArray, hlen]; exact size38
  clear hsp hlen hcs hc0 hc1 hc2 hc3
  have P1 : ((w.alloc (.cells cs.toArray 38)).alloc (.cells #[.int .i64 0, .int .i64 0, .slice none 0 0] 51)).heap[w.heap.size]? = some (.cells cs.toArray 38 (0, 0)) := blk_alloc (blk_new _ _) _
  have G1 : Frm ((w.alloc (.cells cs.toArray 38)).alloc (.cells #[.int .i64 0, .int .i64 0, .slice none 0 0] 51)) (w.heap.size + 1) 0 0 (.slice none 0 0) := by
    have h := blk_new (w.alloc (.cells cs.toArray 38)) (.cells #[.int .i64 0, .int .i64 0, .slice none 0 0] 51)
    rw [World.size_alloc] at h
    exact h
  have B1 : Below w.heap.size w ((w.alloc (.cells cs.toArray 38)).alloc (.cells #[.int .i64 0, .int .i64 0, .slice none 0 0] 51)) := below_alloc (below_alloc (Below.refl _ _) _) _
  have c0 := cell_wcl P1 0 (unhide HC0)
  go_enter Tryd.func20, Tryd.ntmps20
  go_wp2_with fail
  clear c0
  obtain ⟨g, hg⟩ : ∃ g, g = w.heap.size + 1 := ⟨_, rfl⟩
  obtain ⟨p, hp⟩ : ∃ p, p = w.heap.size := ⟨_, rfl⟩
  have hgp : p < g := by omega
  have HGP := hide hgp
  have HWP : Hid (w.heap.size ≤ p) := by show _ ≤ _; omega
  rw [← hg] at G1 ⊢
  rw [← hp] at P1 ⊢
  rw [hp] at P1
  generalize (w.alloc (.cells cs.toArray 38)).alloc (.cells #[.int .i64 0, .int .i64 0, .slice none 0 0] 51) = w1 at P1 G1 B1 ⊢
  rw [← hp] at P1
  clear hg hp hgp
  refine (shape_11 _).mono ?_
  intro e w' hh
  rw [hh.1, hh.2]
  clear hh
  have P1 := hide P1
  have G1 := hide G1
  have B1 := hide B1
  go_wp2_with (refine wpList_load_mid rfl 38 (.tmp 1) rfl p 0 rfl cs _ (wcl_range (unhide P1) 0 cs (by rw [List.drop_zero, List.take_length])) Tryd.underlying38 rfl (unhide SZ) ?_)
  refine ((unhide HSP) w1).mono ?_
  rintro e w2 ⟨rfl, hb2⟩
  have P2 := hide (blk_below (unhide P1) hb2)
  have G2 : Hid (Frm w2 g 0 0 (.slice none 0 0)) := blk_below (unhide G1) hb2
  have B2 := hide (below_step (unhide B1) hb2)
  clear P1 G1 B1 hb2
  have c1_ := cell_wcl (unhide P2) 1 (unhide HC1)
  have c2_ := cell_wcl (unhide P2) 2 (unhide HC2)
  have c3_ := cell_wcl (unhide P2) 3 (unhide HC3)
  have O2 : Hid (Own w2 w.heap.size (.slice none 0 0) ([] : List Int)) := Kd.R_nil _ _ _ _ _
  have c0_ := cell_wcl (unhide P2) 0 (unhide HC0)
  obtain ⟨⟨_, _, _⟩, ⟨_, _, _⟩, _⟩ := (unhide G2).cells
  go_wp2
  refine wp_loop_rounds 1 ?_
  rw [rounds_succ]
  go_wp2
  clear c0_
  have F9 : Frm (((w2.setCell ⟨g, 0, none⟩ (.int .i64 11)).setCell ⟨g, 1, none⟩ (.int .i64 0)).setCell ⟨g, 2, none⟩ (.slice none 0 0)) g 11 0 (.slice none 0 0) := blk_put (blk_put (blk_put (unhide G2) 0 _ rfl) 1 _ rfl) 2 _ rfl
  have O9 : Own (((w2.setCell ⟨g, 0, none⟩ (.int .i64 11)).setCell ⟨g, 1, none⟩ (.int .i64 0)).setCell ⟨g, 2, none⟩ (.slice none 0 0)) w.heap.size (.slice none 0 0) [] := Kd.R_set (Kd.R_set (Kd.R_set (unhide O2) (unhide G2) own5_51 0 _) (blk_put (unhide G2) 0 _ rfl) own5_51 1 _) (blk_put (blk_put (unhide G2) 0 _ rfl) 1 _ rfl) own5_51 2 _
  have B9 : Below w.heap.size w (((w2.setCell ⟨g, 0, none⟩ (.int .i64 11)).setCell ⟨g, 1, none⟩ (.int .i64 0)).setCell ⟨g, 2, none⟩ (.slice none 0 0)) := (((unhide B2).setCell (p := ⟨g, 0, none⟩) (Nat.le_of_lt (Nat.lt_of_le_of_lt (unhide HWP) (unhide HGP))) _).setCell (p := ⟨g, 1, none⟩) (Nat.le_of_lt (Nat.lt_of_le_of_lt (unhide HWP) (unhide HGP))) _).setCell (p := ⟨g, 2, none⟩) (Nat.le_of_lt (Nat.lt_of_le_of_lt (unhide HWP) (unhide HGP))) _
  generalize ((w2.setCell ⟨g, 0, none⟩ (.int .i64 11)).setCell ⟨g, 1, none⟩ (.int .i64 0)).setCell ⟨g, 2, none⟩ (.slice none 0 0) = w9 at F9 O9 B9 ⊢
  obtain ⟨⟨f0, f1, f2⟩, _, _⟩ := F9.cells
  have hu := Tryd.underlying51
  refine bodyPost_ret (v := .tuple #[.agg #[.int .i64 11, .int .i64 0, .slice none 0 0], .int .i64 0]) (by simp [results, Tryd.results20, go_sem, f0, f1, f2, hu]) rfl ⟨none, 0, rfl, O9, B9⟩
end Go.Proofs.YtgoephcembgmcaaDoor.Wd
namespace Go.Proofs.YtgoephcembgmcaaDoor.Wd
open Go.RowKit Go.Proofs.YtgoephcembgmcaaDoorW.PrintWords Go.Proofs.YtgoephcembgmcaaDoorW.PrintLast Wk FrM Fr Bl Tk Sh Rg
open WkM (w64 Bytes)

set_option maxHeartbeats 8000000 in
set_option maxRecDepth 100000 in
theorem frame_14 (n : Nat) (A : Option Addr) (c : Nat) (bs : List (Int × List Int)) (w : World) (hC : BkC w A bs) (hbs : ∀ b ∈ bs, Blk b) (hl : bs.length = (n + 3) / 4) (hn : n ≤ 500) :
    Calls Tryd.prog 20 #[.agg (wcl 14 3 { data := #[] } nl nl 4 8 (n : Int) (.slice A bs.length c) nl 0 (z8 32)).toArray] w fun e w' => ∃ A1 c1, e = .returned (.tuple #[.agg #[.int .i64 14, .int .i64 0, .slice A1 (vnum 3 ++ sgB n bs).length c1], .int .i64 0]) ∧ Own w' w.heap.size (.slice A1 (vnum 3 ++ sgB n bs).length c1) (vnum 3 ++ sgB n bs) ∧ Below w.heap.size w w' := by
  obtain ⟨cs, hcs⟩ : ∃ cs, cs = wcl 14 3 { data := #[] } nl nl 4 8 (n : Int) (.slice A bs.length c) nl 0 (z8 32) := ⟨_, rfl⟩
  have hsp : ∀ w1, Calls Tryd.prog 52 #[.agg cs.toArray, .string { data := #[110, 98] }] w1 fun e w' => e = .returned (.bool false) ∧ Below w1.heap.size w1 w' := fun w1 => by rw [hcs]; exact spare_14 4 8 (n : Int) A bs.length c w1
  have hlen : cs.length = 91 := by rw [hcs]; rfl
  rw [← hcs]
  have hc0 : cs[0]? = some (.int .i64 14) := by rw [hcs]; rfl
  have hc1 : cs[1]? = some (.int .i64 3) := by rw [hcs]; rfl
  have hc2 : cs[2]? = some (.string { data := #[] }) := by rw [hcs]; rfl
  have hc3 : cs[3]? = some (nl) := by rw [hcs]; rfl
  have hc53 : cs[53]? = some (.int .i64 4) := by rw [hcs]; rfl
  have hc54 : cs[54]? = some (.int .i64 8) := by rw [hcs]; rfl
  have hc55 : cs[55]? = some (.int .i64 (n : Int)) := by rw [hcs]; rfl
  have hc56 : cs[56]? = some (.slice A bs.length c) := by rw [hcs]; rfl
  have HC0 := hide hc0
  have HC1 := hide hc1
  have HC2 := hide hc2
  have HC3 := hide hc3
  have HC53 := hide hc53
  have HC54 := hide hc54
  have HC55 := hide hc55
  have HC56 := hide hc56
  have HSP := hide hsp
  have SZ : Hid ((Tryd.prog.info? 38).map (·.size) = some cs.length) := by show _ = _; rw [hlen]; exact size38
  have SZA : Hid ((Tryd.prog.info? 38).map (·.size) = some cs.toArray.size) := by show _ = _; rw [List.size_toArray, hlen]; exact size38
  have HB := hide hC
  have HBS := hide hbs
  have HL := hide hl
  have HN := hide hn
  clear hC hbs hl hn
  clear hsp hlen hcs hc0 hc1 hc2 hc3 hc53 hc54 hc55 hc56
  have P1 : ((w.alloc (.cells cs.toArray 38)).alloc (.cells #[.int .i64 0, .int .i64 0, .slice none 0 0] 51)).heap[w.heap.size]? = some (.cells cs.toArray 38 (0, 0)) := blk_alloc (blk_new _ _) _
  have G1 : Frm ((w.alloc (.cells cs.toArray 38)).alloc (.cells #[.int .i64 0, .int .i64 0, .slice none 0 0] 51)) (w.heap.size + 1) 0 0 (.slice none 0 0) := by
    have h := blk_new (w.alloc (.cells cs.toArray 38)) (.cells #[.int .i64 0, .int .i64 0, .slice none 0 0] 51)
    rw [World.size_alloc] at h
    exact h
  have B1 : Below w.heap.size w ((w.alloc (.cells cs.toArray 38)).alloc (.cells #[.int .i64 0, .int .i64 0, .slice none 0 0] 51)) := below_alloc (below_alloc (Below.refl _ _) _) _
  have c0 := cell_wcl P1 0 (unhide HC0)
  go_enter Tryd.func20, Tryd.ntmps20
  go_wp2_with fail
  clear c0
  obtain ⟨g, hg⟩ : ∃ g, g = w.heap.size + 1 := ⟨_, rfl⟩
  obtain ⟨p, hp⟩ : ∃ p, p = w.heap.size := ⟨_, rfl⟩
  have hgp : p < g := by omega
  have HGP := hide hgp
  have HWP : Hid (w.heap.size ≤ p) := by show _ ≤ _; omega
  rw [← hg] at G1 ⊢
  rw [← hp] at P1 ⊢
  rw [hp] at P1
  generalize (w.alloc (.cells cs.toArray 38)).alloc (.cells #[.int .i64 0, .int .i64 0, .slice none 0 0] 51) = w1 at P1 G1 B1 ⊢
  rw [← hp] at P1
  clear hg hp hgp
  refine (shape_14 _).mono ?_
  intro e w' hh
  rw [hh.1, hh.2]
  clear hh
  have P1 := hide P1
  have G1 := hide G1
  have B1 := hide B1
  go_wp2_with (refine wpList_load_mid rfl 38 (.tmp 1) rfl p 0 rfl cs _ (wcl_range (unhide P1) 0 cs (by rw [List.drop_zero, List.take_length])) Tryd.underlying38 rfl (unhide SZ) ?_)
  refine ((unhide HSP) w1).mono ?_
  rintro e w2 ⟨rfl, hb2⟩
  have P2 := hide (blk_below (unhide P1) hb2)
  have G2 : Hid (Frm w2 g 0 0 (.slice none 0 0)) := blk_below (unhide G1) hb2
  have B2 := hide (below_step (unhide B1) hb2)
  clear P1 G1 B1 hb2
  have c1_ := cell_wcl (unhide P2) 1 (unhide HC1)
  have c2_ := cell_wcl (unhide P2) 2 (unhide HC2)
  have c3_ := cell_wcl (unhide P2) 3 (unhide HC3)
  have O2 : Hid (Own w2 w.heap.size (.slice none 0 0) ([] : List Int)) := Kd.R_nil _ _ _ _ _
  go_wp2
  clear c2_ c3_
  refine wp_loop_rounds 3 ?_
  rw [rounds_succ]
  go_wp2_with fail
  refine (num_lit w.heap.size (.slice none 0 0) [] 3 3 w2 rfl (unhide O2) (unhide B2).size (by decide) (by decide)).mono ?_
  rintro e w3 ⟨A3, c3, rfl, hO3, hB3, hG3⟩
  obtain ⟨z3, hz3⟩ : ∃ z, z = vnum 3 := ⟨_, rfl⟩
  rw [List.nil_append, ← hz3] at hO3 hG3 ⊢
  have hl3 : z3.length ≤ 6 := by rw [hz3]; exact vnum_len 5 3 (by decide)
  have P3 : Hid (w3.heap[p]? = some (.cells cs.toArray 38 (0, 0))) := hG3.blk (unhide P2) (by simp [Value.ownBlock])
  have G3 : Hid (Frm w3 g 0 0 (.slice none 0 0)) := hG3.blk (unhide G2) (by simp [Value.ownBlock])
  have O3 := hide hO3
  have B3 := hide ((unhide B2).trans hB3)
  have HZ3 := hide hz3
  have HL3 := hide hl3
  clear hO3 hB3 hG3 hz3 hl3 c1_ P2 G2 B2 O2
  have c53_ := cell_wcl (unhide P3) 53 (unhide HC53)
  have c54_ := cell_wcl (unhide P3) 54 (unhide HC54)
  have c55_ := cell_wcl (unhide P3) 55 (unhide HC55)
  have c56_ := cell_wcl (unhide P3) 56 (unhide HC56)
  go_wp2
  rw [rounds_succ]
  go_wp2_with fail
  clear c53_ c54_ c55_ c56_
  refine (bytes_sig A c n bs w3 ((unhide HB).below (unhide B3)) (unhide HBS) (unhide HL) (unhide HN)).mono ?_
  rintro e w4 ⟨A4, c4, rfl, hO4, hB4⟩
  obtain ⟨z4, hz4⟩ : ∃ z, z = sgB n bs := ⟨_, rfl⟩
  rw [← hz4] at hO4 ⊢
  have hl4 : z4.length ≤ 4000 := by
    rw [hz4]; unfold sgB
    have h1 := bsB_len bs (unhide HBS)
    have h2 := vnum_len 5 4 (by decide)
    have h3 := vnum_len 5 8 (by decide)
    have h4 := vnum_len 5 n (by have := unhide HN; omega)
    have := unhide HL; have := unhide HN
    simp only [List.length_append]; omega
  have P4 : Hid (w4.heap[p]? = some (.cells cs.toArray 38 (0, 0))) := blk_below (unhide P3) hB4
  have G4 : Hid (Frm w4 g 0 0 (.slice none 0 0)) := blk_below (unhide G3) hB4
  have O4 := hide (Kd.R_below (unhide O3) hB4)
  have C4 : Hid (Kd.C (Kd.int .u8) w4 A4 z4.length z4) := (Kd.R_reads' hO4).2.2
  have B4 := hide (below_step (unhide B3) hB4)
  have HZ4 := hide hz4
  have HL4 := hide hl4
  clear hO4 hB4 hz4 hl4 P3 G3 B3
  go_wp2_with (at_builtin; refine unhide ?_)
  refine hide ?_
  refine Kd.R_append_row (w0 := w) (Value.int .u8) (0 : Int) w.heap.size rfl (.tmp 125) (.tmp 126) 22 5 (.int .u8 0) 1 rfl Tryd.underlying22 info5 rfl (by decide) (.slice A3 z3.length c3) z3 z4 A4 z4.length c4 (fun _ => True) rfl rfl (fun _ _ => trivial) (unhide O4) (unhide C4) (unhide B4) (unhide B4).size (by have := unhide HL3; have := unhide HL4; omega) ?_
  intro v5 w5 hR5 hB5 hg5 hat5
  obtain ⟨z5, hz5⟩ : ∃ z, z = z3 ++ z4 := ⟨_, rfl⟩
  rw [← hz5] at hR5
  obtain ⟨A5, c5, rfl⟩ := Kd.R_slice hR5
  have P5 : Hid (w5.heap[p]? = some (.cells cs.toArray 38 (0, 0))) := blk_grown (unhide P4) hg5 (Kd.R_ne (unhide O4) (unhide P4) (by decide))
  have G5 : Hid (Frm w5 g 0 0 (.slice none 0 0)) := blk_grown (unhide G4) hg5 (Kd.R_ne (unhide O4) (unhide G4) (by decide))
  have O5 := hide hR5
  have B5 := hide hB5
  have HZ5 := hide hz5
  clear hR5 hB5 hg5 hat5
  have hl5 : z5.length ≤ 5000 := by rw [hz5, List.length_append]; have := unhide HL3; have := unhide HL4; omega
  have d5 : ¬ (16384 : Int) < (z5.length : Int) := by omega
  clear hz5 hl5
  go_wp2
  rw [rounds_succ]
  have c0_ := cell_wcl (unhide P5) 0 (unhide HC0)
  obtain ⟨⟨_, _, _⟩, ⟨_, _, _⟩, _⟩ := (unhide G5).cells
  go_wp2
  clear c0_ d5
  have HD : Hid (z5 = (vnum 3 ++ sgB n bs)) := (by show z5 = _; rw [unhide HZ5, unhide HZ3, unhide HZ4])
  rw [← unhide HD]
  have F9 : Frm (((w5.setCell ⟨g, 0, none⟩ (.int .i64 14)).setCell ⟨g, 1, none⟩ (.int .i64 0)).setCell ⟨g, 2, none⟩ (.slice A5 z5.length c5)) g 14 0 (.slice A5 z5.length c5) := blk_put (blk_put (blk_put (unhide G5) 0 _ rfl) 1 _ rfl) 2 _ rfl
  have O9 : Own (((w5.setCell ⟨g, 0, none⟩ (.int .i64 14)).setCell ⟨g, 1, none⟩ (.int .i64 0)).setCell ⟨g, 2, none⟩ (.slice A5 z5.length c5)) w.heap.size (.slice A5 z5.length c5) z5 := Kd.R_set (Kd.R_set (Kd.R_set (unhide O5) (unhide G5) own5_51 0 _) (blk_put (unhide G5) 0 _ rfl) own5_51 1 _) (blk_put (blk_put (unhide G5) 0 _ rfl) 1 _ rfl) own5_51 2 _
  have B9 : Below w.heap.size w (((w5.setCell ⟨g, 0, none⟩ (.int .i64 14)).setCell ⟨g, 1, none⟩ (.int .i64 0)).setCell ⟨g, 2, none⟩ (.slice A5 z5.length c5)) := (((unhide B5).setCell (p := ⟨g, 0, none⟩) (Nat.le_of_lt (Nat.lt_of_le_of_lt (unhide HWP) (unhide HGP))) _).setCell (p := ⟨g, 1, none⟩) (Nat.le_of_lt (Nat.lt_of_le_of_lt (unhide HWP) (unhide HGP))) _).setCell (p := ⟨g, 2, none⟩) (Nat.le_of_lt (Nat.lt_of_le_of_lt (unhide HWP) (unhide HGP))) _
  generalize ((w5.setCell ⟨g, 0, none⟩ (.int .i64 14)).setCell ⟨g, 1, none⟩ (.int .i64 0)).setCell ⟨g, 2, none⟩ (.slice A5 z5.length c5) = w9 at F9 O9 B9 ⊢
  obtain ⟨⟨f0, f1, f2⟩, _, _⟩ := F9.cells
  have hu := Tryd.underlying51
  refine bodyPost_ret (v := .tuple #[.agg #[.int .i64 14, .int .i64 0, .slice A5 z5.length c5], .int .i64 0]) (by simp [results, Tryd.results20, go_sem, f0, f1, f2, hu]) rfl ⟨A5, c5, rfl, O9, B9⟩
end Go.Proofs.YtgoephcembgmcaaDoor.Wd
