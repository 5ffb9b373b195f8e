import Derived.Test.YtgoephcembgmcaaDoorQ08
set_option linter.unusedSimpArgs false
set_option linter.unusedVariables false
namespace Go.Proofs.YtgoephcembgmcaaDoor.Tk
open Go.RowKit Go.Proofs.YtgoephcembgmcaaDoorW.PrintWords Go.Proofs.YtgoephcembgmcaaDoorW.PrintLast Wk FrM Fr Bl Rg
open WkM (w64 Bytes)
/-- A token's bytes; those of a list. -/
def tkB (t : Int × Int × List Int) : List Int := if 0 < t.2.1 then vnum t.2.1.toNat ++ vnum t.1.toNat else vnum 0 ++ vnum t.2.2.length ++ t.2.2
def tksB (us : List (Int × Int × List Int)) : List Int := us.flatMap tkB
def dtB (us : List (Int × Int × List Int)) : List Int := vnum us.length ++ tksB us
theorem tksB_succ {us : List (Int × Int × List Int)} {i : Nat} {t : Int × Int × List Int} (h : us[i]? = some t) : tksB (us.take (i + 1)) = tksB (us.take i) ++ tkB t := by
  unfold tksB
  rw [List.take_add_one, h, List.flatMap_append]
  simp
theorem tkB_len {t : Int × Int × List Int} (h : TkOk t) (hw : tw t ≤ 600) : (tkB t).length ≤ 12 + tw t := by
  unfold tkB tw at *
  rcases h with h | h
  · rw [if_pos h.2.2.1, List.length_append]
    have h1 := vnum_len 5 t.2.1.toNat (by omega)
    have h2 := vnum_len 5 t.1.toNat (by omega)
    omega
  · rw [if_neg (by omega), List.length_append, List.length_append]
    have h1 := vnum_len 5 0 (by decide)
    have h2 := vnum_len 5 t.2.2.length (by omega)
    omega
theorem tksB_len : ∀ {us : List (Int × Int × List Int)}, AllOk us → tws us ≤ 600 → (tksB us).length ≤ 12 * us.length + tws us
  | [], _, _ => Nat.zero_le _
  | t :: us, h, hw => by
    have h0 : tws (t :: us) = tw t + tws us := by simp [tws]
    have h1 := tkB_len (h t List.mem_cons_self) (by omega)
    have h2 := tksB_len (us := us) (fun x hx => h x (List.mem_cons_of_mem _ hx)) (by omega)
    have h3 : tksB (t :: us) = tkB t ++ tksB us := rfl
    rw [h3, List.length_append, List.length_cons, h0]
    omega
theorem tws_take (us : List (Int × Int × List Int)) (i : Nat) : tws (us.take i) ≤ tws us := by
  have h := tws_append (us.take i) (us.drop i)
  rw [List.take_append_drop] at h
  omega
/-- Tokens that lie in a row that begins at its block's head. -/
def TkC (w : World) (A : Option Addr) (us : List (Int × Int × List Int)) : Prop := 0 < us.length → ∃ g, A = some ⟨g, 0, none⟩ ∧ ∀ i t, us[i]? = some t → ∃ A1 c1, t.2.2.length ≤ c1 ∧ (w.cell? ⟨g, i * 3, none⟩ = some (.int .i64 t.1) ∧ w.cell? ⟨g, i * 3 + 1, none⟩ = some (.int .i64 t.2.1) ∧ w.cell? ⟨g, i * 3 + 2, none⟩ = some (.slice A1 t.2.2.length c1)) ∧ Kd.C (Kd.int .u8) w A1 t.2.2.length t.2.2
theorem TkC.below {w w1 : World} {A : Option Addr} {us : List (Int × Int × List Int)} (h : TkC w A us) (hb : Below w.heap.size w w1) : TkC w1 A us := fun h0 => by
  obtain ⟨g, e, hr⟩ := h h0
  refine ⟨g, e, fun i t ht => ?_⟩
  obtain ⟨A1, c1, hl, ⟨h1, h2, h3⟩, hC⟩ := hr i t ht
  exact ⟨A1, c1, hl, ⟨pw_cell_below hb h1, pw_cell_below hb h2, pw_cell_below hb h3⟩, Kd.C_below hC hb⟩
theorem TkC.of_S {w : World} {base n c : Nat} {ok : Nat → Prop} {A : Option Addr} {us : List (Int × Int × List Int)} (h : Kd.S frK 144 w base ok (.slice A n c) us) : TkC w A us := fun h0 => by
  have hR := Kd.S_R h
  have hr := Kd.R_reads' hR
  obtain ⟨ad, hA, _⟩ := hr.2.2.2.2 h0
  subst hA
  obtain ⟨g, rfl⟩ := Kd.R_head hR
  refine ⟨g, rfl, fun i t ht => ?_⟩
  have hi := (List.getElem?_eq_some_iff.1 ht).1
  obtain ⟨ad, cs, hA, hcl, hK, hcc⟩ := Kd.C_get hr.2.2 (0, 0, []) (i : Int) (by omega) (by omega)
  injection hA with hA
  subst hA
  rw [Int.toNat_natCast, List.getD_eq_getElem?_getD, ht] at hK
  obtain ⟨A1, c1, rfl, hl, hC⟩ := frK_K (k := t.1) (s := t.2.1) (xs := t.2.2) hK
  have hsz : frK.sz = 3 := rfl
  simp only [Int.toNat_natCast, hsz, Addr.add_mid, Nat.zero_add] at hcc
  exact ⟨A1, c1, hl, ⟨hcc 0 _ rfl, hcc 1 _ rfl, hcc 2 _ rfl⟩, hC⟩
def T56_9 : Bool × List (List Nat × List Nat) := (true, [([], []), ([], []), ([1], [1]), ([0, 2], [0, 2]), ([], []), ([4], [4]), ([3, 5, 3], [3, 5]), ([6, 6, 0, 1, 2, 3, 4, 5, 6], [0, 6])])
def BT56_9 : List Nat := [0, 0, 2, 7, 0, 16, 63, 127]
theorem tabT56_9 : rtab .any (opsOf Tryd.f56 9) = T56_9 := by kernel_rfl
theorem bitsT56_9 : waitsOk T56_9.2 BT56_9 = true := by kernel_rfl
def T56_11 : Bool × List (List Nat × List Nat) := (true, [([], []), ([0], [0]), ([], []), ([2], [2]), ([3], [3]), ([1, 4, 1], [1, 4]), ([5, 5, 0, 1, 2, 3, 4, 5], [0, 5])])
def BT56_11 : List Nat := [0, 1, 0, 4, 12, 31, 63]
theorem tabT56_11 : rtab .any (opsOf Tryd.f56 11) = T56_11 := by kernel_rfl
theorem bitsT56_11 : waitsOk T56_11.2 BT56_11 = true := by kernel_rfl

set_option maxHeartbeats 8000000 in
set_option maxRecDepth 100000 in
theorem dbytes_ok (A : Option Addr) (c : Nat) (us : List (Int × Int × List Int)) (w : World) (hC : TkC w A us) (hok : AllOk us) (hw : tws us ≤ 501) :
    Calls Tryd.prog 56 #[.slice A us.length c] w fun e w' => ∃ A1 c1, e = .returned (.tuple #[.slice A1 (dtB us).length c1, .int .i64 0]) ∧ Own w' w.heap.size (.slice A1 (dtB us).length c1) (dtB us) ∧ Below w.heap.size w w' := by
  obtain ⟨m, hm⟩ : ∃ m, m = us.length := ⟨_, rfl⟩
  have hml := len_tws hok
  rw [← hm] at hml ⊢
  have d0 : ¬ (8192 : Int) < (m : Int) := by omega
  have HML : Hid (m ≤ 501) := by show _ ≤ _; omega
  have HM := hide hm
  have HC := hide hC
  have HOK := hide hok
  have HW := hide hw
  clear hm hml hC hok hw
  go_enter Tryd.func56, Tryd.ntmps56
  go_wp2_with fail
  refine (num_ok w.heap.size (.slice none 0 0) [] m w (Kd.R_nil _ _ _ _ _) (Nat.le_refl _) (by have := unhide HML; omega) (by decide)).mono ?_
  rintro e w1 ⟨A1, c1, rfl, hO1, hB1, -⟩
  obtain ⟨z1, hz1⟩ : ∃ z, z = vnum m := ⟨_, rfl⟩
  rw [List.nil_append, ← hz1] at hO1 ⊢
  have hl1 : z1.length ≤ 6 := by rw [hz1]; exact vnum_len 5 m (by have := unhide HML; omega)
  have O1 := hide hO1
  have B1 := hide hB1
  have HZ1 := hide hz1
  have HLZ := hide hl1
  clear hO1 hB1 hz1 hl1 d0
  go_wp2
  go_loopg [4, 15] m (fun kq v4 v15 wr => ∃ (i : Nat) (A2 : Option Addr) (c2 : Nat) (zs : List Int), v15 = .int .i64 (i : Int) ∧ v4 = .slice A2 zs.length c2 ∧ Hid (i + kq = m) ∧ Hid (zs = z1 ++ tksB (us.take i)) ∧ Hid (Own wr w.heap.size (.slice A2 zs.length c2) zs) ∧ Hid (Below w.heap.size w wr))
  case atStart => exact ⟨0, A1, c1, z1, rfl, rfl, Nat.zero_add _, (by show z1 = z1 ++ tksB (us.take 0); simp [tksB]), O1, B1⟩
  case round =>
    obtain ⟨i, A2, c2, zs, rfl, rfl, HI, HZ, O2, B2⟩ := hrel
    by_cases hlt : i < m
    · have him : i < us.length := by have := unhide HM; omega
      obtain ⟨t, ht⟩ : ∃ t, us[i]? = some t := ⟨_, List.getElem?_eq_getElem him⟩
      obtain ⟨g, rfl, hr⟩ := (unhide HC) (by omega)
      obtain ⟨A3, c3, hl3, ⟨k0_, k1_, k2_⟩, hC3⟩ := hr i t ht
      have g0_ := pw_cell_below (unhide B2) k0_
      have g1_ := pw_cell_below (unhide B2) k1_
      have g2_ := pw_cell_below (unhide B2) k2_
      clear k0_ k1_ k2_
      have htk := (unhide HOK) t (List.mem_of_getElem? ht)
      have htw := tw_le (List.mem_of_getElem? ht)
      obtain ⟨f, k, ys⟩ := t
      have hzl : zs.length ≤ 7000 := by
        rw [unhide HZ, List.length_append]
        have h1 := tksB_len (us := us.take i) (fun x hx => (unhide HOK) x (List.mem_of_mem_take hx)) (by have := tws_take us i; have := unhide HW; omega)
        have h2 := tws_take us i
        rw [List.length_take] at h1
        have := unhide HLZ; have := unhide HML; have := unhide HW; omega
      obtain ⟨p, hp⟩ : ∃ p, p = wr.heap.size := ⟨_, rfl⟩
      have X5 : Hid (Tkb (wr.alloc (.cells #[.int .i64 f, .int .i64 k, .slice A3 ys.length c3] 144)) p f k (.slice A3 ys.length c3)) := by show Tkb _ _ _ _ _; rw [hp]; exact blk_new _ _
      have O5 := hide (Kd.R_alloc (unhide O2) (.cells #[.int .i64 f, .int .i64 k, .slice A3 ys.length c3] 144))
      have B5 := hide (below_alloc (unhide B2) (.cells #[.int .i64 f, .int .i64 k, .slice A3 ys.length c3] 144))
      have C5 := hide hC3
      have HP := hide hp
      have HZL := hide hzl
      have HTK := hide htk
      have HTW := hide htw
      have HT := hide ht
      have HLT := hide hlt
      have HL3 := hide hl3
      have d1 : (i : Int) < (m : Int) := by omega
      have e1 : wrap64 ((i : Int) + 1) = ((i + 1 : Nat) : Int) := by have := unhide HML; rw [w64 _ (by omega) (by omega)]; omega
      have E1 := hide e1
      obtain ⟨⟨f0, f1, f2⟩, ⟨f3, f4, f5⟩, f6⟩ := (unhide X5).cells
      rw [unhide HP] at f0 f1 f2 f3 f4 f5 f6
      clear e1 hp hzl ht hlt hl3 hC3 hr him htw htk
      rcases unhide HTK with hk | hk
      · obtain ⟨kn, hkn⟩ : ∃ kn : Nat, k = (kn : Int) := ⟨k.toNat, by have := hk.2.2.1; simp only at this; omega⟩
        obtain ⟨fn, hfn⟩ : ∃ fn : Nat, f = (fn : Int) := ⟨f.toNat, by have := hk.1; simp only at this; omega⟩
        subst hkn hfn
        have hys : ys = [] := hk.2.2.2
        subst hys
        have q1 : (0 : Int) < (kn : Int) := hk.2.2.1
        have q2 : (0 : Int) ≤ (fn : Int) := hk.1
        have q3 : (fn : Int) ≤ 1099511627776 := by have := hk.2.1; simp only at this; omega
        have q4 : (kn : Int) ≤ 1099511627776 := by have h1 := unhide HTW; have := unhide HW; simp only [tw] at h1; omega
        have Q1 := hide q1
        have Q3 := hide q3
        have Q4 := hide q4
        clear hk
        go_wp2
        clear q1 q2 q3 q4
        try rw [← unhide HP]
        clear f0 f1 f2 f3 f4 f5 f6 g0_ g1_ g2_
        generalize wr.alloc (.cells #[.int .i64 (fn : Int), .int .i64 (kn : Int), .slice A3 ([] : List Int).length c3] 144) = w5 at X5 O5 B5 ⊢
        have XD : Hid (Tkb w5.drew p (fn : Int) (kn : Int) (.slice A3 0 c3)) := unhide X5
        have OD := hide (Kd.R_drew (unhide O5))
        have BD := hide (below_drew (unhide B5))
        refine start_ (n := 8) (S := fun w' => Tkb w' p (fn : Int) (kn : Int) (.slice A3 0 c3)) (ds := []) (bt 8 0) (by kernel_rfl) rfl (by kernel_rfl) (unhide XD) (fun hHeld => ?_)
        refine with_tabW tabT56_9 bitsT56_9 (fun HT_ HW_ => ?_)
        refine run_ [(0, 44), (1, 45)] ?_
        iterate 2 ((first | refine sp_ (v := ?_) (a' := ?_) HT_.out rfl rfl rfl (by kernel_rfl) (fun _ _ _ h => h) ?_ ?_ ?_ | refine sg_ (v := ?_) (a' := ?_) HT_.out rfl rfl (by kernel_rfl) (fun _ _ _ h => h) (by rfl) ?_ ?_ ?_); rotate_left; (· intro w'; go_simp; with_reducible rfl); rotate_left; (· simp only [Act.put, List.setIfInBounds_toArray, List.set_cons_zero, List.set_cons_succ, i64_w, i32_w]; rfl))
        refine rend_ ?_
        refine take_ (i := 2) (N := some 46) (v := ?_) (a' := ?_) (bt 8 7) rfl rfl (take_ofW HT_.out HW_.out (by kernel_rfl)) (fun _ _ _ h => h) (Or.inl ⟨by rfl, ?_⟩) hHeld ?_ ?_
        rotate_left
        · rintro w' h1_
          obtain ⟨⟨_, _, _⟩, ⟨_, _, _⟩, _⟩ := h1_.cells
          go_simp
          with_reducible rfl
        rotate_left
        · simp only [Act.put, List.setIfInBounds_toArray, List.set_cons_zero, List.set_cons_succ, i64_w, i32_w]
          rfl
        refine run_ [(4, 48)] ?_
        iterate 1 ((first | refine sp_ (v := ?_) (a' := ?_) HT_.out rfl rfl rfl (by kernel_rfl) (fun _ _ _ h => h) ?_ ?_ ?_ | refine sg_ (v := ?_) (a' := ?_) HT_.out rfl rfl (by kernel_rfl) (fun _ _ _ h => h) (by rfl) ?_ ?_ ?_); rotate_left; (· intro w'; go_simp; with_reducible rfl); rotate_left; (· simp only [Act.put, List.setIfInBounds_toArray, List.set_cons_zero, List.set_cons_succ, i64_w, i32_w]; rfl))
        refine rend_ ?_
        refine take_ (i := 5) (N := some 49) (v := ?_) (a' := ?_) (bt 8 55) rfl rfl (take_ofW HT_.out HW_.out (by kernel_rfl)) (fun _ _ _ h => h) (Or.inl ⟨by rfl, ?_⟩) hHeld ?_ ?_
        rotate_left
        · rintro w' h1_
          obtain ⟨⟨_, _, _⟩, ⟨_, _, _⟩, _⟩ := h1_.cells
          go_simp
          with_reducible rfl
        rotate_left
        · simp only [Act.put, List.setIfInBounds_toArray, List.set_cons_zero, List.set_cons_succ, i64_w, i32_w]
          rfl
        refine one_ (i := 3) (N := some 47) (bt 8 63) rfl rfl (one_of HT_.out (by kernel_rfl)) (by decide) (fun K hK => ?_)
        refine goes_ Tryd.func53 (by kernel_rfl) rfl #[.slice A2 zs.length c2, .int .i64 (kn : Int)] (by rfl) rfl rfl (by (try simp only [List.map_toArray, List.map_cons, List.map_nil]); first | done | rfl) ?_
        refine (num_ok w.heap.size (.slice A2 zs.length c2) zs kn _ (unhide OD) (unhide BD).size (by have := unhide Q4; omega) (by have := unhide HZL; omega)).mono ?_
        rintro e w6 ⟨A6, c6, rfl, hO6, hB6, hG6⟩
        refine ⟨_, rfl, ?_⟩
        have X6 : Hid (Tkb w6 p (fn : Int) (kn : Int) (.slice A3 0 c3)) := hG6.blk (unhide XD) (Kd.R_ne (unhide OD) (unhide XD) (by decide))
        obtain ⟨x6, hx6⟩ : ∃ z, z = zs ++ vnum kn := ⟨_, rfl⟩
        rw [← hx6] at hO6 ⊢
        have hl6 : x6.length ≤ 7010 := by rw [hx6, List.length_append]; have := vnum_len 5 kn (by have := unhide Q4; omega); have := unhide HZL; omega
        have O6 := hide hO6
        have B6 := hide ((unhide BD).trans hB6)
        have HX6 := hide hx6
        have HL6 := hide hl6
        clear hO6 hB6 hG6 hx6 hl6
        clear hHeld
        refine hK.out _ _ (unhide X6) (fun hHeld => ?_)
        clear hK K
        refine norm_ (a' := ?_) ?_ ?_
        rotate_left
        · show Act.put _ (some 47) _ = _
          simp only [Act.put, List.setIfInBounds_toArray, List.set_cons_zero, List.set_cons_succ, i64_w, i32_w]
          rfl
        refine one_ (i := 6) (N := some 50) (bt 8 127) rfl rfl (one_of HT_.out (by kernel_rfl)) (by decide) (fun K hK => ?_)
        refine goes_ Tryd.func53 (by kernel_rfl) rfl #[.slice A6 x6.length c6, .int .i64 (fn : Int)] (by rfl) rfl rfl (by (try simp only [List.map_toArray, List.map_cons, List.map_nil]); first | done | rfl) ?_
        refine (num_ok w.heap.size (.slice A6 x6.length c6) x6 fn _ (unhide O6) (unhide B6).size (by have := unhide Q3; omega) (by have := unhide HL6; omega)).mono ?_
        rintro e w7 ⟨A7, c7, rfl, hO7, hB7, hG7⟩
        refine ⟨_, rfl, ?_⟩
        have X7 : Hid (Tkb w7 p (fn : Int) (kn : Int) (.slice A3 0 c3)) := hG7.blk (unhide X6) (Kd.R_ne (unhide O6) (unhide X6) (by decide))
        obtain ⟨x7, hx7⟩ : ∃ z, z = x6 ++ vnum fn := ⟨_, rfl⟩
        rw [← hx7] at hO7 ⊢
        have hl7 : x7.length ≤ 7020 := by rw [hx7, List.length_append]; have := vnum_len 5 fn (by have := unhide Q3; omega); have := unhide HL6; omega
        have O7 := hide hO7
        have B7 := hide ((unhide B6).trans hB7)
        have HX7 := hide hx7
        have HL7 := hide hl7
        clear hO7 hB7 hG7 hx7 hl7
        clear hHeld
        refine hK.out _ _ (unhide X7) (fun hHeld => ?_)
        clear hK K
        refine norm_ (a' := ?_) ?_ ?_
        rotate_left
        · show Act.put _ (some 50) _ = _
          simp only [Act.put, List.setIfInBounds_toArray, List.set_cons_zero, List.set_cons_succ, i64_w, i32_w]
          rfl
        refine run_ [(7, 4)] ?_
        iterate 1 ((first | refine sp_ (v := ?_) (a' := ?_) HT_.out rfl rfl rfl (by kernel_rfl) (fun _ _ _ h => h) ?_ ?_ ?_ | refine sg_ (v := ?_) (a' := ?_) HT_.out rfl rfl (by kernel_rfl) (fun _ _ _ h => h) (by rfl) ?_ ?_ ?_); rotate_left; (· intro w'; go_simp; with_reducible rfl); rotate_left; (· simp only [Act.put, List.setIfInBounds_toArray, List.set_cons_zero, List.set_cons_succ, i64_w, i32_w]; rfl))
        refine rend_ ?_
        refine done_ (done_of HT_.out (by kernel_rfl)) ?_
        clear HT_ HW_ hHeld
        have HZZ : Hid (x7 = z1 ++ tksB (us.take (i + 1))) := by
          show x7 = _
          rw [unhide HX7, unhide HX6, unhide HZ, tksB_succ (unhide HT), tkB, if_pos (unhide Q1)]
          simp only [Int.toNat_natCast, List.append_assoc]
        go_wp2
        go_roundg (gk - 1)
        case measure => have := unhide HI; have := unhide HLT; omega
        case rel => exact ⟨i + 1, A7, c7, x7, by first | exact congrArg (Value.int .i64) (unhide E1) | exact congrArg (Value.int .i64) (by omega), rfl, by have := unhide HI; have := unhide HLT; show _ = _; omega, HZZ, O7, B7⟩
      · have hk1 : k = 0 := hk.2.1
        have hf1 : f = 0 := hk.1
        subst hk1 hf1
        have hyn : ys ≠ [] := hk.2.2
        obtain ⟨yl, hyl⟩ : ∃ yl, yl = ys.length := ⟨_, rfl⟩
        have hyp := List.length_pos_iff.2 hyn
        rw [← hyl] at X5 O5 B5 C5 f0 f1 f2 f3 f4 f5 f6 hyp g2_
        have q1 : (0 : Int) < (yl : Int) := by omega
        have q2 : (yl : Int) ≤ 1099511627776 := by have h1 := unhide HTW; have := unhide HW; simp only [tw] at h1; omega
        have Q1 := hide q1
        have Q2 := hide q2
        have HYL := hide hyl
        clear hk hyn hyp hyl
        go_wp2
        clear q1 q2
        try rw [← unhide HP]
        clear f0 f1 f2 f3 f4 f5 f6 g0_ g1_ g2_
        generalize wr.alloc (.cells #[.int .i64 0, .int .i64 0, .slice A3 yl c3] 144) = w5 at X5 O5 B5 ⊢
        have XD : Hid (Tkb w5.drew p 0 0 (.slice A3 yl c3)) := unhide X5
        have OD := hide (Kd.R_drew (unhide O5))
        have BD := hide (below_drew (unhide B5))
        refine start_ (n := 7) (S := fun w' => Tkb w' p 0 0 (.slice A3 yl c3)) (ds := []) (bt 7 0) (by kernel_rfl) rfl (by kernel_rfl) (unhide XD) (fun hHeld => ?_)
        refine with_tabW tabT56_11 bitsT56_11 (fun HT_ HW_ => ?_)
        refine run_ [(0, 72), (2, 74)] ?_
        iterate 2 ((first | refine sp_ (v := ?_) (a' := ?_) HT_.out rfl rfl rfl (by kernel_rfl) (fun _ _ _ h => h) ?_ ?_ ?_ | refine sg_ (v := ?_) (a' := ?_) HT_.out rfl rfl (by kernel_rfl) (fun _ _ _ h => h) (by rfl) ?_ ?_ ?_); rotate_left; (· intro w'; go_simp; with_reducible rfl); rotate_left; (· simp only [Act.put, List.setIfInBounds_toArray, List.set_cons_zero, List.set_cons_succ, i64_w, i32_w]; rfl))
        refine rend_ ?_
        refine take_ (i := 3) (N := some 75) (v := ?_) (a' := ?_) (bt 7 13) rfl rfl (take_ofW HT_.out HW_.out (by kernel_rfl)) (fun _ _ _ h => h) (Or.inl ⟨by rfl, ?_⟩) hHeld ?_ ?_
        rotate_left
        · rintro w' h1_
          obtain ⟨⟨_, _, _⟩, ⟨_, _, _⟩, _⟩ := h1_.cells
          go_simp
          with_reducible rfl
        rotate_left
        · simp only [Act.put, List.setIfInBounds_toArray, List.set_cons_zero, List.set_cons_succ, i64_w, i32_w]
          rfl
        refine run_ [(4, 76)] ?_
        iterate 1 ((first | refine sp_ (v := ?_) (a' := ?_) HT_.out rfl rfl rfl (by kernel_rfl) (fun _ _ _ h => h) ?_ ?_ ?_ | refine sg_ (v := ?_) (a' := ?_) HT_.out rfl rfl (by kernel_rfl) (fun _ _ _ h => h) (by rfl) ?_ ?_ ?_); rotate_left; (· intro w'; go_simp; with_reducible rfl); rotate_left; (· simp only [Act.put, List.setIfInBounds_toArray, List.set_cons_zero, List.set_cons_succ, i64_w, i32_w]; rfl))
        refine rend_ ?_
        refine one_ (i := 1) (N := some 73) (bt 7 31) rfl rfl (one_of HT_.out (by kernel_rfl)) (by decide) (fun K hK => ?_)
        refine goes_ Tryd.func53 (by kernel_rfl) rfl #[.slice A2 zs.length c2, .int .i64 0] (by rfl) rfl rfl (by (try simp only [List.map_toArray, List.map_cons, List.map_nil]); first | done | rfl) ?_
        refine (num_lit w.heap.size (.slice A2 zs.length c2) zs 0 0 _ rfl (unhide OD) (unhide BD).size (by decide) (by have := unhide HZL; omega)).mono ?_
        rintro e w6 ⟨A6, c6, rfl, hO6, hB6, hG6⟩
        refine ⟨_, rfl, ?_⟩
        have X6 : Hid (Tkb w6 p 0 0 (.slice A3 yl c3)) := hG6.blk (unhide XD) (Kd.R_ne (unhide OD) (unhide XD) (by decide))
        obtain ⟨x6, hx6⟩ : ∃ z, z = zs ++ vnum 0 := ⟨_, rfl⟩
        rw [← hx6] at hO6 ⊢
        have hl6 : x6.length ≤ 7010 := by rw [hx6, List.length_append]; have := vnum_len 5 0 (by have := (0 : Nat).le_refl; omega); have := unhide HZL; omega
        have O6 := hide hO6
        have B6 := hide ((unhide BD).trans hB6)
        have HX6 := hide hx6
        have HL6 := hide hl6
        clear hO6 hB6 hG6 hx6 hl6
        clear hHeld
        refine hK.out _ _ (unhide X6) (fun hHeld => ?_)
        clear hK K
        refine norm_ (a' := ?_) ?_ ?_
        rotate_left
        · show Act.put _ (some 73) _ = _
          simp only [Act.put, List.setIfInBounds_toArray, List.set_cons_zero, List.set_cons_succ, i64_w, i32_w]
          rfl
        refine one_ (i := 5) (N := some 77) (bt 7 63) rfl rfl (one_of HT_.out (by kernel_rfl)) (by decide) (fun K hK => ?_)
        refine goes_ Tryd.func53 (by kernel_rfl) rfl #[.slice A6 x6.length c6, .int .i64 (yl : Int)] (by rfl) rfl rfl (by (try simp only [List.map_toArray, List.map_cons, List.map_nil]); first | done | rfl) ?_
        refine (num_ok w.heap.size (.slice A6 x6.length c6) x6 yl _ (unhide O6) (unhide B6).size (by have := unhide Q2; omega) (by have := unhide HL6; omega)).mono ?_
        rintro e w7 ⟨A7, c7, rfl, hO7, hB7, hG7⟩
        refine ⟨_, rfl, ?_⟩
        have X7 : Hid (Tkb w7 p 0 0 (.slice A3 yl c3)) := hG7.blk (unhide X6) (Kd.R_ne (unhide O6) (unhide X6) (by decide))
        obtain ⟨x7, hx7⟩ : ∃ z, z = x6 ++ vnum yl := ⟨_, rfl⟩
        rw [← hx7] at hO7 ⊢
        have hl7 : x7.length ≤ 7020 := by rw [hx7, List.length_append]; have := vnum_len 5 yl (by have := unhide Q2; omega); have := unhide HL6; omega
        have O7 := hide hO7
        have B7 := hide ((unhide B6).trans hB7)
        have HX7 := hide hx7
        have HL7 := hide hl7
        clear hO7 hB7 hG7 hx7 hl7
        clear hHeld
        refine hK.out _ _ (unhide X7) (fun hHeld => ?_)
        clear hK K
        refine norm_ (a' := ?_) ?_ ?_
        rotate_left
        · show Act.put _ (some 77) _ = _
          simp only [Act.put, List.setIfInBounds_toArray, List.set_cons_zero, List.set_cons_succ, i64_w, i32_w]
          rfl
        refine run_ [(6, 4)] ?_
        iterate 1 ((first | refine sp_ (v := ?_) (a' := ?_) HT_.out rfl rfl rfl (by kernel_rfl) (fun _ _ _ h => h) ?_ ?_ ?_ | refine sg_ (v := ?_) (a' := ?_) HT_.out rfl rfl (by kernel_rfl) (fun _ _ _ h => h) (by rfl) ?_ ?_ ?_); rotate_left; (· intro w'; go_simp; with_reducible rfl); rotate_left; (· simp only [Act.put, List.setIfInBounds_toArray, List.set_cons_zero, List.set_cons_succ, i64_w, i32_w]; rfl))
        refine rend_ ?_
        refine done_ (done_of HT_.out (by kernel_rfl)) ?_
        clear HT_ HW_ hHeld
        have C7 : Hid (Kd.C (Kd.int .u8) w7 A3 yl ys) := Kd.C_below (unhide C5) (unhide B7)
        obtain ⟨⟨f0, f1, f2⟩, ⟨f3, f4, f5⟩, f6⟩ := (unhide X7).cells
        go_wp2_with (at_builtin; refine unhide ?_)
        refine hide ?_
        refine Kd.R_append_row (w0 := w) (Value.int .u8) (0 : Int) w.heap.size rfl (.tmp 78) (.tmp 80) 22 5 (.int .u8 0) 1 rfl Tryd.underlying22 info5 rfl (by decide) (.slice A7 x7.length c7) x7 ys A3 yl c3 (fun _ => True) rfl rfl (fun _ _ => trivial) (unhide O7) (unhide C7) (unhide B7) (unhide B7).size (by have := unhide HL7; have := unhide Q2; omega) ?_
        intro v8 w8 hR8 hB8 hg8 hat8
        obtain ⟨x8, hx8⟩ : ∃ z, z = x7 ++ ys := ⟨_, rfl⟩
        rw [← hx8] at hR8
        obtain ⟨A8, c8, rfl⟩ := Kd.R_slice hR8
        have O8 := hide hR8
        have B8 := hide hB8
        have HX8 := hide hx8
        clear hR8 hB8 hg8 hat8 hx8 f0 f1 f2 f3 f4 f5 f6
        have HZZ : Hid (x8 = z1 ++ tksB (us.take (i + 1))) := by
          show x8 = _
          rw [unhide HX8, unhide HX7, unhide HX6, unhide HZ, tksB_succ (unhide HT), tkB, if_neg (show ¬ (0 : Int) < 0 by decide), unhide HYL]
          simp only [List.append_assoc]
        go_wp2
        go_roundg (gk - 1)
        case measure => have := unhide HI; have := unhide HLT; omega
        case rel => exact ⟨i + 1, A8, c8, x8, by first | exact congrArg (Value.int .i64) (unhide E1) | exact congrArg (Value.int .i64) (by omega), rfl, by have := unhide HI; have := unhide HLT; show _ = _; omega, HZZ, O8, B8⟩
    · have d1 : ¬ (i : Int) < (m : Int) := by omega
      have hz : zs = dtB us := by
        rw [unhide HZ, List.take_of_length_le (by have := unhide HM; omega), unhide HZ1, unhide HM]
        rfl
      have HZZ := hide hz
      clear hlt hz
      go_wp2
      rw [← unhide HZZ]
      refine bodyPost_ret (v := .tuple #[.slice A2 zs.length c2, .int .i64 0]) (by simp [results, Tryd.results56, go_sem]) rfl ⟨A2, c2, rfl, unhide O2, unhide B2⟩
end Go.Proofs.YtgoephcembgmcaaDoor.Tk
namespace Go.Proofs.YtgoephcembgmcaaDoor.Tk
open Go.RowKit Go.Proofs.YtgoephcembgmcaaDoorW.PrintWords Go.Proofs.YtgoephcembgmcaaDoorW.PrintLast Wk FrM Fr Bl Rg
open WkM (w64 Bytes)
theorem mk22 (n : Nat) (hn : n ≤ 100000) : ∃ cur : Array Value, cur.size = n ∧ ∀ W : World, (Instr.makeSlice 22 (.int .i64 (n : Int)) (.int .i64 (n : Int))).run Tryd.prog W = .ok (.slice (some ⟨W.heap.size, 0, none⟩) n n) (W.alloc (.cells cur 5)) := by
  obtain ⟨i0, hi, hz, hsz, hby⟩ := info_parts info5
  refine ⟨madeCells (Value.cells (.int .u8 0)) (n * i0.size), by rw [hsz]; simp [size_madeCells], fun W => ?_⟩
  have h := run_makeSlice (P := Tryd.prog) W 22 5 i0 (.int .u8 0) Tryd.underlying22 hi hz .i64 .i64 (n : Int) (n : Int) (by omega) (Int.le_refl _) (by rw [hsz]; omega) (by rw [hby]; omega) (by omega)
  simpa only [Int.toNat_natCast] using h
theorem tkB_pos {t : Int × Int × List Int} (h : 0 < t.2.1) : tkB t = vnum t.2.1.toNat ++ vnum t.1.toNat := if_pos h
theorem tkB_data {t : Int × Int × List Int} (h : ¬ 0 < t.2.1) : tkB t = vnum 0 ++ vnum t.2.2.length ++ t.2.2 := if_neg h
theorem tksB_drop {us : List (Int × Int × List Int)} {i : Nat} {t : Int × Int × List Int} (h : us[i]? = some t) : tksB (us.drop i) = tkB t ++ tksB (us.drop (i + 1)) := by
  obtain ⟨hi, hb⟩ := List.getElem?_eq_some_iff.1 h
  rw [List.drop_eq_getElem_cons hi, hb]
  rfl
theorem raw_144 : ∀ q, q ∈ 144 :: (Kd.raw 3).E → q ≠ 155 := by
  intro q hq
  simp [Kd.raw] at hq
  omega
theorem raw_5 : ∀ q, q ∈ 144 :: (Kd.raw 3).E → q ≠ 5 := by
  intro q hq
  simp [Kd.raw] at hq
  omega
/-- What delta.Read holds: the reader, the tokens' row. -/
def DI (w0 wr : World) (r : Nat) (ad : Addr) (c : Nat) (L rest : List Int) (v : Value) (xs : List (List Value)) (ok : Nat → Prop) : Prop :=
  RdAt wr r ad c L rest ∧ (Kd.raw 3).R 144 wr w0.heap.size ok v xs ∧ Below w0.heap.size w0 wr
section
variable {w0 wr w1 : World} {r : Nat} {ad : Addr} {c : Nat} {L rest rest' : List Int} {v : Value} {xs : List (List Value)} {ok : Nat → Prop} {p : Nat}
theorem DI.rd (h : DI w0 wr r ad c L rest v xs ok) (hr : RdAt w1 r ad c L rest') (hb : Below w0.heap.size wr w1) (hk : KeepBut wr w1 r none) : DI w0 w1 r ad c L rest' v xs ok := by
  obtain ⟨⟨k, h3, _⟩, h4, h5⟩ := h
  exact ⟨hr, Kd.R_mono (Kd.R_keep (Kd.R_types h4 h3 raw_144) hk (fun k hk => hk.2)) (fun _ hk => hk.1), h5.trans hb⟩
theorem DI.drew (h : DI w0 wr r ad c L rest v xs ok) : DI w0 wr.drew r ad c L rest v xs ok := ⟨h.1, Kd.R_drew h.2.1, below_drew h.2.2⟩
theorem DI.alloc (h : DI w0 wr r ad c L rest v xs ok) (o : Obj) : DI w0 (wr.alloc o) r ad c L rest v xs (fun k => k ≠ wr.heap.size) := by
  obtain ⟨h3, h4, h5⟩ := h
  exact ⟨h3.alloc o, Kd.R_alloc (Kd.R_mono (Kd.R_elderB h4 _ (Nat.le_refl _)) (fun _ hk => hk.2)) o, below_alloc h5 o⟩
theorem DI.alloc' (h : DI w0 wr r ad c L rest v xs ok) (o : Obj) : DI w0 (wr.alloc o) r ad c L rest v xs ok := ⟨h.1.alloc o, Kd.R_alloc h.2.1 o, below_alloc h.2.2 o⟩
theorem DI.cell (h : DI w0 wr r ad c L rest v xs (fun k => k ≠ p)) (h0 : w0.heap.size ≤ p) (hr : r ≠ p) (j : Nat) (u : Value) : DI w0 (wr.setCell ⟨p, j, none⟩ u) r ad c L rest v xs (fun k => k ≠ p) := by
  obtain ⟨h3, h4, h5⟩ := h
  exact ⟨h3.far hr u, Kd.R_far (p := ⟨p, j, none⟩) h4 (fun _ hk => hk) u, h5.setCell (p := ⟨p, j, none⟩) h0 u⟩
theorem DI.byte {pd : Nat} {cur : Array Value} (h : DI w0 wr r ad c L rest v xs ok) (hd : wr.heap[pd]? = some (.cells cur 5 (0, 0))) (h0 : w0.heap.size ≤ pd) (hr : r ≠ pd) (j : Nat) (u : Value) : DI w0 (wr.setCell ⟨pd, j, none⟩ u) r ad c L rest v xs ok := by
  obtain ⟨h3, h4, h5⟩ := h
  exact ⟨h3.far hr u, Kd.R_set h4 hd raw_5 j u, h5.setCell (p := ⟨pd, j, none⟩) h0 u⟩
end
def T39_23 : Bool × List (List Nat × List Nat) := (true, [([], []), ([0], [0]), ([], []), ([], []), ([3], [3]), ([1, 2, 0, 1, 2, 3, 4], [1, 2]), ([5, 4, 4, 0, 1, 2, 3, 4], [4, 5])])
def BT39_23 : List Nat := [0, 1, 0, 0, 8, 31, 63]
theorem tabT39_23 : rtab .any (opsOf Tryd.f39 23) = T39_23 := by kernel_rfl
theorem bitsT39_23 : waitsOk T39_23.2 BT39_23 = true := by kernel_rfl

set_option maxHeartbeats 8000000 in
set_option maxRecDepth 100000 in
theorem dread_ok (ad : Addr) (c : Nat) (us : List (Int × Int × List Int)) (L : List Int) (w : World) (hL : L = dtB us) (hC : Kd.C (Kd.int .u8) w (some ad) L.length L) (hok : AllOk us) (hw : tws us ≤ 501) :
    Calls Tryd.prog 39 #[.slice (some ad) L.length c] w fun e w' => ∃ (A1 : Option Addr) (n1 c1 : Nat), e = .returned (.tuple #[.slice A1 n1 c1, .nilIface]) ∧ Below w.heap.size w w' := by
  have hml := len_tws hok
  have hlen : L.length ≤ 1000000 ∧ 0 < L.length := by
    have h1 := tksB_len hok (by omega)
    have h2 := vnum_len 5 us.length (by omega)
    have h3 := List.length_pos_iff.2 (vnum_ne us.length)
    rw [hL]
    unfold dtB
    rw [List.length_append]
    omega
  have hne : ∀ g, w.heap.size ≤ g → ad.block ≠ g := fun g hg => Kd.far_C 0 hC hg ad rfl hlen.2
  obtain ⟨m, hm⟩ : ∃ m, m = us.length := ⟨_, rfl⟩
  have hat : L.drop 0 = vnum m ++ tksB us := by rw [hL, hm]; rfl
  have d0 : ¬ (8192 : Int) < (m : Int) := by omega
  have HML : Hid (m ≤ 501) := by show _ ≤ _; omega
  have HM := hide hm
  have HC := hide hC
  have HOK := hide hok
  have HW := hide hw
  have HLEN := hide hlen
  have HNE := hide hne
  have HAT := hide hat
  clear hL hm hml hC hok hw hlen hne hat
  go_enter Tryd.func39, Tryd.ntmps39
  go_wp2_with fail
  refine (read_any (some ad) L.length c w).mono ?_
  rintro e w2 ⟨rfl, hr2, hb2⟩
  obtain ⟨r, hr⟩ : ∃ r, r = w.heap.size := ⟨_, rfl⟩
  rw [← hr] at hr2 ⊢
  have HRW : Hid (w.heap.size ≤ r) := by show _ ≤ _; omega
  have I2 : Hid (DI w w2 r ad c L (vnum m ++ tksB us) (.slice none 0 0) [] (fun _ => True)) := ⟨⟨0, hr2, unhide HAT, Nat.zero_le _⟩, Kd.R_nil _ _ _ _ _, hb2⟩
  clear hr2 hb2 hr HAT
  go_wp2_with fail
  refine (num_at r w.heap.size ad c m L _ w2 (unhide I2).1 (Kd.C_below (unhide HC) (unhide I2).2.2) (by have := unhide HML; omega) (unhide HLEN).1 ((unhide HNE) r (unhide HRW)) (unhide HRW)).mono ?_
  rintro e w3 ⟨rfl, hr_, hb_, hk_⟩
  have I3 := hide ((unhide I2).rd hr_ hb_ hk_)
  clear hr_ hb_ hk_
  go_wp2_with fail
  refine (errAt r ad c L _ w3 (unhide I3).1).mono ?_
  intro e w' hh
  rw [hh.1, ← hh.2]
  clear hh
  go_wp2
  clear d0
  go_loopg [6, 7] m (fun kq v6 v7 wr => ∃ (i : Nat) (A1 : Option Addr) (c1 : Nat) (xs : List (List Value)), v7 = .int .i64 (i : Int) ∧ v6 = .slice A1 i c1 ∧ Hid (i + kq = m) ∧ Hid (xs.length = i) ∧ Hid (DI w wr r ad c L (tksB (us.drop i)) (.slice A1 i c1) xs (fun _ => True)))
  case atStart => exact ⟨0, none, 0, [], rfl, rfl, Nat.zero_add _, rfl, I3⟩
  case round =>
    obtain ⟨i, A1, c1, xs, rfl, rfl, HI, HX, I4⟩ := hrel
    by_cases hlt : i < m
    · have him : i < us.length := by have := unhide HM; omega
      obtain ⟨t, ht⟩ : ∃ t, us[i]? = some t := ⟨_, List.getElem?_eq_getElem him⟩
      have htk := (unhide HOK) t (List.mem_of_getElem? ht)
      have htw := tw_le (List.mem_of_getElem? ht)
      obtain ⟨f, k, ys⟩ := t
      obtain ⟨rest, hrest⟩ : ∃ z, z = tksB (us.drop (i + 1)) := ⟨_, rfl⟩
      have I5 : DI w wr r ad c L (tkB (f, k, ys) ++ rest) (.slice A1 i c1) xs (fun _ => True) := by rw [hrest, ← tksB_drop ht]; exact unhide I4
      have d1 : (i : Int) < (m : Int) := by omega
      have HLT := hide hlt
      have HREST := hide hrest
      have HTW := hide htw
      have HTK := hide htk
      have e1 : wrap64 ((i : Int) + 1) = ((i + 1 : Nat) : Int) := by have := unhide HML; rw [w64 _ (by omega) (by omega)]; omega
      have E1 := hide e1
      have I5 := hide I5
      clear him ht htk htw hrest hlt e1 I4
      go_wp2_with fail
      refine (errAt r ad c L _ wr (unhide I5).1).mono ?_
      intro e w' hh
      rw [hh.1, ← hh.2]
      clear hh
      go_wp2_with fail
      refine (atAt r ad c L _ wr (unhide I5).1).mono ?_
      rintro e w' ⟨⟨k9, rfl, _, _⟩, rfl⟩
      go_wp2_with fail
      rcases unhide HTK with hk | hk
      · obtain ⟨kn, hkn⟩ : ∃ kn : Nat, k = (kn : Int) := ⟨k.toNat, by have := hk.2.2.1; simp only at this; omega⟩
        obtain ⟨fn, hfn⟩ : ∃ fn : Nat, f = (fn : Int) := ⟨f.toNat, by have := hk.1; simp only at this; omega⟩
        subst hkn hfn
        have q1 : 0 < kn := by have := hk.2.2.1; simp only at this; omega
        have q3 : fn ≤ 1000 := by have := hk.2.1; simp only at this; omega
        have q4 : kn ≤ 1000 := by have h1 := unhide HTW; have := unhide HW; simp only [tw] at h1; omega
        have J5 : Hid (DI w wr r ad c L (vnum kn ++ (vnum fn ++ rest)) (.slice A1 i c1) xs (fun _ => True)) := by
          have h := unhide I5
          rw [tkB_pos (show (0 : Int) < ((kn : Nat) : Int) by omega)] at h
          simp only [Int.toNat_natCast, List.append_assoc] at h
          exact h
        have Q1 := hide q1
        have Q3 := hide q3
        have Q4 := hide q4
        clear hk q1 q3 q4 I5
        refine (num_at r w.heap.size ad c kn L _ wr (unhide J5).1 (Kd.C_below (unhide HC) (unhide J5).2.2) (by have := unhide Q4; omega) (unhide HLEN).1 ((unhide HNE) r (unhide HRW)) (unhide HRW)).mono ?_
        rintro e w6 ⟨rfl, hr_, hb_, hk_⟩
        have I6 := hide ((unhide J5).rd hr_ hb_ hk_)
        clear hr_ hb_ hk_
        go_wp2_with fail
        refine (num_at r w.heap.size ad c fn L _ w6 (unhide I6).1 (Kd.C_below (unhide HC) (unhide I6).2.2) (by have := unhide Q3; omega) (unhide HLEN).1 ((unhide HNE) r (unhide HRW)) (unhide HRW)).mono ?_
        rintro e w7 ⟨rfl, hr_, hb_, hk_⟩
        have I7 := hide ((unhide I6).rd hr_ hb_ hk_)
        clear hr_ hb_ hk_
        go_wp2_with fail
        obtain ⟨p, hp⟩ : ∃ p, p = w7.heap.size := ⟨_, rfl⟩
        have i8 := (unhide I7).alloc (.cells #[.int .i64 (fn : Int), .int .i64 (kn : Int), .slice none 0 0] 144)
        have x8 : Tkb (w7.alloc (.cells #[.int .i64 (fn : Int), .int .i64 (kn : Int), .slice none 0 0] 144)) p (fn : Int) (kn : Int) (.slice none 0 0) := by rw [hp]; exact blk_new _ _
        rw [← hp] at i8
        try rw [← hp]
        generalize w7.alloc (.cells #[.int .i64 (fn : Int), .int .i64 (kn : Int), .slice none 0 0] 144) = w8 at i8 x8 ⊢
        have I8 := hide i8
        have X8 := hide x8
        clear i8 x8 hp
        refine (errAt r ad c L _ w8 (unhide I8).1).mono ?_
        intro e w' hh
        rw [hh.1, ← hh.2]
        clear hh
        obtain ⟨⟨_, _, _⟩, ⟨_, _, _⟩, _⟩ := (unhide X8).cells
        have d3 : ¬ (kn : Int) = 0 := by have := unhide Q1; omega
        have d4 : ((kn : Int) == 0) = false := by simpa using d3
        go_wp2_with (at_builtin; refine unhide ?_)
        clear d3 d4
        have HXL : Hid (xs.length ≤ 600) := by have := unhide HX; have := unhide HLT; have := unhide HML; show _ ≤ _; omega
        refine hide ?_
        refine Kd.R_append (Kd.raw 3) (w0 := w) (W := w8) w.heap.size rfl (.tmp 93) (.tmp 95) 34 144 (.agg #[.int .i64 0, .int .i64 0, .slice none 0 0]) 40 rfl Tryd.underlying34 info144 rfl (by decide) (by decide) (.slice A1 i c1) xs [.int .i64 (fn : Int), .int .i64 (kn : Int), .slice none 0 0] [.int .i64 (fn : Int), .int .i64 (kn : Int), .slice none 0 0] (fun k => k ≠ p) (fun _ => False) rfl rfl ⟨rfl, rfl, by simp [Value.oneCell']⟩ (fun k h => h.elim) (fun k hk => by have := blk_lt (unhide X8); omega) (unhide I8).2.1 (unhide I8).2.2 (unhide I8).2.2.size (by have := unhide HXL; omega) ?_
        intro v9 w12 hR9 hB9 hg9 hat9
        have R12 := (unhide I8).1.grown hg9 ((unhide I8).1.ne (unhide I8).2.1 (by decide))
        obtain ⟨A9, c9, rfl⟩ := Kd.R_slice hR9
        obtain ⟨zs, hzs⟩ : ∃ zs : List (List Value), zs = xs ++ [[.int .i64 (fn : Int), .int .i64 (kn : Int), .slice none 0 0]] := ⟨_, rfl⟩
        have hzl : zs.length = i + 1 := by rw [hzs, List.length_append, unhide HX]; rfl
        rw [← hzs] at hR9
        have I12 : DI w w12 r ad c L rest (.slice A9 zs.length c9) zs (fun _ => True) := ⟨R12, Kd.R_mono hR9 (fun _ _ => trivial), hB9⟩
        rw [unhide HREST, hzl] at I12
        have he9 : (xs ++ [([.int .i64 (fn : Int), .int .i64 (kn : Int), .slice none 0 0] : List Value)]).length = i + 1 := by rw [← hzs]; exact hzl
        rw [he9]
        have I12 := hide I12
        have HYL9 := hide hzl
        clear hR9 hB9 hg9 hat9 hzl hzs R12 he9
        go_wp2
        go_roundg (gk - 1)
        case measure => have := unhide HI; have := unhide HLT; omega
        case rel => exact ⟨i + 1, A9, c9, zs, by first | exact congrArg (Value.int .i64) (unhide E1) | exact congrArg (Value.int .i64) (by omega), rfl, by have := unhide HI; have := unhide HLT; show _ = _; omega, HYL9, I12⟩
      · have hk1 : k = 0 := hk.2.1
        have hf1 : f = 0 := hk.1
        subst hk1 hf1
        have hyn : ys ≠ [] := hk.2.2
        obtain ⟨yl, hyl⟩ : ∃ yl, yl = ys.length := ⟨_, rfl⟩
        have hyp := List.length_pos_iff.2 hyn
        have q2 : yl ≤ 1000 := by have h1 := unhide HTW; have := unhide HW; simp only [tw] at h1; omega
        have J5 : Hid (DI w wr r ad c L (vnum 0 ++ (vnum yl ++ (ys ++ rest))) (.slice A1 i c1) xs (fun _ => True)) := by
          have h := unhide I5
          rw [tkB_data (show ¬ (0 : Int) < 0 by decide)] at h
          simp only [List.append_assoc] at h
          rw [hyl]
          exact h
        have Q1 : Hid (0 < yl) := by show _ < _; omega
        have Q2 := hide q2
        have HYL := hide hyl
        clear hk hyn hyp hyl q2 I5
        refine (num_at r w.heap.size ad c 0 L _ wr (unhide J5).1 (Kd.C_below (unhide HC) (unhide J5).2.2) (by decide) (unhide HLEN).1 ((unhide HNE) r (unhide HRW)) (unhide HRW)).mono ?_
        rintro e w6 ⟨rfl, hr_, hb_, hk_⟩
        have I6 := hide ((unhide J5).rd hr_ hb_ hk_)
        clear hr_ hb_ hk_
        go_wp2_with fail
        refine (num_at r w.heap.size ad c yl L _ w6 (unhide I6).1 (Kd.C_below (unhide HC) (unhide I6).2.2) (by have := unhide Q2; omega) (unhide HLEN).1 ((unhide HNE) r (unhide HRW)) (unhide HRW)).mono ?_
        rintro e w7 ⟨rfl, hr_, hb_, hk_⟩
        have I7 := hide ((unhide I6).rd hr_ hb_ hk_)
        clear hr_ hb_ hk_
        go_wp2_with fail
        obtain ⟨p, hp⟩ : ∃ p, p = w7.heap.size := ⟨_, rfl⟩
        have i8 := (unhide I7).alloc (.cells #[.int .i64 (yl : Int), .int .i64 0, .slice none 0 0] 144)
        have x8 : Tkb (w7.alloc (.cells #[.int .i64 (yl : Int), .int .i64 0, .slice none 0 0] 144)) p (yl : Int) 0 (.slice none 0 0) := by rw [hp]; exact blk_new _ _
        have hrp : r < p := by obtain ⟨k0, h1, _⟩ := (unhide I7).1; have := blk_lt h1; omega
        rw [← hp] at i8
        try rw [← hp]
        generalize w7.alloc (.cells #[.int .i64 (yl : Int), .int .i64 0, .slice none 0 0] 144) = w8 at i8 x8 ⊢
        have I8 := hide i8
        have X8 := hide x8
        have HRP := hide hrp
        have HWP : Hid (w.heap.size ≤ p) := by have := unhide HRW; show _ ≤ _; omega
        clear i8 x8 hp hrp
        refine (errAt r ad c L _ w8 (unhide I8).1).mono ?_
        intro e w' hh
        rw [hh.1, ← hh.2]
        clear hh
        obtain ⟨⟨_, _, _⟩, ⟨_, _, _⟩, _⟩ := (unhide X8).cells
        go_wp2_with fail
        have i9 := (unhide I8).cell (p := p) (unhide HWP) (Nat.ne_of_lt (unhide HRP)) 0 (.int .i64 0)
        have x9 : Tkb (w8.setCell ⟨p, 0, none⟩ (.int .i64 0)) p 0 0 (.slice none 0 0) := blk_put (unhide X8) 0 _ rfl
        generalize w8.setCell ⟨p, 0, none⟩ (.int .i64 0) = w9 at i9 x9 ⊢
        have I9 := hide i9
        have X9 := hide x9
        clear i9 x9
        refine (atAt r ad c L _ w9 (unhide I9).1).mono ?_
        rintro e w' ⟨⟨k10, rfl, hk10, hk11⟩, rfl⟩
        obtain ⟨lf, hlf⟩ : ∃ lf, lf = L.length - k10 := ⟨_, rfl⟩
        have hlf2 : yl ≤ lf := by
          have h1 := congrArg List.length hk10
          rw [List.length_drop, List.length_append] at h1
          have := unhide HYL
          omega
        have hll := (unhide HLEN).1
        have d3 : ¬ (yl : Int) = 0 := by have := unhide Q1; omega
        have d4 : ((yl : Int) == 0) = false := by simpa using d3
        have d5 : ¬ (lf : Int) < (yl : Int) := by omega
        obtain ⟨cur, hcs, hmk⟩ := mk22 yl (by have := unhide Q2; omega)
        obtain ⟨pd, hpd⟩ : ∃ pd, pd = w9.heap.size := ⟨_, rfl⟩
        have hppd : p < pd := by have := blk_lt (unhide X9); omega
        have i10 := (unhide I9).alloc' (.cells cur 5)
        have x10 : Tkb (w9.alloc (.cells cur 5)) p 0 0 (.slice none 0 0) := blk_alloc (unhide X9) _
        have y10 : (w9.alloc (.cells cur 5)).heap[pd]? = some (.cells cur 5 (0, 0)) := by rw [hpd]; exact blk_new _ _
        have i11 := ((unhide I9).cell (p := p) (unhide HWP) (Nat.ne_of_lt (unhide HRP)) 2 (.slice (some ⟨pd, 0, none⟩) yl yl)).alloc' (.cells cur 5)
        have x11 : Tkb ((w9.setCell ⟨p, 2, none⟩ (.slice (some ⟨pd, 0, none⟩) yl yl)).alloc (.cells cur 5)) p 0 0 (.slice (some ⟨pd, 0, none⟩) yl yl) := blk_alloc (blk_put (unhide X9) 2 _ rfl) _
        have y11 : ((w9.setCell ⟨p, 2, none⟩ (.slice (some ⟨pd, 0, none⟩) yl yl)).alloc (.cells cur 5)).heap[pd]? = some (.cells cur 5 (0, 0)) := by
          have h := blk_new (w9.setCell ⟨p, 2, none⟩ (.slice (some ⟨pd, 0, none⟩) yl yl)) (.cells cur 5)
          rw [size_set, ← hpd] at h
          exact h
        have HPP := hide hppd
        obtain ⟨⟨_, _, _⟩, ⟨_, _, _⟩, _⟩ := (unhide X9).cells
        obtain ⟨⟨_, _, _⟩, ⟨_, _, _⟩, _⟩ := x10.cells
        obtain ⟨⟨_, _, _⟩, ⟨_, _, _⟩, _⟩ := x11.cells
        have I11 := hide i11
        have X11 := hide x11
        have Y11 := hide y11
        have HCS := hide hcs
        have e2 : wrap64 ((L.length : Int) - (k10 : Int)) = (lf : Int) := by rw [w64 _ (by omega) (by omega)]; omega
        rw [hpd] at I11 X11 Y11
        have HPD := hide hpd
        clear hk10 hk11 hlf hlf2 hll i10 x10 y10 i11 x11 y11 hcs hppd
        subst hpd
        go_wp2
        clear d3 d4 d5 e2 hmk
        obtain ⟨pd, hpd⟩ : ∃ pd, pd = w9.heap.size := ⟨_, rfl⟩
        rw [← hpd] at I11 X11 Y11 HPP ⊢
        clear hpd HPD
        generalize (w9.setCell ⟨p, 2, none⟩ (.slice (some ⟨pd, 0, none⟩) yl yl)).alloc (.cells cur 5) = w11 at I11 X11 Y11 ⊢
        obtain ⟨gk1, h_⟩ : ∃ k, k = gk := ⟨_, rfl⟩
        subst h_
        obtain ⟨wr1, h_⟩ : ∃ k, k = wr := ⟨_, rfl⟩
        subst h_
        go_loopg [83] yl (fun kq v83 wr => ∃ (j : Nat) (cur : Array Value), v83 = .int .i64 (j : Int) ∧ Hid (j + kq = yl) ∧ Hid (DI w wr r ad c L (ys.drop j ++ rest) (.slice A1 i c1) xs (fun k => k ≠ p)) ∧ Hid (Tkb wr p 0 0 (.slice (some ⟨pd, 0, none⟩) yl yl)) ∧ Hid (wr.heap[pd]? = some (.cells cur 5 (0, 0))) ∧ Hid (cur.size = yl))
        case atStart => exact ⟨0, cur, rfl, Nat.zero_add _, I11, X11, Y11, HCS⟩
        case round =>
          obtain ⟨j, cur, rfl, HJ, J1, K1, M1, N1⟩ := hrel
          by_cases hj : j < yl
          · obtain ⟨x, hx⟩ : ∃ x, ys[j]? = some x := ⟨_, List.getElem?_eq_getElem (by rw [← unhide HYL]; exact hj)⟩
            have j2 : DI w wr r ad c L (x :: (ys.drop (j + 1) ++ rest)) (.slice A1 i c1) xs (fun k => k ≠ p) := by
              have h := unhide J1
              obtain ⟨h1, h2⟩ := List.getElem?_eq_some_iff.1 hx
              rw [List.drop_eq_getElem_cons h1, h2] at h
              exact h
            have d2 : (j : Int) < (yl : Int) := by omega
            have JD := hide j2.drew
            have KD : Hid (Tkb wr.drew p 0 0 (.slice (some ⟨pd, 0, none⟩) yl yl)) := unhide K1
            have MD : Hid (wr.drew.heap[pd]? = some (.cells cur 5 (0, 0))) := unhide M1
            have HJL := hide hj
            have e5 : wrap64 ((j : Int) + 1) = ((j + 1 : Nat) : Int) := by have := unhide Q2; rw [w64 _ (by omega) (by omega)]; omega
            have E5 := hide e5
            clear hj hx J1 j2 e5
            go_wp2
            refine start_ (n := 7) (S := fun w' => Tkb w' p 0 0 (.slice (some ⟨pd, 0, none⟩) yl yl)) (ds := [6]) (bt 7 0) (by kernel_rfl) rfl (by kernel_rfl) (unhide KD) (fun hHeld => ?_)
            refine with_tabW tabT39_23 bitsT39_23 (fun HT_ HW_ => ?_)
            refine run_ [(0, 86)] ?_
            iterate 1 ((first | refine sp_ (v := ?_) (a' := ?_) HT_.out rfl rfl rfl (by kernel_rfl) (fun _ _ _ h => h) ?_ ?_ ?_ | refine sg_ (v := ?_) (a' := ?_) HT_.out rfl rfl (by kernel_rfl) (fun _ _ _ h => h) (by rfl) ?_ ?_ ?_); rotate_left; (· intro w'; go_simp; with_reducible rfl); rotate_left; (· simp only [Act.put, List.setIfInBounds_toArray, List.set_cons_zero, List.set_cons_succ, i64_w, i32_w]; rfl))
            refine rend_ ?_
            refine take_ (i := 1) (N := some 87) (v := ?_) (a' := ?_) (bt 7 3) rfl rfl (take_ofW HT_.out HW_.out (by kernel_rfl)) (fun _ _ _ h => h) (Or.inl ⟨by rfl, ?_⟩) hHeld ?_ ?_
            rotate_left
            · rintro w' h1_
              obtain ⟨⟨_, _, _⟩, ⟨_, _, _⟩, _⟩ := h1_.cells
              go_simp
              with_reducible rfl
            rotate_left
            · simp only [Act.put, List.setIfInBounds_toArray, List.set_cons_zero, List.set_cons_succ, i64_w, i32_w]
              rfl
            refine run_ [(2, 88), (3, 89)] ?_
            iterate 2 ((first | refine sp_ (v := ?_) (a' := ?_) HT_.out rfl rfl rfl (by kernel_rfl) (fun _ _ _ h => h) ?_ ?_ ?_ | refine sg_ (v := ?_) (a' := ?_) HT_.out rfl rfl (by kernel_rfl) (fun _ _ _ h => h) (by rfl) ?_ ?_ ?_); rotate_left; (· intro w'; go_simp; with_reducible rfl); rotate_left; (· simp only [Act.put, List.setIfInBounds_toArray, List.set_cons_zero, List.set_cons_succ, i64_w, i32_w]; rfl))
            refine rend_ ?_
            refine one_ (i := 4) (N := some 90) (bt 7 31) rfl rfl (one_of HT_.out (by kernel_rfl)) (by decide) (fun K hK => ?_)
            refine goes_ Tryd.func37 (by kernel_rfl) rfl #[.pointer (some ⟨r, 0, none⟩)] (by rfl) rfl rfl (by (try simp only [List.map_toArray, List.map_cons, List.map_nil]); first | done | rfl) ?_
            refine (byte_at r w.heap.size ad c x L _ _ (unhide JD).1 (Kd.C_below (unhide HC) (unhide JD).2.2) (unhide HLEN).1 ((unhide HNE) r (unhide HRW)) (unhide HRW)).mono ?_
            rintro e w10 ⟨rfl, hr10, hb10, hk10⟩
            refine ⟨_, rfl, ?_⟩
            have j3 := (unhide JD).rd hr10 hb10 hk10
            have K3 : Hid (Tkb w10 p 0 0 (.slice (some ⟨pd, 0, none⟩) yl yl)) := blk_rd (unhide KD) hk10 (by have := unhide HRP; omega)
            have M3 : Hid (w10.heap[pd]? = some (.cells cur 5 (0, 0))) := blk_rd (unhide MD) hk10 (by have := unhide HRP; have := unhide HPP; omega)
            have J3 := hide j3
            clear j3 hr10 hb10 hk10
            clear hHeld
            refine hK.out _ _ (unhide K3) (fun hHeld => ?_)
            clear hK K
            refine norm_ (a' := ?_) ?_ ?_
            rotate_left
            · show Act.put _ (some 90) _ = _
              simp only [Act.put, List.setIfInBounds_toArray, List.set_cons_zero, List.set_cons_succ, i64_w, i32_w]
              rfl
            refine run_ [(5, 91)] ?_
            iterate 1 ((first | refine sp_ (v := ?_) (a' := ?_) HT_.out rfl rfl rfl (by kernel_rfl) (fun _ _ _ h => h) ?_ ?_ ?_ | refine sg_ (v := ?_) (a' := ?_) HT_.out rfl rfl (by kernel_rfl) (fun _ _ _ h => h) (by rfl) ?_ ?_ ?_); rotate_left; (· intro w'; go_simp; with_reducible rfl); rotate_left; (· simp only [Act.put, List.setIfInBounds_toArray, List.set_cons_zero, List.set_cons_succ, i64_w, i32_w]; rfl))
            refine rend_ ?_
            refine last_ (i := 6) (N := none) (bt 7 127) rfl rfl (one_of HT_.out (by kernel_rfl)) (by decide) (fun K hK => ?_)
            have g0_ : ∃ u, w10.cell? ⟨pd, j, none⟩ = some u := ⟨_, (blk_cell (unhide M3) j).trans (Array.getElem?_eq_getElem (by have := unhide N1; have := unhide HJL; omega))⟩
            obtain ⟨u, g0_⟩ := g0_
            have g1_ : w10.frozen? ⟨pd, j, none⟩ = false := blk_frozen (unhide M3) j
            refine skip_ (w1 := ?w7) (wanted_none rfl) rfl ?hrun ?_
            case hrun =>
              go_simp
              rfl
            refine hK.out _ _ ?_
            clear hK K
            refine done_ (done_of HT_.out (by kernel_rfl)) ?_
            clear HT_ HW_; (try clear hHeld)
            have J5 := hide ((unhide J3).byte (unhide M3) (by have := unhide HWP; have := unhide HPP; omega) (by have := unhide HRP; have := unhide HPP; omega) j (.int .u8 x))
            have K5 : Hid (Tkb (w10.setCell ⟨pd, j, none⟩ (.int .u8 x)) p 0 0 (.slice (some ⟨pd, 0, none⟩) yl yl)) := blk_far (unhide K3) (by show p ≠ pd; have := unhide HPP; omega) _
            have M5 := hide (blk_put (unhide M3) j (.int .u8 x) rfl)
            have N5 : Hid ((cur.setIfInBounds j (.int .u8 x)).size = yl) := by show _ = _; rw [Array.size_setIfInBounds]; exact unhide N1
            go_wp2
            go_roundg (gk - 1)
            case measure => have := unhide HJ; have := unhide HJL; omega
            case rel => exact ⟨j + 1, _, by first | exact congrArg (Value.int .i64) (unhide E5) | exact congrArg (Value.int .i64) (by omega), by have := unhide HJ; have := unhide HJL; show _ = _; omega, J5, K5, M5, N5⟩
          · have d2 : ¬ (j : Int) < (yl : Int) := by omega
            have I8 : Hid (DI w wr r ad c L rest (.slice A1 i c1) xs (fun k => k ≠ p)) := by
              have h := unhide J1
              rw [List.drop_of_length_le (by rw [← unhide HYL]; omega)] at h
              exact h
            obtain ⟨⟨_, _, _⟩, ⟨_, _, _⟩, _⟩ := (unhide K1).cells
            clear hj J1
            go_wp2_with (at_builtin; refine unhide ?_)
            have HXL : Hid (xs.length ≤ 600) := by have := unhide HX; have := unhide HLT; have := unhide HML; show _ ≤ _; omega
            refine hide ?_
            refine Kd.R_append (Kd.raw 3) (w0 := w) (W := wr) w.heap.size rfl (.tmp 93) (.tmp 95) 34 144 (.agg #[.int .i64 0, .int .i64 0, .slice none 0 0]) 40 rfl Tryd.underlying34 info144 rfl (by decide) (by decide) (.slice A1 i c1) xs [.int .i64 0, .int .i64 0, .slice (some ⟨pd, 0, none⟩) yl yl] [.int .i64 0, .int .i64 0, .slice (some ⟨pd, 0, none⟩) yl yl] (fun k => k ≠ p) (fun _ => False) rfl rfl ⟨rfl, rfl, by simp [Value.oneCell']⟩ (fun k h => h.elim) (fun k hk => by have := blk_lt (unhide K1); omega) (unhide I8).2.1 (unhide I8).2.2 (unhide I8).2.2.size (by have := unhide HXL; omega) ?_
            intro v9 w12 hR9 hB9 hg9 hat9
            have R12 := (unhide I8).1.grown hg9 ((unhide I8).1.ne (unhide I8).2.1 (by decide))
            obtain ⟨A9, c9, rfl⟩ := Kd.R_slice hR9
            obtain ⟨zs, hzs⟩ : ∃ zs : List (List Value), zs = xs ++ [[.int .i64 0, .int .i64 0, .slice (some ⟨pd, 0, none⟩) yl yl]] := ⟨_, rfl⟩
            have hzl : zs.length = i + 1 := by rw [hzs, List.length_append, unhide HX]; rfl
            rw [← hzs] at hR9
            have I12 : DI w w12 r ad c L rest (.slice A9 zs.length c9) zs (fun _ => True) := ⟨R12, Kd.R_mono hR9 (fun _ _ => trivial), hB9⟩
            rw [unhide HREST, hzl] at I12
            have he9 : (xs ++ [([.int .i64 0, .int .i64 0, .slice (some ⟨pd, 0, none⟩) yl yl] : List Value)]).length = i + 1 := by rw [← hzs]; exact hzl
            rw [he9]
            have I12 := hide I12
            have HYL9 := hide hzl
            clear hR9 hB9 hg9 hat9 hzl hzs R12 he9
            go_wp2
            go_roundg (gk1 - 1)
            case measure => have := unhide HI; have := unhide HLT; omega
            case rel => exact ⟨i + 1, A9, c9, zs, by first | exact congrArg (Value.int .i64) (unhide E1) | exact congrArg (Value.int .i64) (by omega), rfl, by have := unhide HI; have := unhide HLT; show _ = _; omega, HYL9, I12⟩
    · have d1 : ¬ (i : Int) < (m : Int) := by omega
      have I8 : Hid (DI w wr r ad c L [] (.slice A1 i c1) xs (fun _ => True)) := by
        have h := unhide I4
        rw [List.drop_of_length_le (by have := unhide HM; omega)] at h
        exact h
      clear hlt I4
      go_wp2_with fail
      refine (endAt r ad c L wr (unhide I8).1).mono ?_
      rintro e w9 ⟨rfl, hb9⟩
      have B9 := hide (below_step (unhide I8).2.2 hb9)
      clear hb9
      go_wp2
      refine bodyPost_ret (v := .tuple #[.slice A1 i c1, .nilIface]) (by simp [results, Tryd.results39, go_sem]) rfl ⟨A1, i, c1, rfl, unhide B9⟩
end Go.Proofs.YtgoephcembgmcaaDoor.Tk
namespace Go.Proofs.YtgoephcembgmcaaDoor.Tk
open Go.RowKit Go.Proofs.YtgoephcembgmcaaDoorW.PrintWords Go.Proofs.YtgoephcembgmcaaDoorW.PrintLast Wk FrM Fr Bl Sh Rg
open WkM (w64 Bytes)
/-- What is told, as cells. -/
def tcl (v : Value) (c : Int) (s : List Int) : List Value := v :: .int .i64 c :: s.map (Value.int .u8)
theorem tcl_len (v : Value) (c : Int) (s : List Int) (h : s.length = 32) : (tcl v c s).length = 34 := by unfold tcl; rw [List.length_cons, List.length_cons, List.length_map, h]
theorem tcl_one (A : Option Addr) (n k : Nat) (c : Int) (s : List Int) : ∀ u ∈ tcl (.slice A n k) c s, u.oneCell' = true := by
  intro u hu
  unfold tcl at hu
  rcases List.mem_cons.1 hu with hu | hu
  · rw [hu]; rfl
  · rcases List.mem_cons.1 hu with hu | hu
    · rw [hu]; rfl
    · obtain ⟨x, _, rfl⟩ := List.mem_map.1 hu; rfl
theorem size36 : (Tryd.prog.info? 36).map (·.size) = some 34 := by kernel_rfl
theorem built36_ (A : Option Addr) (n k : Nat) (v a0 a1 a2 a3 a4 a5 a6 a7 a8 a9 a10 a11 a12 a13 a14 a15 a16 a17 a18 a19 a20 a21 a22 a23 a24 a25 a26 a27 a28 a29 a30 a31 : Int) : Tryd.prog.built 36 [(0, .slice A n k), (1, .int .i64 v), (2, .agg (bys [a0, a1, a2, a3, a4, a5, a6, a7, a8, a9, a10, a11, a12, a13, a14, a15, a16, a17, a18, a19, a20, a21, a22, a23, a24, a25, a26, a27, a28, a29, a30, a31]))] = some (tcl (.slice A n k) v [a0, a1, a2, a3, a4, a5, a6, a7, a8, a9, a10, a11, a12, a13, a14, a15, a16, a17, a18, a19, a20, a21, a22, a23, a24, a25, a26, a27, a28, a29, a30, a31]).toArray := by kernel_rfl
theorem built36 (A : Option Addr) (n k : Nat) (v : Int) (s : List Int) (h : s.length = 32) : Tryd.prog.built 36 [(0, .slice A n k), (1, .int .i64 v), (2, .agg (bys s))] = some (tcl (.slice A n k) v s).toArray := by
  match s, h with
  | [a0, a1, a2, a3, a4, a5, a6, a7, a8, a9, a10, a11, a12, a13, a14, a15, a16, a17, a18, a19, a20, a21, a22, a23, a24, a25, a26, a27, a28, a29, a30, a31], _ => exact built36_ A n k v a0 a1 a2 a3 a4 a5 a6 a7 a8 a9 a10 a11 a12 a13 a14 a15 a16 a17 a18 a19 a20 a21 a22 a23 a24 a25 a26 a27 a28 a29 a30 a31
/-- A whole cell row, and a number beside it. -/
theorem results_cell_tmp {P : Program} {fn : Func} {p q : Tmp} {ty : TypeId} (h : fn.results = #[.cell p ty, .tmp q]) (tmps : Array Value) (w : World) (g : Nat) (t : TypeId) (cs : Array Value) (fr : Nat × Nat) (d : TypeDesc) (u : Value)
    (hp : tmps.getD p undef = .pointer (some ⟨g, 0, none⟩)) (hq : tmps.getD q undef = u) (hg : w.heap[g]? = some (.cells cs t fr))
    (hu : P.underlying ty = some d) (hd : (match d with | .struct _ | .array _ _ => true | _ => false) = true) (hi : (P.info? ty).map (·.size) = some cs.size) :
    (results fn tmps).run P w = .ok (.tuple #[.agg cs, u]) w := by
  have hp' : tmps[p]?.getD undef = .pointer (some ⟨g, 0, none⟩) := by simpa using hp
  have hq' : tmps[q]?.getD undef = u := by simpa using hq
  simp [results, h, hp', hq', asAddr, run_loadVar_row w g t ty cs fr d hg hu hd hi]
theorem wpList_build3 {P : Program} {w : World} {ops : Array Oper} {rest : List Oper} {o : Oper} {a : Act} {Q : Exit → Act → World → Prop} (hg : o.guard = none) (t : TypeId) (i j k : Nat) (x y z : Operand) (ho : o.op = .build t #[(i, x), (j, y), (k, z)]) (vx vy vz : Value) (hx : a.eval x = vx) (hy : a.eval y = vy) (hz : a.eval z = vz) (cs : Array Value)
    (hb : P.built t [(i, vx), (j, vy), (k, vz)] = some cs) (h : wpList P ops Q rest (a.put o.dst (.agg cs)) w) : wpList P ops Q (o :: rest) a w :=
  wpList_build_is hg t _ ho cs (by simp only [List.map_toArray, List.map_cons, List.map_nil, hx, hy, hz]; exact hb) h
theorem cut_sum_m (A : Option Addr) (c N : Nat) (l : List Int) (w : World) (hN : N = l.length) (hr : Kd.C (Kd.int .u8) w A l.length l) (hl : Bytes l) (hc : l.length ≤ c) (hn : l.length ≤ 100000) :
    Calls Tryd.prog 25 #[.int .i64 32, .slice A N c] w fun e w' => e = .returned (.agg (bys (S l))) ∧ Below w.heap.size w w' := by
  subst hN
  exact cut_sum A c l w hr hl hc hn
theorem tk36 : ∀ q, q ∈ 144 :: frK.E → q ≠ 36 := by
  intro q hq
  simp [frK, Kd.pair, Kd.slice, Kd.int, Kd.scalar] at hq
  omega
theorem dmake_ok_m (A : Option Addr) (c n m : Nat) (bs : List (Int × List Int)) (ad : Addr) (c1 N : Nat) (L : List Int) (w : World) (hm : m = bs.length) (hN : N = L.length) (hC : BkC w A bs) (hbs : ∀ b ∈ bs, Blk b) (hl : bs.length = (n + 3) / 4) (hn : n ≤ 500)
    (hr : Kd.C (Kd.int .u8) w (some ad) L.length L) (hL : Bytes L) (hc : L.length ≤ c1) (hLn : L.length ≤ 501) :
    Calls Tryd.prog 24 #[sgV n (.slice A m c), .slice (some ad) N c1] w fun e w' => ∃ (A2 : Option Addr) (c2 : Nat) (us : List (Int × Int × List Int)), e = .returned (.tuple #[.slice A2 us.length c2, .int .i64 0]) ∧ Kd.S frK 144 w' w.heap.size (fun _ => True) (.slice A2 us.length c2) us ∧ AllOk us ∧ tws us ≤ 501 ∧ Below w.heap.size w w' := by
  subst hm hN
  exact dmake_ok A c n bs ad c1 L w hC hbs hl hn hr hL hc hLn
set_option maxHeartbeats 4000000 in
set_option maxRecDepth 100000 in
theorem tell_ok (A : Option Addr) (c n : Nat) (bs : List (Int × List Int)) (ad : Addr) (c1 : Nat) (L : List Int) (w : World) (hC : BkC w A bs) (hbs : ∀ b ∈ bs, Blk b) (hl : bs.length = (n + 3) / 4) (hn : n ≤ 500)
    (hr : Kd.C (Kd.int .u8) w (some ad) L.length L) (hL : Bytes L) (hc : L.length ≤ c1) (hLn : L.length ≤ 501) :
    Calls Tryd.prog 7 #[sgV n (.slice A bs.length c), .slice (some ad) L.length c1, .int .i64 32] w fun e w' => ∃ (A2 : Option Addr) (c2 : Nat) (us : List (Int × Int × List Int)), e = .returned (.tuple #[.agg (tcl (.slice A2 us.length c2) 32 (S L)).toArray, .int .i64 0]) ∧ Kd.S frK 144 w' w.heap.size (fun _ => True) (.slice A2 us.length c2) us ∧ AllOk us ∧ tws us ≤ 501 ∧ Below w.heap.size w w' := by
  obtain ⟨m, hm⟩ : ∃ m, m = bs.length := ⟨_, rfl⟩
  obtain ⟨N, hN⟩ : ∃ N, N = L.length := ⟨_, rfl⟩
  have d0 : ¬ (65536 : Int) < (N : Int) := by omega
  have HM := hide hm
  have HNL := hide hN
  have HL := hide hl
  have HN := hide hn
  have HC := hide hC
  have HB := hide hbs
  have HR := hide hr
  have HY := hide hL
  have HCC := hide hc
  have HLN := hide hLn
  rw [← hm, ← hN]
  clear hm hl hn hC hbs hr hL hc hLn hN
  go_enter Tryd.func7, Tryd.ntmps7
  go_wp2_with fail
  have B1 : Below w.heap.size w ((w.alloc (.cells #[.int .i64 4, .int .i64 8, .int .i64 (n : Int), .slice A m c] 33)).alloc (.cells (tcl (.slice none 0 0) 0 (List.replicate 32 0)).toArray 36)) := below_alloc (below_alloc (Below.refl _ _) _) _
  have G1 : ((w.alloc (.cells #[.int .i64 4, .int .i64 8, .int .i64 (n : Int), .slice A m c] 33)).alloc (.cells (tcl (.slice none 0 0) 0 (List.replicate 32 0)).toArray 36)).heap[w.heap.size + 1]? = some (.cells (tcl (.slice none 0 0) 0 (List.replicate 32 0)).toArray 36 (0, 0)) := by
    have h := blk_new (w.alloc (.cells #[.int .i64 4, .int .i64 8, .int .i64 (n : Int), .slice A m c] 33)) (.cells (tcl (.slice none 0 0) 0 (List.replicate 32 0)).toArray 36)
    rw [World.size_alloc] at h
    exact h
  show Calls _ _ _ ((w.alloc (.cells #[.int .i64 4, .int .i64 8, .int .i64 (n : Int), .slice A m c] 33)).alloc (.cells (tcl (.slice none 0 0) 0 (List.replicate 32 0)).toArray 36)) _
  obtain ⟨g, hg⟩ : ∃ g, g = w.heap.size + 1 := ⟨_, rfl⟩
  rw [← hg] at G1 ⊢
  have HGW : Hid (w.heap.size ≤ g) := by show _ ≤ _; omega
  generalize (w.alloc (.cells #[.int .i64 4, .int .i64 8, .int .i64 (n : Int), .slice A m c] 33)).alloc (.cells (tcl (.slice none 0 0) 0 (List.replicate 32 0)).toArray 36) = w1 at B1 G1 ⊢
  refine (dmake_ok_m A c n m bs ad c1 N L w1 (unhide HM) (unhide HNL) ((unhide HC).below B1) (unhide HB) (unhide HL) (unhide HN) (Kd.C_below (unhide HR) B1) (unhide HY) (unhide HCC) (unhide HLN)).mono ?_
  rintro e w2 ⟨A2, c2, us, rfl, hS2, hok2, htw2, hb2⟩
  have S2 := hide (Kd.S_lower hS2 B1.size)
  have OK2 := hide hok2
  have TW2 := hide htw2
  have G2 := hide (blk_below G1 hb2)
  have B2 := hide (below_step B1 hb2)
  clear B1 G1 hS2 hok2 htw2 hb2 hg
  go_wp2_with fail
  refine (cut_sum_m (some ad) c1 N L w2 (unhide HNL) (Kd.C_below (unhide HR) (unhide B2)) (unhide HY) (unhide HCC) (by have := unhide HLN; omega)).mono ?_
  rintro e w3 ⟨rfl, hb3⟩
  have S3 := hide (Kd.S_below (unhide S2) hb3)
  have G3 := hide (blk_below (unhide G2) hb3)
  have B3 := hide (below_step (unhide B2) hb3)
  clear hb3 S2 G2 B2
  obtain ⟨sm, hsm⟩ : ∃ z, z = S L := ⟨_, rfl⟩
  have h32 : sm.length = 32 := by rw [hsm]; exact S_len L
  rw [← hsm]
  have SZ : Hid ((Tryd.prog.info? 36).map (·.size) = some (tcl (.slice A2 us.length c2) 32 sm).toArray.size) := by show _ = _; rw [List.size_toArray, tcl_len _ _ _ h32]; exact size36
  have SO : Hid ((tcl (.slice A2 us.length c2) 32 sm).toArray.size = (tcl (.slice none 0 0) 0 (List.replicate 32 0)).toArray.size) := by show _ = _; rw [List.size_toArray, List.size_toArray, tcl_len _ _ _ h32]; rfl
  have HSM := hide hsm
  have H32 := hide h32
  clear hsm h32
  go_wp2_with (first | (refine wpList_build3 rfl 36 0 1 2 (.tmp 24) (.tmp 25) (.tmp 28) rfl (.slice A2 us.length c2) (.int .i64 32) (.agg (bys sm)) rfl rfl rfl (tcl (.slice A2 us.length c2) 32 sm).toArray ?_ ?_; focus exact built36 A2 us.length c2 32 sm (unhide H32)) | refine wpList_store_row rfl 36 (.tmp 6) (.tmp 29) rfl g (tcl (.slice A2 us.length c2) 32 sm).toArray rfl rfl 36 _ (unhide G3) (unhide SZ) (unhide SO).symm (all_oneCell_toArray (tcl_one _ _ _ _ _)) ?_)
  have S4 := Kd.S_mono (Kd.S_step (w1 := w3.setRow g (tcl (.slice A2 us.length c2) 32 sm).toArray) (Kd.S_types (unhide S3) (unhide G3) tk36) (fun k hk _ => setRow_other w3 g k _ hk.2)) (ok' := fun _ => True) (fun _ _ => trivial)
  refine bodyPost_ret (v := .tuple #[.agg (tcl (.slice A2 us.length c2) 32 sm).toArray, .int .i64 0]) (results_cell_tmp rfl _ _ g 36 _ (0, 0) _ _ rfl rfl (setRow_heap _ _ _ _ 36 _ (unhide G3)) Tryd.underlying36 rfl (unhide SZ)) rfl ⟨A2, c2, us, by rw [unhide HSM], S4, unhide OK2, unhide TW2, below_setRow (unhide B3) (unhide HGW) _⟩
end Go.Proofs.YtgoephcembgmcaaDoor.Tk
namespace Go.Proofs.YtgoephcembgmcaaDoor.Bl
open Go.RowKit Go.Proofs.YtgoephcembgmcaaDoorW.PrintWords Go.Proofs.YtgoephcembgmcaaDoorW.PrintLast Wk FrM Fr Sh Rg
open WkM (w64 Bytes val)
theorem bsB_drop {bs : List (Int × List Int)} {i : Nat} {b : Int × List Int} (h : bs[i]? = some b) : bsB (bs.drop i) = vnum b.1.toNat ++ (b.2.take 8 ++ bsB (bs.drop (i + 1))) := by
  obtain ⟨hi, hb⟩ := List.getElem?_eq_some_iff.1 h
  rw [List.drop_eq_getElem_cons hi, hb]
  unfold bsB
  rw [List.flatMap_cons, b1B, List.append_assoc]
theorem geq32_run (k0 : Nat) (h : (k0 : Int) < 4294967296) (w : World) : (binOp .geq 3 (.int .i64 (k0 : Int)) (.int .i64 4294967296)).run Tryd.prog w = .ok (.bool false) w := by
  have d2 : ¬ (4294967296 : Int) ≤ (k0 : Int) := by omega
  go_simp
/-- 'k0 >= 1<<32', guarded: no. -/
theorem wpList_geq32 {ops : Array Oper} {rest : List Oper} {o : Oper} {a : Act} {w : World} {Q : Exit → Act → World → Prop} (hw : Region.wanted o (yielded ops a.tmps) = true) (x : Operand) (ho : o.op = .binOp .geq 3 x (.const (.int .i64 4294967296)) 3) (k0 : Nat) (hk : (k0 : Int) < 4294967296) (hx : a.eval x = .int .i64 (k0 : Int))
    (h : wpList Tryd.prog ops Q rest (a.put o.dst (.bool false)) w) : wpList Tryd.prog ops Q (o :: rest) a w :=
  BigFrame.wpList_want hw fun _ hK => by
    have hr : (execOp a.eval o).run Tryd.prog w = .ok (.value (.bool false)) w := by
      unfold execOp
      rw [ho]
      simp only [hx]
      rw [show a.eval (.const (.int .i64 4294967296)) = .int .i64 4294967296 from rfl]
      simp [eqGuard, Sem.run_map, Sem.run_bind, geq32_run k0 hk w, Result.andThen_ok]
      try rfl
    unfold Oper.wp
    rw [hr]
    exact hK _ _ h
def Z32 : List Int := List.replicate 32 0
theorem built86_0 : Tryd.prog.built 86 [] = some (bk 0 Z32).toArray := by kernel_rfl
/-- What block.Read holds: the signature so far in block q, the answer's place, the reader, the blocks' row. -/
def RI (w0 wr : World) (q r n : Nat) (ad : Addr) (c : Nat) (L rest : List Int) (v : Value) (xs : List (Int × List Int)) (ok : Nat → Prop) : Prop :=
  Sg wr q n v ∧ Sg0 wr w0.heap.size ∧ RdAt wr r ad c L rest ∧ blK.R 86 wr w0.heap.size ok v xs ∧ Below w0.heap.size w0 wr
section
variable {w0 wr w1 : World} {q r n : Nat} {ad : Addr} {c : Nat} {L rest rest' : List Int} {v : Value} {xs : List (Int × List Int)} {ok : Nat → Prop} {p : Nat}
theorem RI.rd (h : RI w0 wr q r n ad c L rest v xs ok) (hr : RdAt w1 r ad c L rest') (hb : Below w0.heap.size wr w1) (hk : KeepBut wr w1 r none) (hq : q ≠ r) (h0 : w0.heap.size ≠ r) : RI w0 w1 q r n ad c L rest' v xs ok := by
  obtain ⟨h1, h2, ⟨k, h3, _⟩, h4, h5⟩ := h
  exact ⟨blk_rd h1 hk hq, blk_rd h2 hk h0, hr, Kd.R_mono (Kd.R_keep (Kd.R_types h4 h3 blK_155) hk (fun k hk => hk.2)) (fun _ hk => hk.1), h5.trans hb⟩
theorem RI.alloc (h : RI w0 wr q r n ad c L rest v xs ok) (o : Obj) : RI w0 (wr.alloc o) q r n ad c L rest v xs (fun k => k ≠ wr.heap.size) := by
  obtain ⟨h1, h2, h3, h4, h5⟩ := h
  exact ⟨blk_alloc h1 o, blk_alloc h2 o, h3.alloc o, Kd.R_alloc (Kd.R_mono (Kd.R_elderB h4 _ (Nat.le_refl _)) (fun _ hk => hk.2)) o, below_alloc h5 o⟩
theorem RI.cell (h : RI w0 wr q r n ad c L rest v xs (fun k => k ≠ p)) (hq : q ≠ p) (h0 : w0.heap.size < p) (hr : r ≠ p) (j : Nat) (u : Value) : RI w0 (wr.setCell ⟨p, j, none⟩ u) q r n ad c L rest v xs (fun k => k ≠ p) := by
  obtain ⟨h1, h2, h3, h4, h5⟩ := h
  exact ⟨blk_far h1 hq u, blk_far h2 (Nat.ne_of_lt h0) u, h3.far hr u, Kd.R_far (p := ⟨p, j, none⟩) h4 (fun _ hk => hk) u, h5.setCell (p := ⟨p, j, none⟩) (Nat.le_of_lt h0) u⟩
end
set_option maxHeartbeats 4000000 in
set_option maxRecDepth 100000 in
theorem read_sig (ad : Addr) (c n : Nat) (bs : List (Int × List Int)) (L : List Int) (w : World) (hL : L = sgB n bs) (hC : Kd.C (Kd.int .u8) w (some ad) L.length L) (hbs : ∀ b ∈ bs, Blk b) (hl : bs.length = (n + 3) / 4) (hn : n ≤ 500) :
    Calls Tryd.prog 38 #[.slice (some ad) L.length c] w fun e w' => ∃ A1 c1, e = .returned (.tuple #[sgV n (.slice A1 bs.length c1), .nilIface]) ∧ Below w.heap.size w w' := by
  have h4 := vnum_ne 4
  have hlen : L.length ≤ 1000000 ∧ 0 < L.length := by
    have h1 := bsB_len bs hbs
    have h2 := vnum_len 5 4 (by decide)
    have h3 := vnum_len 5 8 (by decide)
    have h5 := vnum_len 5 n (by omega)
    have h6 := List.length_pos_iff.2 h4
    rw [hL]
    unfold sgB
    simp only [List.length_append]
    omega
  have hne : ∀ g, w.heap.size ≤ g → ad.block ≠ g := fun g hg => Kd.far_C 0 hC hg ad rfl hlen.2
  have hat : L.drop 0 = vnum 4 ++ (vnum 8 ++ (vnum n ++ bsB bs)) := by rw [hL]; unfold sgB; simp only [List.append_assoc]; rfl
  obtain ⟨m, hm⟩ : ∃ m, m = bs.length := ⟨_, rfl⟩
  have d4 : ¬ 4096 < (m : Int) := by omega
  have HLM : Hid ((n + 3) / 4 = m) := by show _ = _; omega
  rw [← hm]
  have HM := hide hm
  have HN := hide hn
  have HC := hide hC
  have HB := hide hbs
  have HLEN := hide hlen
  have HNE := hide hne
  have HAT := hide hat
  clear hL hm hn hC hbs hlen hne hat h4 hl
  go_enter Tryd.func38, Tryd.ntmps38
  go_wp2_with fail
  have Z1 : Sg0 (w.alloc (.cells #[.int .i64 0, .int .i64 0, .int .i64 0, .slice none 0 0] 33)) w.heap.size := blk_new _ _
  have B1 : Below w.heap.size w (w.alloc (.cells #[.int .i64 0, .int .i64 0, .int .i64 0, .slice none 0 0] 33)) := below_alloc (Below.refl _ _) _
  show Calls _ _ _ (w.alloc (.cells #[.int .i64 0, .int .i64 0, .int .i64 0, .slice none 0 0] 33)) _
  generalize w.alloc (.cells #[.int .i64 0, .int .i64 0, .int .i64 0, .slice none 0 0] 33) = w1 at Z1 B1 ⊢
  refine (read_any (some ad) L.length c w1).mono ?_
  rintro e w2 ⟨rfl, hr2, hb2⟩
  obtain ⟨r, hr⟩ : ∃ r, r = w1.heap.size := ⟨_, rfl⟩
  rw [← hr] at hr2 ⊢
  have HRW : Hid (w.heap.size < r) := by have := blk_lt Z1; show _ < _; omega
  have Z2 := hide (blk_below Z1 hb2)
  have B2 := hide (below_step B1 hb2)
  have R2 : Hid (RdAt w2 r ad c L (vnum 4 ++ (vnum 8 ++ (vnum n ++ bsB bs)))) := ⟨0, hr2, unhide HAT, Nat.zero_le _⟩
  clear Z1 B1 hr2 hb2 hr HAT
  go_wp2_with fail
  refine (num_at r w.heap.size ad c 4 L _ w2 (unhide R2) (Kd.C_below (unhide HC) (unhide B2)) (by decide) (unhide HLEN).1 ((unhide HNE) r (Nat.le_of_lt (unhide HRW))) (Nat.le_of_lt (unhide HRW))).mono ?_
  rintro e w3 ⟨rfl, hr3, hb3, hk3⟩
  have Z3 : Hid (Sg0 w3 w.heap.size) := blk_rd (unhide Z2) hk3 (Nat.ne_of_lt (unhide HRW))
  have B3 := hide ((unhide B2).trans hb3)
  have R3 := hide hr3
  clear hr3 hb3 hk3 Z2 B2 R2
  go_wp2_with fail
  refine (num_at r w.heap.size ad c 8 L _ w3 (unhide R3) (Kd.C_below (unhide HC) (unhide B3)) (by decide) (unhide HLEN).1 ((unhide HNE) r (Nat.le_of_lt (unhide HRW))) (Nat.le_of_lt (unhide HRW))).mono ?_
  rintro e w4 ⟨rfl, hr4, hb4, hk4⟩
  have Z4 : Hid (Sg0 w4 w.heap.size) := blk_rd (unhide Z3) hk4 (Nat.ne_of_lt (unhide HRW))
  have B4 := hide ((unhide B3).trans hb4)
  have R4 := hide hr4
  clear hr4 hb4 hk4 Z3 B3 R3
  go_wp2_with fail
  refine (num_at r w.heap.size ad c n L _ w4 (unhide R4) (Kd.C_below (unhide HC) (unhide B4)) (by have := unhide HN; omega) (unhide HLEN).1 ((unhide HNE) r (Nat.le_of_lt (unhide HRW))) (Nat.le_of_lt (unhide HRW))).mono ?_
  rintro e w5 ⟨rfl, hr5, hb5, hk5⟩
  have Z5 : Hid (Sg0 w5 w.heap.size) := blk_rd (unhide Z4) hk5 (Nat.ne_of_lt (unhide HRW))
  have B5 := hide ((unhide B4).trans hb5)
  have R5 := hide hr5
  clear hr5 hb5 hk5 Z4 B4 R4
  go_wp2_with fail
  obtain ⟨q, hq⟩ : ∃ q, q = w5.heap.size := ⟨_, rfl⟩
  have S6 : Sg (w5.alloc (.cells #[.int .i64 4, .int .i64 8, .int .i64 (n : Int), .slice none 0 0] 33)) q n (.slice none 0 0) := by rw [hq]; exact blk_new _ _
  have Z6 := blk_alloc (unhide Z5) (.cells #[.int .i64 4, .int .i64 8, .int .i64 (n : Int), .slice none 0 0] 33)
  have B6 := below_alloc (unhide B5) (.cells #[.int .i64 4, .int .i64 8, .int .i64 (n : Int), .slice none 0 0] 33)
  have R6 := (unhide R5).alloc (.cells #[.int .i64 4, .int .i64 8, .int .i64 (n : Int), .slice none 0 0] 33)
  have HQ1 : Hid (w.heap.size < q) := by have := blk_lt (unhide Z5); show _ < _; omega
  have HQ2 : Hid (r < q) := by obtain ⟨k, h1, _⟩ := unhide R5; have := blk_lt h1; show _ < _; omega
  rw [← hq]
  generalize w5.alloc (.cells #[.int .i64 4, .int .i64 8, .int .i64 (n : Int), .slice none 0 0] 33) = w6 at S6 Z6 B6 R6 ⊢
  have S6 := hide S6
  have Z6 : Hid (Sg0 w6 w.heap.size) := Z6
  have B6 := hide B6
  have R6 := hide R6
  clear Z5 B5 R5 hq
  refine (errAt r ad c L _ w6 (unhide R6)).mono ?_
  intro e w' hh
  rw [hh.1, ← hh.2]
  clear hh
  obtain ⟨⟨_, _, _, _⟩, ⟨_, _, _, _⟩, _⟩ := box4 (unhide S6)
  go_wp2_with fail
  refine (count_ok n _ (by have := unhide HN; omega)).mono ?_
  intro e w' hh
  rw [hh.1, hh.2]
  clear hh
  rw [unhide HLM]
  go_wp2
  have I6 : Hid (RI w w6 q r n ad c L (bsB (bs.drop 0)) (.slice none 0 0) [] (fun _ => True)) := ⟨unhide S6, unhide Z6, unhide R6, Kd.R_nil _ _ _ _ _, unhide B6⟩
  clear S6 Z6 B6 R6
  go_loopg [59] m (fun kq v59 wr => ∃ (i : Nat) (A1 : Option Addr) (c1 : Nat) (xs : List (Int × List Int)), v59 = .int .i64 (i : Int) ∧ Hid (i + kq = m) ∧ Hid (xs.length = i) ∧ Hid (RI w wr q r n ad c L (bsB (bs.drop i)) (.slice A1 i c1) xs (fun _ => True)))
  case atStart => exact ⟨0, none, 0, [], rfl, Nat.zero_add _, rfl, I6⟩
  case round =>
    obtain ⟨i, A1, c1, xs, rfl, HI, HX, I2⟩ := hrel
    by_cases hlt : i < m
    · have him : i < bs.length := by have := unhide HM; omega
      obtain ⟨b, hb⟩ : ∃ b, bs[i]? = some b := ⟨_, List.getElem?_eq_getElem him⟩
      have hbk := (unhide HB) b (List.mem_of_getElem? hb)
      obtain ⟨k0, hk0⟩ : ∃ k0 : Nat, k0 = b.1.toNat := ⟨_, rfl⟩
      have hk1 : (k0 : Int) < 4294967296 := by have := hbk.2.1; omega
      obtain ⟨rest, hrest⟩ : ∃ z, z = bsB (bs.drop (i + 1)) := ⟨_, rfl⟩
      obtain ⟨s0, hs0⟩ : ∃ z, z = b.2.take 8 := ⟨_, rfl⟩
      have hsl : s0.length = 8 := by rw [hs0, List.length_take, hbk.len]; rfl
      have I3 : RI w wr q r n ad c L (vnum k0 ++ (s0 ++ rest)) (.slice A1 i c1) xs (fun _ => True) := by rw [hk0, hs0, hrest, ← bsB_drop hb]; exact unhide I2
      obtain ⟨p, hp⟩ : ∃ p, p = wr.heap.size := ⟨_, rfl⟩
      have I4 := I3.alloc (.cells (bk 0 Z32).toArray 86)
      have P4 : Row33 (wr.alloc (.cells (bk 0 Z32).toArray 86)) p 0 Z32 := ⟨by rw [hp]; exact blk_new _ _, rfl⟩
      have hpq : q < p := by have := blk_lt I3.1; omega
      rw [← hp] at I4
      have SA : Hid (((bk 0 Z32).toArray).size = ((bk 0 Z32).toArray).size) := rfl
      have SZA : Hid ((Tryd.prog.info? 86).map (·.size) = some ((bk 0 Z32).toArray).size) := size86
      have d1 : (i : Int) < (m : Int) := by omega
      have HPQ := hide hpq
      have HLT := hide hlt
      have HSL := hide hsl
      have HK1 := hide hk1
      have I4 := hide I4
      have P4 := hide P4
      have HP := hide hp
      have HREST := hide hrest
      clear I2 I3 him hb hbk hk0 hk1 hrest hs0 hsl hpq hlt hp
      go_wp2_with (first | refine wpList_build_is rfl 86 _ rfl (bk 0 Z32).toArray built86_0 ?_ | (refine wpList_store_row rfl 86 (.tmp 8) (.tmp 61) rfl wr.heap.size (bk 0 Z32).toArray rfl rfl 86 _ (blk_new wr _) (unhide SZA) (unhide SA) (all_oneCell_toArray (bk_one _ _)) ?_; rw [World.setRow_alloc_new]))
      rw [← unhide HP]
      generalize wr.alloc (.cells (bk 0 Z32).toArray 86) = w7 at I4 P4 ⊢
      refine (atAt r ad c L _ w7 (unhide I4).2.2.1).mono ?_
      rintro e w' ⟨⟨k9, rfl, _, _⟩, rfl⟩
      go_wp2_with fail
      refine (num_at r w.heap.size ad c k0 L _ w7 (unhide I4).2.2.1 (Kd.C_below (unhide HC) (unhide I4).2.2.2.2) (by have := unhide HK1; omega) (unhide HLEN).1 ((unhide HNE) r (Nat.le_of_lt (unhide HRW))) (Nat.le_of_lt (unhide HRW))).mono ?_
      rintro e w8 ⟨rfl, hr8, hb8, hk8⟩
      have I8 := hide ((unhide I4).rd hr8 hb8 hk8 (Nat.ne_of_gt (unhide HQ2)) (Nat.ne_of_lt (unhide HRW)))
      have P8 : Hid (Row33 w8 p 0 Z32) := ⟨blk_rd (unhide P4).1 hk8 (by have := unhide HPQ; have := unhide HQ2; omega), rfl⟩
      clear hr8 hb8 hk8 I4 P4
      go_wp2_with fail
      refine (errAt r ad c L _ w8 (unhide I8).2.2.1).mono ?_
      intro e w' hh
      rw [hh.1, ← hh.2]
      clear hh
      have d2 : ¬ (4294967296 : Int) ≤ (k0 : Int) := by have := unhide HK1; omega
      have f0 : w8.cell? ⟨p, 0, none⟩ = some (.int .u32 0) := blk_cell (unhide P8).1 0
      have f1 : w8.frozen? ⟨p, 0, none⟩ = false := blk_frozen (unhide P8).1 0
      have I9 := (unhide I8).cell (p := p) (Nat.ne_of_lt (unhide HPQ)) (Nat.lt_trans (unhide HQ1) (unhide HPQ)) (Nat.ne_of_lt (Nat.lt_trans (unhide HQ2) (unhide HPQ))) 0 (.int .u32 (k0 : Int))
      have P9 := (unhide P8).set0 (k0 : Int)
      obtain ⟨⟨f2, f3, f4, f5⟩, ⟨f6, f7, f8, f9⟩, f10⟩ := box4 I9.1
      have I9 := hide I9
      have P9 := hide P9
      go_wp2_with (refine wpList_geq32 rfl (.tmp 70) rfl k0 (unhide HK1) rfl ?_)
      generalize w8.setCell ⟨p, 0, none⟩ (.int .u32 (k0 : Int)) = w9 at I9 P9 ⊢
      clear f0 f1 f2 f3 f4 f5 f6 f7 f8 f9 f10 d2 I8 P8
      obtain ⟨gk1, h_⟩ : ∃ k, k = gk := ⟨_, rfl⟩
      subst h_
      obtain ⟨wr1, h_⟩ : ∃ k, k = wr := ⟨_, rfl⟩
      subst h_
      go_loopg [83] 8 (fun kq v83 wr => ∃ (j : Nat) (s : List Int), v83 = .int .i64 (j : Int) ∧ Hid (j + kq = 8) ∧ Hid (RI w wr q r n ad c L (s0.drop j ++ rest) (.slice A1 i c1) xs (fun k => k ≠ p)) ∧ Hid (Row33 wr p (k0 : Int) s))
      case atStart => exact ⟨0, Z32, rfl, rfl, I9, P9⟩
      case round =>
        obtain ⟨j, s, rfl, HJ, J1, Q1⟩ := hrel
        obtain ⟨⟨f2, f3, f4, f5⟩, ⟨f6, f7, f8, f9⟩, f10⟩ := box4 (unhide J1).1
        by_cases hj : j < 8
        · obtain ⟨x, hx⟩ : ∃ x, s0[j]? = some x := ⟨_, List.getElem?_eq_getElem (by rw [unhide HSL]; exact hj)⟩
          have J2 : RI w wr q r n ad c L (x :: (s0.drop (j + 1) ++ rest)) (.slice A1 i c1) xs (fun k => k ≠ p) := by
            have h := unhide J1
            obtain ⟨h1, h2⟩ := List.getElem?_eq_some_iff.1 hx
            rw [List.drop_eq_getElem_cons h1, h2] at h
            exact h
          have d2 : (j : Int) < 8 := by omega
          have J2 := hide J2
          have HJL := hide hj
          clear hj hx J1
          go_wp2_with fail
          refine (byte_at r w.heap.size ad c x L _ wr (unhide J2).2.2.1 (Kd.C_below (unhide HC) (unhide J2).2.2.2.2) (unhide HLEN).1 ((unhide HNE) r (Nat.le_of_lt (unhide HRW))) (Nat.le_of_lt (unhide HRW))).mono ?_
          rintro e w10 ⟨rfl, hr10, hb10, hk10⟩
          have J3 := (unhide J2).rd hr10 hb10 hk10 (Nat.ne_of_gt (unhide HQ2)) (Nat.ne_of_lt (unhide HRW))
          have Q3 : Row33 w10 p (k0 : Int) s := ⟨blk_rd (unhide Q1).1 hk10 (by have := unhide HPQ; have := unhide HQ2; omega), (unhide Q1).2⟩
          have J4 := hide (J3.cell (p := p) (Nat.ne_of_lt (unhide HPQ)) (Nat.lt_trans (unhide HQ1) (unhide HPQ)) (Nat.ne_of_lt (Nat.lt_trans (unhide HQ2) (unhide HPQ))) (1 + j) (.int .u8 x))
          have Q4 := hide (Q3.set j x)
          have g0 : ∃ u, w10.cell? ⟨p, 1 + j, none⟩ = some u := by
            have h1 := blk_cell Q3.1 (1 + j)
            have h2 : (bk (k0 : Int) s).length = 33 := bk_len _ _ Q3.2
            have h3 := unhide HJL
            rw [List.getElem?_toArray, List.getElem?_eq_getElem (by omega)] at h1
            exact ⟨_, h1⟩
          obtain ⟨u, g0⟩ := g0
          have g1 : w10.frozen? ⟨p, 1 + j, none⟩ = false := blk_frozen Q3.1 _
          have e5 : wrap64 ((j : Int) + 1) = ((j + 1 : Nat) : Int) := by have := unhide HJL; rw [w64 _ (by omega) (by omega)]; omega
          have E5 := hide e5
          have d3 : (j : Int) < 32 := by have := unhide HJL; omega
          clear e5 J3 Q3 hr10 hb10 hk10 f2 f3 f4 f5 f6 f7 f8 f9 f10
          go_wp2
          go_roundg (gk - 1)
          case measure => have := unhide HJ; have := unhide HJL; omega
          case rel => exact ⟨j + 1, s.set j x, by first | exact congrArg (Value.int .i64) (unhide E5) | exact congrArg (Value.int .i64) (by omega), by have := unhide HJ; have := unhide HJL; show _ = _; omega, J4, Q4⟩
        · have d2 : ¬ (j : Int) < 8 := by omega
          have J2 : RI w wr q r n ad c L rest (.slice A1 i c1) xs (fun k => k ≠ p) := by
            have h := unhide J1
            rw [List.drop_eq_nil_of_le (by rw [unhide HSL]; omega)] at h
            exact h
          have J2 := hide J2
          have HR : Hid (wr.rangeAt p 0 (bk (k0 : Int) s)) := fun i v hv => by
            rw [Nat.zero_add]
            exact (blk_cell (unhide Q1).1 i).trans (by rw [List.getElem?_toArray]; exact hv)
          have SZ : Hid ((Tryd.prog.info? 86).map (·.size) = some (bk (k0 : Int) s).length) := by show _ = _; rw [bk_len _ _ (unhide Q1).2]; exact size86
          clear hj J1
          go_wp2_with (first | refine wpList_load_mid rfl 86 (.tmp 8) rfl p 0 rfl (bk (k0 : Int) s) _ (unhide HR) Tryd.underlying86 rfl (unhide SZ) ?_ | refine wpList_lit86 rfl (.tmp 94) rfl (k0 : Int) s (unhide Q1).2 rfl ?_ | (at_builtin; refine unhide ?_))
          refine hide ?_
          have HXL : Hid (xs.length ≤ 200) := by have := unhide HX; have := unhide HLT; have := unhide HLM; have := unhide HN; show _ ≤ _; omega
          refine Kd.R_append blK (w0 := w) (W := wr) w.heap.size rfl (.tmp 93) (.tmp 95) 31 86 (.agg (bk 0 (List.replicate 32 0)).toArray) 36 rfl Tryd.underlying31 info86 rfl (by decide) (by decide) (.slice A1 i c1) xs ((k0 : Int), s) (bk (k0 : Int) s) (fun k => k ≠ p) (fun _ => False) rfl rfl (blK_M (unhide Q1).2) (fun k h => h.elim) (fun k hk => by have := blk_lt (unhide Q1).1; omega) (unhide J2).2.2.2.1 (unhide J2).2.2.2.2 (unhide J2).2.2.2.2.size (by have := unhide HXL; omega) ?_
          intro v8 w11 hR8 hB8 hg8 hat8
          have hrq : r ≠ q := Nat.ne_of_lt (unhide HQ2)
          have S11 : Sg w11 q n (.slice A1 i c1) := blk_grown (unhide J2).1 hg8 (Kd.R_ne (unhide J2).2.2.2.1 (unhide J2).1 (by decide))
          have Z11 : Sg0 w11 w.heap.size := blk_grown (unhide J2).2.1 hg8 (Kd.R_ne (unhide J2).2.2.2.1 (unhide J2).2.1 (by decide))
          have R11 := (unhide J2).2.2.1.grown hg8 ((unhide J2).2.2.1.ne (unhide J2).2.2.2.1 (by decide))
          obtain ⟨A8, c8, rfl⟩ := Kd.R_slice hR8
          obtain ⟨ys, hys⟩ : ∃ ys, ys = xs ++ [((k0 : Int), s)] := ⟨_, rfl⟩
          have hyl : ys.length = i + 1 := by rw [hys, List.length_append, unhide HX]; rfl
          rw [← hys] at hR8 ⊢
          rw [hyl] at hR8 ⊢
          have I12 : RI w (w11.setCell ⟨q, 3, none⟩ (.slice A8 (i + 1) c8)) q r n ad c L rest (.slice A8 (i + 1) c8) ys (fun _ => True) :=
            ⟨blk_put S11 3 _ rfl, blk_far Z11 (Nat.ne_of_lt (unhide HQ1)) _, R11.far hrq _, Kd.R_set (Kd.R_mono hR8 (fun _ _ => trivial)) S11 blK_33 3 _, hB8.setCell (p := ⟨q, 3, none⟩) (Nat.le_of_lt (unhide HQ1)) _⟩
          rw [unhide HREST] at I12
          have I12 := hide I12
          have HYL := hide hyl
          have e5 : wrap64 ((i : Int) + 1) = ((i + 1 : Nat) : Int) := by have := unhide HXL; have := unhide HX; rw [w64 _ (by omega) (by omega)]; omega
          have E5 := hide e5
          obtain ⟨⟨f2, f3, f4, f5⟩, ⟨f6, f7, f8, f9⟩, f10⟩ := box4 S11
          clear e5 hR8 hB8 hg8 hat8 hyl hys Z11 R11 hrq
          go_wp2
          go_roundg (gk1 - 1)
          case measure => have := unhide HI; have := unhide HLT; omega
          case rel => exact ⟨i + 1, A8, c8, ys, by first | exact congrArg (Value.int .i64) (unhide E5) | exact congrArg (Value.int .i64) (by omega), by have := unhide HI; have := unhide HLT; show _ = _; omega, HYL, I12⟩
    · have d1 : ¬ (i : Int) < (m : Int) := by omega
      have him : i = m := by have := unhide HI; omega
      subst him
      have I3 : RI w wr q r n ad c L [] (.slice A1 i c1) xs (fun _ => True) := by
        have h := unhide I2
        rw [List.drop_of_length_le (by have := unhide HM; omega)] at h
        exact h
      have I3 := hide I3
      clear hlt I2
      go_wp2_with fail
      refine (endAt r ad c L wr (unhide I3).2.2.1).mono ?_
      rintro e w9 ⟨rfl, hb9⟩
      have S9 := blk_below (unhide I3).1 hb9
      have Z9 : Sg0 w9 w.heap.size := blk_below (unhide I3).2.1 hb9
      have B9 := hide (below_step (unhide I3).2.2.2.2 hb9)
      obtain ⟨⟨f2, f3, f4, f5⟩, ⟨f6, f7, f8, f9⟩, f10⟩ := box4 S9
      obtain ⟨⟨_, _, _, _⟩, ⟨_, _, _, _⟩, _⟩ := box4 Z9
      have Z9 := hide Z9
      clear hb9 I3
      go_wp2
      have S10 : Sg ((((w9.setCell ⟨w.heap.size, 0, none⟩ (.int .i64 4)).setCell ⟨w.heap.size, 1, none⟩ (.int .i64 8)).setCell ⟨w.heap.size, 2, none⟩ (.int .i64 (n : Int))).setCell ⟨w.heap.size, 3, none⟩ (.slice A1 i c1)) w.heap.size n (.slice A1 i c1) := blk_put (blk_put (blk_put (blk_put (unhide Z9) 0 _ rfl) 1 _ rfl) 2 _ rfl) 3 _ rfl
      have B10 : Below w.heap.size w ((((w9.setCell ⟨w.heap.size, 0, none⟩ (.int .i64 4)).setCell ⟨w.heap.size, 1, none⟩ (.int .i64 8)).setCell ⟨w.heap.size, 2, none⟩ (.int .i64 (n : Int))).setCell ⟨w.heap.size, 3, none⟩ (.slice A1 i c1)) :=
        ((((unhide B9).setCell (p := ⟨w.heap.size, 0, none⟩) (Nat.le_refl _) _).setCell (p := ⟨w.heap.size, 1, none⟩) (Nat.le_refl _) _).setCell (p := ⟨w.heap.size, 2, none⟩) (Nat.le_refl _) _).setCell (p := ⟨w.heap.size, 3, none⟩) (Nat.le_refl _) _
      generalize (((w9.setCell ⟨w.heap.size, 0, none⟩ (.int .i64 4)).setCell ⟨w.heap.size, 1, none⟩ (.int .i64 8)).setCell ⟨w.heap.size, 2, none⟩ (.int .i64 (n : Int))).setCell ⟨w.heap.size, 3, none⟩ (.slice A1 i c1) = w10 at S10 B10 ⊢
      obtain ⟨⟨g0, g1, g2, g3⟩, _, _⟩ := box4 S10
      have hu := Tryd.underlying33
      refine bodyPost_ret (v := .tuple #[.agg #[.int .i64 4, .int .i64 8, .int .i64 (n : Int), .slice A1 i c1], .nilIface]) (by simp [results, Tryd.results38, go_sem, g0, g1, g2, g3, hu]) rfl ⟨A1, c1, rfl, B10⟩
end Go.Proofs.YtgoephcembgmcaaDoor.Bl
