import Derived.Test.YtjdkeicjhmdcfaaSlP2
set_option linter.unusedSimpArgs false
set_option linter.unusedVariables false
namespace Go.Proofs.Ytjdkeicjhmdcfaa.SlP
open Go.RowKit Go.Maps Go.Proofs.YtjdkeicjhmdcfaaW.PrintWords Go.Proofs.YtjdkeicjhmdcfaaW.PrintLast Go.Proofs.YtjdkeicjhmdcfaaW.PrintMore Go.Proofs.Ytjdkeicjhmdcfaa.Wk Go.Proofs.Ytjdkeicjhmdcfaa.Sl
open Go.Proofs.Ytjdkeicjhmdcfaa.WkM (w64)

def T13_31 : Bool × List (List Nat × List Nat) := (true, [([], []), ([], []), ([], []), ([1, 2], [1, 2]), ([0, 3], [0, 3]), ([], []), ([], []), ([6], [6]), ([5, 7], [5, 7]), ([4, 8, 4], [4, 8]), ([9, 9, 0, 1, 2, 3, 4, 5, 6, 7, 8, 9], [1, 5, 9])])
def BT13_31 : List Nat := [0, 0, 0, 6, 15, 0, 0, 64, 224, 511, 1023]
theorem tabT13_31 : rtab .any (opsOf Try.f13 31) = T13_31 := by kernel_rfl
theorem bitsT13_31 : waitsOk T13_31.2 BT13_31 = true := by kernel_rfl

/-- What holds from round to round: who is where, in the map and in the list; the box of who is asked for. -/
def Rel (w : World) (b1 : Nat) (wr : World) (l : List (Int × ByteArray)) (A : Option Addr) (c0 : Nat) (ak an ac : Int) (am : ByteArray) : Prop :=
  Slots wr (b1 + 1) b1 l ∧ dL.R 68 wr w.heap.size (fun k => k ≠ b1) (.slice A l.length c0) l ∧ Op4 wr w.heap.size ak an ac am ∧ Below w.heap.size w wr
theorem Rel.below {w wr w' : World} {b1 : Nat} {l : List (Int × ByteArray)} {A : Option Addr} {c0 : Nat} {ak an ac : Int} {am : ByteArray} (h : Rel w b1 wr l A c0 ak an ac am) (hb : Below wr.heap.size wr w') : Rel w b1 w' l A c0 ak an ac am :=
  ⟨h.1.below hb, Kd.R_below h.2.1 hb, blk_below h.2.2.1 hb, below_step h.2.2.2 hb⟩
theorem Rel.kept {w wr w' : World} {b1 : Nat} {l2 : List (Int × ByteArray)} {A : Option Addr} {c0 : Nat} {ak an ac : Int} {am : ByteArray} (hr : dL.R 68 wr w.heap.size (fun k => k ≠ b1) (.slice A l2.length c0) l2) (ho : Op4 wr w.heap.size ak an ac am) (hw : Below w.heap.size w wr) (hs : Slots w' (b1 + 1) b1 l2) (hb : Below b1 wr w') (hk : KeepBut wr w' b1 none) (h1 : w.heap.size < b1) : Rel w b1 w' l2 A c0 ak an ac am :=
  ⟨hs, Kd.R_keep hr hk (fun k h => h), (hk.2 _ (blk_lt ho) (by omega) (by simp)).trans ho, hw.trans (hb.mono (by omega))⟩
theorem law_not (A : Option Addr) (n c : Nat) (v0 v1 v2 v3 : Value) (w : World) (hn : n ≤ maxLen) (h : 200 < n) :
    Calls Try.prog 13 #[.slice A n c, .agg #[v0, v1, v2, v3]] w fun e w' => e = .returned (.bool true) ∧ Below w.heap.size w w' := by
  have hu65 := Try.underlying65
  unfold maxLen at hn
  have d1 : 200 < (n : Int) := by omega
  go_enter Try.func13, Try.ntmps13
  go_wp2_with fail
  refine (enters_any _).mono ?_
  rintro e w1 ⟨rfl, hb⟩
  have HB := hide (below_step (below_alloc (Below.refl w.heap.size w) (.cells #[v0, v1, v2, v3] 65)) hb)
  clear hb
  go_wp2
  go_ret
  exact ⟨rfl, unhide HB⟩
set_option maxHeartbeats 4000000 in
set_option maxRecDepth 100000 in
theorem law_yes (A : Option Addr) (n c : Nat) (K N C : Nat → Int) (M : Nat → ByteArray) (ak an ac : Int) (am : ByteArray) (w : World) (hp : Ops4 w A n K N C M) (hn : n ≤ 200) (han : (Lit.int .i64 an).wf = true) :
    Calls Try.prog 13 #[.slice A n c, .agg #[.int .i64 ak, .int .i64 an, .int .i64 ac, .string am]] w fun e w' => e = .returned (.bool true) ∧ Below w.heap.size w w' := by
  have hu65 := Try.underlying65
  have hu68 := Try.underlying68
  have d1 : ¬ 200 < (n : Int) := by omega
  have HP := hide hp
  have HAN := hide han
  clear hp han
  go_enter Try.func13, Try.ntmps13
  go_wp2_with fail
  refine (enters_any _).mono ?_
  rintro e w1 ⟨rfl, hb⟩
  have B0 := hide (below_step (below_alloc (Below.refl w.heap.size w) (.cells #[.int .i64 ak, .int .i64 an, .int .i64 ac, .string am] 65)) hb)
  have O0 : Hid (Op4 w1 w.heap.size ak an ac am) := blk_below (blk_new w _) hb
  have z1 : w.heap.size < w1.heap.size := blk_lt (unhide O0)
  clear hb
  go_wp2_with fail
  refine (new_ok w1).mono ?_
  rintro e w2 ⟨rfl, h2, hb2⟩
  have R2 : Hid (Rel w w1.heap.size w2 [] none 0 ak an ac am) := ⟨h2, Kd.R_nil _ _ _ _ _, blk_below (unhide O0) hb2, below_step (unhide B0) hb2⟩
  clear h2 hb2 B0 O0
  generalize w1.heap.size = b1 at z1 R2 ⊢
  go_wp2
  go_loopg [6, 30] n (fun kq v6 v30 wr => ∃ (i : Nat) (l : List (Int × ByteArray)) (A0 : Option Addr) (c0 : Nat), v6 = .slice A0 l.length c0 ∧ v30 = .int .i64 (i : Int) ∧ Hid (i + kq = n) ∧ Hid (l.length ≤ i) ∧ Hid (Rel w b1 wr l A0 c0 ak an ac am))
  case atStart => exact ⟨0, [], none, 0, rfl, rfl, Nat.zero_add _, Nat.zero_le _, unhide R2⟩
  case round =>
    obtain ⟨ko, rfl⟩ : ∃ k, k = gk := ⟨_, rfl⟩
    obtain ⟨wo, rfl⟩ : ∃ k, k = wr := ⟨_, rfl⟩
    obtain ⟨i, l, A0, c0, rfl, rfl, HK, HL, HREL⟩ := hrel
    clear R2
    have hll : l.length ≤ 200 := by have := unhide HK; have := unhide HL; omega
    have HLL := hide hll
    clear hll
    by_cases hlt : i < n
    · obtain ⟨⟨ad, rfl, ⟨x0, x1⟩, x2, x3⟩, hwf, hms⟩ := (unhide HP) i hlt
      have hbel := (unhide HREL).2.2.2
      replace x0 := (hbel.cell (World.block_lt_of_cell? w _ x0)).trans x0
      replace x1 := (hbel.cell (World.block_lt_of_cell? w _ x1)).trans x1
      replace x2 := (hbel.cell (World.block_lt_of_cell? w _ x2)).trans x2
      replace x3 := (hbel.cell (World.block_lt_of_cell? w _ x3)).trans x3
      have HWF := hide hwf
      have HMS := hide hms
      clear hbel hwf hms
      generalize K i = ok at x0
      generalize N i = on at x1 HWF
      generalize C i = oc at x2
      generalize M i = om at x3 HMS
      have RA : Hid (Rel w b1 (wo.alloc (.cells #[.int .i64 ok, .int .i64 on, .int .i64 oc, .string om] 65)) l A0 c0 ak an ac am) := (unhide HREL).below (below_alloc (Below.refl _ _) _)
      have OA : Hid (Op4 (wo.alloc (.cells #[.int .i64 ok, .int .i64 on, .int .i64 oc, .string om] 65)) wo.heap.size ok on oc om) := blk_new _ _
      go_wp2
      clear x0 x1 x2 x3
      go_loopg [9, 10, 36] l.length (fun kq v9 v10 v36 wr => ∃ (j : Nat), v9 = .int .i64 (ps l on j) ∧ v10 = .int .i64 (cq l om j : Int) ∧ v36 = .int .i64 (j : Int) ∧ Hid (j + kq = l.length) ∧ Hid (Rel w b1 wr l A0 c0 ak an ac am) ∧ Hid (Op4 wr wo.heap.size ok on oc om))
      case atStart => exact ⟨0, rfl, rfl, rfl, Nat.zero_add _, unhide RA, unhide OA⟩
      case round =>
        obtain ⟨j, rfl, rfl, rfl, HJ, HR2, HO2⟩ := hrel
        clear RA OA HREL
        have hR2 := (Kd.R_reads' (unhide HR2).2.1).2.2
        obtain ⟨⟨o0, o1⟩, ⟨o2, o3⟩, o4⟩ := (unhide HO2).cells
        have hq1 := cq_low l om j
        by_cases hjl : j < l.length
        · obtain ⟨ad2, rfl, f1, f2⟩ := row_cell hR2 hjl
          have hps : ps l on (j + 1) = if (gt l j).1 = on then (j : Int) else ps l on j := rfl
          have hcq : cq l om (j + 1) = cq l om j + (if (gt l j).2 = om then 1 else 0) := rfl
          generalize (gt l j).1 = y1 at f1 hps
          generalize (gt l j).2 = y2 at f2 hcq
          generalize ps l on j = p0 at hps ⊢
          generalize cq l om j = q0 at hcq hq1 ⊢
          have HB2 := hide ((unhide HR2).below (below_alloc (Below.refl wr.heap.size wr) (.cells #[.int .i64 y1, .string y2] 68)))
          have HB3 : Hid (Op4 (wr.alloc (.cells #[.int .i64 y1, .string y2] 68)) wo.heap.size ok on oc om) := blk_alloc (unhide HO2) _
          have E := hide (w64 ((q0 : Int) + 1) (by have := unhide HLL; omega) (by have := unhide HLL; omega))
          have E2 := hide (w64 ((j : Int) + 1) (by have := unhide HLL; omega) (by have := unhide HLL; omega))
          have HPS := hide hps
          have HCQ := hide hcq
          have HJL : Hid (j < l.length) := hjl
          have HQ1 := hide hq1
          have jq : (j : Int) < (l.length : Int) := by omega
          clear hR2 hps hcq hq1 hjl HR2 HO2
          by_cases e1 : y1 = on
          · by_cases e2 : y2 = om
            · subst e1
              have hd := str_eq e2
              subst e2
              go_wp2
              go_roundg (gk - 1)
              case measure => have := unhide HJ; have := unhide HJL; omega
              case rel =>
                have h1 := unhide HPS
                have h2 := unhide HCQ
                simp only [if_true, if_false, eq_self] at h1
                simp only [if_true, if_false, eq_self] at h2
                exact ⟨j + 1, by rw [h1], by rw [h2]; first | rfl | exact congrArg _ (unhide E) | go_num, by first | exact congrArg _ (unhide E2) | go_num, by have := unhide HJ; have := unhide HJL; show j + 1 + (gk - 1) = l.length; omega, unhide HB2, unhide HB3⟩
            · subst e1
              have hd := str_ne e2
              go_wp2
              go_roundg (gk - 1)
              case measure => have := unhide HJ; have := unhide HJL; omega
              case rel =>
                have h1 := unhide HPS
                have h2 := unhide HCQ
                simp only [if_true, if_false, eq_self] at h1
                simp only [e2, if_true, if_false, eq_self] at h2
                exact ⟨j + 1, by rw [h1], by rw [h2]; first | rfl | exact congrArg _ (unhide E) | go_num, by first | exact congrArg _ (unhide E2) | go_num, by have := unhide HJ; have := unhide HJL; show j + 1 + (gk - 1) = l.length; omega, unhide HB2, unhide HB3⟩
          · by_cases e2 : y2 = om
            · have hd := str_eq e2
              subst e2
              go_wp2
              go_roundg (gk - 1)
              case measure => have := unhide HJ; have := unhide HJL; omega
              case rel =>
                have h1 := unhide HPS
                have h2 := unhide HCQ
                simp only [e1, if_true, if_false, eq_self] at h1
                simp only [if_true, if_false, eq_self] at h2
                exact ⟨j + 1, by rw [h1], by rw [h2]; first | rfl | exact congrArg _ (unhide E) | go_num, by first | exact congrArg _ (unhide E2) | go_num, by have := unhide HJ; have := unhide HJL; show j + 1 + (gk - 1) = l.length; omega, unhide HB2, unhide HB3⟩
            · have hd := str_ne e2
              go_wp2
              go_roundg (gk - 1)
              case measure => have := unhide HJ; have := unhide HJL; omega
              case rel =>
                have h1 := unhide HPS
                have h2 := unhide HCQ
                simp only [e1, if_true, if_false, eq_self] at h1
                simp only [e2, if_true, if_false, eq_self] at h2
                exact ⟨j + 1, by rw [h1], by rw [h2]; first | rfl | exact congrArg _ (unhide E) | go_num, by first | exact congrArg _ (unhide E2) | go_num, by have := unhide HJ; have := unhide HJL; show j + 1 + (gk - 1) = l.length; omega, unhide HB2, unhide HB3⟩
        · have hjn : j = l.length := by have := unhide HJ; omega
          subst hjn
          have jq : ¬ (l.length : Int) < (l.length : Int) := by omega
          rw [cq_all] at hq1
          rw [cq_all]
          clear HJ hjl
          by_cases hk0 : ok = 0
          · rcases ps_all l on with ⟨hat, p, hp1, hp2, hp3⟩ | ⟨hat, hp1⟩
            · rw [hp1]
              have HE1 : Hid (eres l on om oc = 5) := by show _ = _; unfold eres; rw [hat]; rfl
              have HE2 : Hid (eput l on om oc = l) := by show _ = _; unfold eput; rw [hat]; rfl
              have S4 := hide (unhide HR2).1
              have pq : (0 : Int) ≤ (p : Int) := by omega
              clear hat hp1 hp2 hp3 hR2 hq1
              go_wp2_with fail
              refine (enter_ok (b1 + 1) b1 b1 l on om _ _ _ _ oc _ (unhide S4) (unhide HWF) (by have := unhide HLL; omega) (unhide HMS) (Nat.le_refl _)).mono ?_
              rintro e w5 ⟨rfl, h5, hb5, hk5⟩
              rw [unhide HE1]
              rw [unhide HE2] at h5
              have R5 : Hid (Rel w b1 w5 l A0 c0 ak an ac am) := Rel.kept (unhide HR2).2.1 (unhide HR2).2.2.1 (unhide HR2).2.2.2 h5 hb5 hk5 z1
              clear h5 hb5 hk5 S4 HR2 HO2
              go_wp2_with fail
              refine (len_ok (b1 + 1) b1 l _ (unhide R5).1).mono ?_
              rintro e w' ⟨rfl, rfl⟩
              go_wp2
              go_roundg (ko - 1)
              case measure => have := unhide HK; omega
              case rel => exact ⟨i + 1, l, A0, c0, rfl, by go_num, by have := unhide HK; show i + 1 + (ko - 1) = n; omega, by show _ ≤ _; have := unhide HL; omega, unhide R5⟩
            · rw [hp1]
              by_cases hc : oc ≤ (cnt_ l om : Int)
              · have HE1 : Hid (eres l on om oc = 150) := by show _ = _; unfold eres; rw [hat]; simp [hc]
                have HE2 : Hid (eput l on om oc = l) := by show _ = _; unfold eput; rw [hat]; simp [hc]
                have S4 := hide (unhide HR2).1
                clear hat hp1 hR2
                go_wp2_with fail
                refine (enter_ok (b1 + 1) b1 b1 l on om _ _ _ _ oc _ (unhide S4) (unhide HWF) (by have := unhide HLL; omega) (unhide HMS) (Nat.le_refl _)).mono ?_
                rintro e w5 ⟨rfl, h5, hb5, hk5⟩
                rw [unhide HE1]
                rw [unhide HE2] at h5
                have R5 : Hid (Rel w b1 w5 l A0 c0 ak an ac am) := Rel.kept (unhide HR2).2.1 (unhide HR2).2.2.1 (unhide HR2).2.2.2 h5 hb5 hk5 z1
                clear h5 hb5 hk5 S4 HR2 HO2
                go_wp2_with fail
                refine (len_ok (b1 + 1) b1 l _ (unhide R5).1).mono ?_
                rintro e w' ⟨rfl, rfl⟩
                go_wp2
                go_roundg (ko - 1)
                case measure => have := unhide HK; omega
                case rel => exact ⟨i + 1, l, A0, c0, rfl, by go_num, by have := unhide HK; show i + 1 + (ko - 1) = n; omega, by show _ ≤ _; have := unhide HL; omega, unhide R5⟩
              · have HE1 : Hid (eres l on om oc = 0) := by show _ = _; unfold eres; rw [hat]; simp [hc]
                have HE2 : Hid (eput l on om oc = l ++ [(on, om)]) := by show _ = _; unfold eput; rw [hat]; simp [hc]
                have HC := hide hc
                clear hat hp1 hR2
                go_wp2_with (at_builtin; refine unhide ?_)
                refine hide ?_
                refine Kd.R_append dL (w0 := wr) w.heap.size rfl (.tmp 64) (.tmp 70) 66 68 (.agg #[.int .i64 0, .string ⟨#[]⟩]) 24 rfl Try.underlying66 info68 rfl (by decide) (by decide) (.slice A0 l.length c0) l (on, om) [.int .i64 on, .string om] (fun k => k ≠ b1) (fun _ => False) rfl rfl (dL_M _ _ _ _ _) (fun k h => h.elim) (fun k h e => by have := (unhide HR2).1.lt; omega) (unhide HR2).2.1 (Below.refl _ _) (unhide HR2).2.2.2.size (by have := unhide HLL; omega) ?_
                intro v1 w4 hR4 hB4 hg4 hat4
                have hne1 : some (b1 + 1) ≠ (Value.slice A0 l.length c0).ownBlock := Kd.R_ne (unhide HR2).2.1 (unhide HR2).1.1 (by decide)
                have hne2 : some b1 ≠ (Value.slice A0 l.length c0).ownBlock := fun e => (unhide HR2).2.1.1 b1 e.symm rfl
                have S4 := hide ((unhide HR2).1.keep (hg4.block _ (unhide HR2).1.cell.2.2 hne1) (hg4.block _ (unhide HR2).1.lt hne2))
                have O4 : Hid (Op4 w4 w.heap.size ak an ac am) := (hg4.block _ (blk_lt (unhide HR2).2.2.1) (Kd.R_ne (unhide HR2).2.1 (unhide HR2).2.2.1 (by decide))).trans (unhide HR2).2.2.1
                have P4 : Hid (Op4 w4 wo.heap.size ok on oc om) := (hg4.block _ (blk_lt (unhide HO2)) (Kd.R_ne (unhide HR2).2.1 (unhide HO2) (by decide))).trans (unhide HO2)
                have B4 := hide ((unhide HR2).2.2.2.trans hB4)
                obtain ⟨A1, c1, rfl⟩ := Kd.R_slice hR4
                have HR4 := hide hR4
                clear hR4 hB4 hg4 hat4 hne1 hne2 HR2 HO2 o0 o1 o2 o3 o4
                obtain ⟨⟨o0, o1⟩, ⟨o2, o3⟩, o4⟩ := (unhide P4).cells
                go_wp2_with fail
                refine (enter_ok (b1 + 1) b1 b1 l on om _ _ _ _ oc _ (unhide S4) (unhide HWF) (by have := unhide HLL; omega) (unhide HMS) (Nat.le_refl _)).mono ?_
                rintro e w5 ⟨rfl, h5, hb5, hk5⟩
                rw [unhide HE1]
                rw [unhide HE2] at h5
                have R5 : Hid (Rel w b1 w5 (l ++ [(on, om)]) A1 c1 ak an ac am) := Rel.kept (unhide HR4) (unhide O4) (unhide B4) h5 hb5 hk5 z1
                clear h5 hb5 hk5 S4
                go_wp2_with fail
                refine (len_ok (b1 + 1) b1 (l ++ [(on, om)]) _ (unhide R5).1).mono ?_
                rintro e w' ⟨rfl, rfl⟩
                go_wp2
                go_roundg (ko - 1)
                case measure => have := unhide HK; omega
                case rel => exact ⟨i + 1, (l ++ [(on, om)]), A1, c1, by rw [List.length_append, List.length_singleton], by go_num, by have := unhide HK; show i + 1 + (ko - 1) = n; omega, by show _ ≤ _; rw [List.length_append, List.length_singleton]; have := unhide HL; omega, unhide R5⟩
          · rcases ps_all l on with ⟨hat, p, hp1, hp2, hp3⟩ | ⟨hat, hp1⟩
            · rw [hp1]
              have HE1 : Hid (lres l on = 0) := by show _ = _; unfold lres; rw [hat]; rfl
              have HCUT := hide (cut_out (unhide HR2).1.2.2 p hp2 hp3)
              have hl2 : (out_ l on).length + 1 = l.length := len_out (unhide HR2).1.2.2 hat
              have HL2 := hide hl2
              have pq : (0 : Int) ≤ (p : Int) := by omega
              obtain ⟨_, hc0, hC⟩ := Kd.R_reads' (unhide HR2).2.1
              obtain ⟨i0, hi0, _, hsz0, _⟩ := info_parts info68
              have k1 := cut_to (P := Try.prog) 66 68 .i64 Try.underlying66 hi0 A0 l.length c0 (p : Int) (by omega) (by omega) hc0
              have k2 := cut_from (P := Try.prog) 66 68 .i64 Try.underlying66 hi0 2 hsz0 A0 l.length c0 ((p : Int) + 1) (by omega) (by omega)
              have ep : ((p : Int) + 1).toNat = p + 1 := by omega
              rw [Int.toNat_natCast] at k1
              rw [ep] at k2
              have HC1 := hide (row_take hC (m := p) (by omega))
              have HC2 := hide (row_drop hC (m := p + 1) (by omega) hc0)
              have HD := hide (show (l.drop (p + 1)).length = l.length - (p + 1) from List.length_drop)
              have HT := hide (show (l.take p).length = p by rw [List.length_take]; omega)
              have HPL : Hid (p < l.length) := hp2
              have E := hide (w64 ((p : Int) + 1) (by have := unhide HLL; omega) (by have := unhide HLL; omega))
              have hq0 : l.length - (p + 1) ≤ 200 := by have := unhide HLL; omega
              have HQ0 := hide hq0
              generalize (if c0 = p + 1 then A0 else A0.map (·.add ((p + 1) * 2))) = A2 at k2 HC2
              generalize hr2 : l.length - (p + 1) = r2 at k2 HC2 HD HQ0 hq0
              generalize hc2 : c0 - (p + 1) = c2 at k2
              clear hat hp1 hp2 hp3 hR2 hq1 hc0 hC ep hl2 hq0 hr2 hc2
              go_wp2
              have RD : Hid (Rel w b1 wr.drew l A0 c0 ak an ac am) := (unhide HR2).below (below_drew (Below.refl _ _))
              have OD : Hid (Op4 wr.drew wo.heap.size ok on oc om) := unhide HO2
              obtain ⟨pp, hpp⟩ : ∃ x, wrap64 ((p : Int) + 1) = x := ⟨_, rfl⟩
              have HPP := hide (hpp.symm.trans (unhide E))
              rw [← unhide HPP] at k2
              have HC1D : Hid (dL.C wr.drew A0 p (l.take p)) := Kd.C_drew (unhide HC1)
              have HC2D : Hid (dL.C wr.drew A2 r2 (l.drop (p + 1))) := Kd.C_drew (unhide HC2)
              have HBZ : Hid (b1 < wr.drew.heap.size) := (unhide RD).1.lt
              have RE := hide (row_empty wr.drew wr.drew.heap.size (fun k => k ≠ b1) (Nat.le_refl _) (fun e => by have := unhide HBZ; omega))
              have BE := hide (below_alloc (Below.refl wr.drew.heap.size wr.drew) (.cells #[] 68))
              have CE1 := hide (Kd.C_alloc (unhide HC1D) (.cells #[] 68))
              obtain ⟨w6, hw6⟩ : ∃ x, wr.drew.alloc (.cells #[] 68) = x := ⟨_, rfl⟩
              rw [hw6] at RE BE CE1
              refine start_ (n := 11) (S := fun _ => True) (ds := []) #[false, false, false, false, false, false, false, false, false, false, false] (by kernel_rfl) rfl rfl trivial (fun hHeld => ?_)
              refine with_tabW tabT13_31 bitsT13_31 (fun HT_ HW_ => ?_)
              refine pure_ (i := 1) (N := some 86) (v := ?_) (a' := ?_) #[false, true, false, false, false, false, false, false, false, false, false] rfl rfl (any_of HT_.out (by kernel_rfl)) (fun _ _ _ h => h) (Or.inl ⟨by rfl, ?_⟩) ?_ ?_
              rotate_left
              · intro w'
                go_simp
                with_reducible rfl
              rotate_left
              · simp only [Act.put, List.setIfInBounds_toArray, List.set_cons_zero, List.set_cons_succ, i64_w, i32_w]
                rfl
              refine pure_ (i := 2) (N := some 87) (v := ?_) (a' := ?_) #[false, true, true, false, false, false, false, false, false, false, false] rfl rfl (any_of HT_.out (by kernel_rfl)) (fun _ _ _ h => h) (Or.inl ⟨by rfl, ?_⟩) ?_ ?_
              rotate_left
              · intro w'
                go_simp
                with_reducible rfl
              rotate_left
              · simp only [Act.put, List.setIfInBounds_toArray, List.set_cons_zero, List.set_cons_succ, i64_w, i32_w]
                rfl
              refine pure_ (i := 3) (N := some 88) (v := ?_) (a' := ?_) #[false, true, true, true, false, false, false, false, false, false, false] rfl rfl (any_of HT_.out (by kernel_rfl)) (fun _ _ _ h => h) (Or.inl ⟨by rfl, ?_⟩) ?_ ?_
              rotate_left
              · intro w'
                go_simp
                with_reducible rfl
              rotate_left
              · simp only [Act.put, List.setIfInBounds_toArray, List.set_cons_zero, List.set_cons_succ, i64_w, i32_w]
                rfl
              refine pure_ (i := 5) (N := some 90) (v := ?_) (a' := ?_) #[false, true, true, true, false, true, false, false, false, false, false] rfl rfl (any_of HT_.out (by kernel_rfl)) (fun _ _ _ h => h) (Or.inl ⟨by rfl, ?_⟩) ?_ ?_
              rotate_left
              · intro w'
                go_simp
                with_reducible rfl
              rotate_left
              · simp only [Act.put, List.setIfInBounds_toArray, List.set_cons_zero, List.set_cons_succ, i64_w, i32_w]
                rfl
              refine pure_ (i := 6) (N := some 91) (v := ?_) (a' := ?_) #[false, true, true, true, false, true, true, false, false, false, false] rfl rfl (any_of HT_.out (by kernel_rfl)) (fun _ _ _ h => h) (Or.inl ⟨by rfl, ?_⟩) ?_ ?_
              rotate_left
              · intro w'
                go_simp
                with_reducible rfl
              rotate_left
              · simp only [Act.put, List.setIfInBounds_toArray, List.set_cons_zero, List.set_cons_succ, i64_w, i32_w]
                rfl
              refine pure_ (i := 7) (N := some 92) (v := ?_) (a' := ?_) #[false, true, true, true, false, true, true, true, false, false, false] rfl rfl (any_of HT_.out (by kernel_rfl)) (fun _ _ _ h => h) (Or.inl ⟨by rfl, ?_⟩) ?_ ?_
              rotate_left
              · intro w'
                go_simp
                with_reducible rfl
              rotate_left
              · simp only [Act.put, List.setIfInBounds_toArray, List.set_cons_zero, List.set_cons_succ, i64_w, i32_w]
                rfl
              refine pure_ (i := 8) (N := some 93) (v := ?_) (a' := ?_) #[false, true, true, true, false, true, true, true, true, false, false] rfl rfl (any_of HT_.out (by kernel_rfl)) (fun _ _ _ h => h) (Or.inl ⟨by rfl, ?_⟩) ?_ ?_
              rotate_left
              · intro w'
                go_simp
                with_reducible rfl
              rotate_left
              · simp only [Act.put, List.setIfInBounds_toArray, List.set_cons_zero, List.set_cons_succ, i64_w, i32_w]
                rfl
              refine one_ (i := 0) (N := some 85) #[true, true, true, true, false, true, true, true, true, false, false] rfl rfl (one_of HT_.out (by kernel_rfl)) (by decide) (fun K hK => ?_)
              refine value_ (v := .slice (some ⟨wr.drew.heap.size, 0, none⟩) 0 0) (w1 := w6) (by rfl) rfl ?hrun ?_
              case hrun =>
                rw [← hw6]
                first | rfl | (go_simp; done) | (go_simp; rfl)
              clear hHeld
              refine hK.out _ _ trivial (fun hHeld => ?_)
              clear hK K
              refine norm_ (a' := ?_) ?_ ?_
              rotate_left
              · show Act.put _ (some 85) _ = _
                simp only [Act.put, List.setIfInBounds_toArray, List.set_cons_zero, List.set_cons_succ, i64_w, i32_w]
                rfl
              refine one_ (i := 4) (N := some 89) #[true, true, true, true, true, true, true, true, true, false, false] rfl rfl (one_of HT_.out (by kernel_rfl)) (by decide) (fun K hK => ?_)
              refine Kd.R_append_rows_step dL (Rr := dL.K w6) (w0 := wr.drew) wr.drew.heap.size (by rfl) (.tmp 85) (.tmp 88) 66 68 (.agg #[.int .i64 0, .string ⟨#[]⟩]) 24 rfl Try.underlying66 info68 rfl (by decide) (by decide) (.slice (some ⟨wr.drew.heap.size, 0, none⟩) 0 0) [] (l.take p) A0 p c0 (fun k => k ≠ b1) (fun _ => False) rfl rfl (unhide RE) (unhide CE1) (fun x cs h => h) (fun k h => h.elim) (fun k h e => by have := unhide HBZ; have := (unhide BE).size; omega) (unhide BE) (unhide BE).size (by have := unhide HPL; have := unhide HLL; simp; omega) ?_
              intro v7 w7 hR7 hB7 hg7 hat7
              rw [List.nil_append] at hR7
              have R7 := hide hR7
              have B7 := hide hB7
              have CE2 := hide (Kd.C_below (unhide HC2D) hB7)
              obtain ⟨A7, c7, rfl⟩ := Kd.R_slice hR7
              clear hR7 hB7 hg7 hat7
              clear hHeld
              refine hK.out _ _ trivial (fun hHeld => ?_)
              clear hK K
              refine norm_ (a' := ?_) ?_ ?_
              rotate_left
              · show Act.put _ (some 89) _ = _
                simp only [Act.put, List.setIfInBounds_toArray, List.set_cons_zero, List.set_cons_succ, i64_w, i32_w]
                rfl
              refine one_ (i := 9) (N := some 94) #[true, true, true, true, true, true, true, true, true, true, false] rfl rfl (one_of HT_.out (by kernel_rfl)) (by decide) (fun K hK => ?_)
              refine Kd.R_append_rows_step dL (Rr := dL.K w7) (w0 := wr.drew) wr.drew.heap.size (by rfl) (.tmp 89) (.tmp 93) 66 68 (.agg #[.int .i64 0, .string ⟨#[]⟩]) 24 rfl Try.underlying66 info68 rfl (by decide) (by decide) (.slice A7 (l.take p).length c7) (l.take p) (l.drop (p + 1)) A2 r2 c2 (fun k => k ≠ b1) (fun _ => False) rfl rfl (unhide R7) (unhide CE2) (fun x cs h => h) (fun k h => h.elim) (fun k h e => by have := unhide HBZ; have := (unhide B7).size; omega) (unhide B7) (unhide B7).size (by have := unhide HPL; have := unhide HT; have := unhide HLL; have := unhide HQ0; omega) ?_
              intro v8 w8 hR8 hB8 hg8 hat8
              rw [unhide HCUT] at hR8
              have R8 := hide hR8
              have B8 := hide hB8
              obtain ⟨A8, c8, rfl⟩ := Kd.R_slice hR8
              clear hR8 hB8 hg8 hat8
              clear hHeld
              refine hK.out _ _ trivial (fun hHeld => ?_)
              clear hK K
              refine norm_ (a' := ?_) ?_ ?_
              rotate_left
              · show Act.put _ (some 94) _ = _
                simp only [Act.put, List.setIfInBounds_toArray, List.set_cons_zero, List.set_cons_succ, i64_w, i32_w]
                rfl
              refine pure_ (i := 10) (N := some 6) (v := ?_) (a' := ?_) #[true, true, true, true, true, true, true, true, true, true, true] rfl rfl (any_of HT_.out (by kernel_rfl)) (fun _ _ _ h => h) (Or.inl ⟨by rfl, ?_⟩) ?_ ?_
              rotate_left
              · intro w'
                go_simp
                with_reducible rfl
              rotate_left
              · simp only [Act.put, List.setIfInBounds_toArray, List.set_cons_zero, List.set_cons_succ, i64_w, i32_w]
                rfl
              refine done_ (done_of HT_.out (by kernel_rfl)) ?_
              clear HT_ HW_ hHeld
              clear hpp k1 k2 o0 o1 o2 o3 o4
              have S4 := hide ((unhide RD).1.below (unhide B8))
              have O8 : Hid (Op4 w8 w.heap.size ak an ac am) := blk_below (unhide RD).2.2.1 (unhide B8)
              have BB8 := hide (below_step (unhide RD).2.2.2 (unhide B8))
              have R9 := hide (Kd.R_lower (unhide R8) (unhide RD).2.2.2.size)
              have P8 : Hid (Op4 w8 wo.heap.size ok on oc om) := blk_below (unhide OD) (unhide B8)
              obtain ⟨⟨o0, o1⟩, ⟨o2, o3⟩, o4⟩ := (unhide P8).cells
              clear HR2 HO2 RD OD R7 B7 R8 B8 CE1 CE2 RE BE hw6 HC1 HC2 HC1D HC2D
              go_wp2_with fail
              refine (leave_ok (b1 + 1) b1 b1 l on _ (unhide S4) (unhide HWF) (Nat.le_refl _)).mono ?_
              rintro e w5 ⟨rfl, h5, hb5, hk5⟩
              rw [unhide HE1]
              have R5 : Hid (Rel w b1 w5 (out_ l on) A8 c8 ak an ac am) := Rel.kept (unhide R9) (unhide O8) (unhide BB8) h5 hb5 hk5 z1
              clear h5 hb5 hk5 S4
              go_wp2_with fail
              refine (len_ok (b1 + 1) b1 (out_ l on) _ (unhide R5).1).mono ?_
              rintro e w' ⟨rfl, rfl⟩
              go_wp2
              go_roundg (ko - 1)
              case measure => have := unhide HK; omega
              case rel => exact ⟨i + 1, (out_ l on), A8, c8, rfl, by go_num, by have := unhide HK; show i + 1 + (ko - 1) = n; omega, by show _ ≤ _; have := unhide HL; have := unhide HL2; omega, unhide R5⟩
            · rw [hp1]
              have HE1 : Hid (lres l on = 4) := by show _ = _; unfold lres; rw [hat]; rfl
              have HE2 : Hid (out_ l on = l) := out_none hat
              have S4 := hide (unhide HR2).1
              clear hat hp1 hR2 hq1
              go_wp2_with fail
              refine (leave_ok (b1 + 1) b1 b1 l on _ (unhide S4) (unhide HWF) (Nat.le_refl _)).mono ?_
              rintro e w5 ⟨rfl, h5, hb5, hk5⟩
              rw [unhide HE1]
              rw [unhide HE2] at h5
              have R5 : Hid (Rel w b1 w5 l A0 c0 ak an ac am) := Rel.kept (unhide HR2).2.1 (unhide HR2).2.2.1 (unhide HR2).2.2.2 h5 hb5 hk5 z1
              clear h5 hb5 hk5 S4 HR2 HO2
              go_wp2_with fail
              refine (len_ok (b1 + 1) b1 l _ (unhide R5).1).mono ?_
              rintro e w' ⟨rfl, rfl⟩
              go_wp2
              go_roundg (ko - 1)
              case measure => have := unhide HK; omega
              case rel => exact ⟨i + 1, l, A0, c0, rfl, by go_num, by have := unhide HK; show i + 1 + (ko - 1) = n; omega, by show _ ≤ _; have := unhide HL; omega, unhide R5⟩
    · have hin : i = n := by have := unhide HK; omega
      subst hin
      have q1 : ¬ (i : Int) < (i : Int) := by omega
      go_wp2
      go_loopg [15, 16, 17, 109] l.length (fun kq v15 v16 v17 v109 wr => ∃ (j : Nat), v15 = .int .i64 (cq l am j : Int) ∧ v16 = .string (wl l an j).1 ∧ v17 = .bool (wl l an j).2 ∧ v109 = .int .i64 (j : Int) ∧ Hid (j + kq = l.length) ∧ Hid (Rel w b1 wr l A0 c0 ak an ac am))
      case atStart => exact ⟨0, rfl, rfl, rfl, rfl, Nat.zero_add _, unhide HREL⟩
      case round =>
        obtain ⟨j, rfl, rfl, rfl, rfl, HJ, HR2⟩ := hrel
        clear HREL
        have hR2 := (Kd.R_reads' (unhide HR2).2.1).2.2
        obtain ⟨⟨o0, o1⟩, ⟨o2, o3⟩, o4⟩ := (unhide HR2).2.2.1.cells
        have hq1 := cq_low l am j
        by_cases hjl : j < l.length
        · obtain ⟨ad2, rfl, f1, f2⟩ := row_cell hR2 hjl
          have hps : wl l an (j + 1) = if (gt l j).1 = an then ((gt l j).2, true) else wl l an j := rfl
          have hcq : cq l am (j + 1) = cq l am j + (if (gt l j).2 = am then 1 else 0) := rfl
          generalize (gt l j).1 = y1 at f1 hps
          generalize (gt l j).2 = y2 at f2 hcq hps
          generalize wl l an j = p0 at hps ⊢
          generalize cq l am j = q0 at hcq hq1 ⊢
          have HB2 := hide ((unhide HR2).below (below_alloc (Below.refl wr.heap.size wr) (.cells #[.int .i64 y1, .string y2] 68)))
          have E := hide (w64 ((q0 : Int) + 1) (by have := unhide HLL; omega) (by have := unhide HLL; omega))
          have E2 := hide (w64 ((j : Int) + 1) (by have := unhide HLL; omega) (by have := unhide HLL; omega))
          have HPS := hide hps
          have HCQ := hide hcq
          have HJL : Hid (j < l.length) := hjl
          have jq : (j : Int) < (l.length : Int) := by omega
          clear hR2 hps hcq hq1 hjl HR2
          by_cases e1 : y1 = an
          · by_cases e2 : y2 = am
            · subst e1
              have hd := str_eq e2
              subst e2
              go_wp2
              go_roundg (gk - 1)
              case measure => have := unhide HJ; have := unhide HJL; omega
              case rel =>
                have h1 := unhide HPS
                have h2 := unhide HCQ
                simp only [if_true, if_false, eq_self] at h1
                simp only [if_true, if_false, eq_self] at h2
                exact ⟨j + 1, by rw [h2]; first | rfl | exact congrArg _ (unhide E) | go_num, by rw [h1], by rw [h1], by first | exact congrArg _ (unhide E2) | go_num, by have := unhide HJ; have := unhide HJL; show j + 1 + (gk - 1) = l.length; omega, unhide HB2⟩
            · subst e1
              have hd := str_ne e2
              go_wp2
              go_roundg (gk - 1)
              case measure => have := unhide HJ; have := unhide HJL; omega
              case rel =>
                have h1 := unhide HPS
                have h2 := unhide HCQ
                simp only [if_true, if_false, eq_self] at h1
                simp only [e2, if_true, if_false, eq_self] at h2
                exact ⟨j + 1, by rw [h2]; first | rfl | exact congrArg _ (unhide E) | go_num, by rw [h1], by rw [h1], by first | exact congrArg _ (unhide E2) | go_num, by have := unhide HJ; have := unhide HJL; show j + 1 + (gk - 1) = l.length; omega, unhide HB2⟩
          · by_cases e2 : y2 = am
            · have hd := str_eq e2
              subst e2
              go_wp2
              go_roundg (gk - 1)
              case measure => have := unhide HJ; have := unhide HJL; omega
              case rel =>
                have h1 := unhide HPS
                have h2 := unhide HCQ
                simp only [e1, if_true, if_false, eq_self] at h1
                simp only [if_true, if_false, eq_self] at h2
                exact ⟨j + 1, by rw [h2]; first | rfl | exact congrArg _ (unhide E) | go_num, by rw [h1], by rw [h1], by first | exact congrArg _ (unhide E2) | go_num, by have := unhide HJ; have := unhide HJL; show j + 1 + (gk - 1) = l.length; omega, unhide HB2⟩
            · have hd := str_ne e2
              go_wp2
              go_roundg (gk - 1)
              case measure => have := unhide HJ; have := unhide HJL; omega
              case rel =>
                have h1 := unhide HPS
                have h2 := unhide HCQ
                simp only [e1, if_true, if_false, eq_self] at h1
                simp only [e2, if_true, if_false, eq_self] at h2
                exact ⟨j + 1, by rw [h2]; first | rfl | exact congrArg _ (unhide E) | go_num, by rw [h1], by rw [h1], by first | exact congrArg _ (unhide E2) | go_num, by have := unhide HJ; have := unhide HJL; show j + 1 + (gk - 1) = l.length; omega, unhide HB2⟩
        · have hjn : j = l.length := by have := unhide HJ; omega
          subst hjn
          have jq : ¬ (l.length : Int) < (l.length : Int) := by omega
          rw [cq_all, wl_all (unhide HR2).1.2.2]
          have hs1 := str_eq (rfl : in_ l an = in_ l an)
          clear HJ hjl hq1 hR2
          go_wp2_with fail
          refine (in_ok (b1 + 1) b1 l an _ (unhide HR2).1 (unhide HAN)).mono ?_
          rintro e w' ⟨rfl, rfl⟩
          go_wp2_with fail
          refine (count_ok (b1 + 1) b1 l am _ (unhide HR2).1 (by have := unhide HLL; omega)).mono ?_
          rintro e w5 ⟨rfl, hb5⟩
          have B5 := hide (below_step (unhide HR2).2.2.2 hb5)
          clear hb5
          go_wp2
          go_ret
          exact ⟨rfl, unhide B5⟩
theorem law_any (A : Option Addr) (n c : Nat) (K N C : Nat → Int) (M : Nat → ByteArray) (ak an ac : Int) (am : ByteArray) (w : World) (hp : Ops4 w A n K N C M) (hn : n ≤ maxLen) (han : (Lit.int .i64 an).wf = true) :
    Calls Try.prog 13 #[.slice A n c, .agg #[.int .i64 ak, .int .i64 an, .int .i64 ac, .string am]] w fun e w' => e = .returned (.bool true) ∧ Below w.heap.size w w' := by
  by_cases h1 : 200 < n
  · exact law_not A n c _ _ _ _ w hn h1
  exact law_yes A n c K N C M ak an ac am w hp (by omega) han
end Go.Proofs.Ytjdkeicjhmdcfaa.SlP
