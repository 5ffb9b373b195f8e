import Derived.Test.YtjdkeicjhmdcfaaWi3
import Derived.Test.YtjdkeicjhmdcfaaOp1
set_option linter.unusedSimpArgs false
set_option linter.unusedVariables false
namespace Go.Proofs.Ytjdkeicjhmdcfaa.WiAll
open Go.RowKit Go.Proofs.YtjdkeicjhmdcfaaW.PrintWords Go.Proofs.YtjdkeicjhmdcfaaW.PrintLast Go.Proofs.YtjdkeicjhmdcfaaW.PrintMore Go.Proofs.Ytjdkeicjhmdcfaa.Wk Go.Proofs.Ytjdkeicjhmdcfaa.Wi Go.Proofs.Ytjdkeicjhmdcfaa.Op1

theorem law_not (A : Option Addr) (n c : Nat) (A2 : Option Addr) (n2 c2 : Nat) (w : World) (hn : n ≤ maxLen) (hn2 : n2 ≤ maxLen) (h : 30 < n ∨ (¬ 30 < n ∧ 60 < n2)) :
    Calls Try.prog 4 #[.slice A n c, .slice A2 n2 c2] w fun e w' => e = .returned (.bool true) ∧ Below w.heap.size w w' := by
  unfold maxLen at hn hn2
  rcases h with h | ⟨h, h1⟩
  · have d1 : 30 < (n : Int) := by omega
    go_enter Try.func4, Try.ntmps4
    go_wp2_with fail
    refine (carries_any _).mono ?_
    rintro e w1 ⟨rfl, hb⟩
    have HB := hide hb
    clear hb
    go_wp2
    go_ret
    exact ⟨rfl, unhide HB⟩
  · have d1 : ¬ 30 < (n : Int) := by omega
    have d2 : 60 < (n2 : Int) := by omega
    go_enter Try.func4, Try.ntmps4
    go_wp2_with fail
    refine (carries_any _).mono ?_
    rintro e w1 ⟨rfl, hb⟩
    have HB := hide hb
    clear hb
    go_wp2
    go_ret
    exact ⟨rfl, unhide HB⟩

/-- What holds between two pieces: what was put is what came and what is on its way. -/
def Rel (w wr : World) (g i : Nat) (all got xs : List Int) (A : Option Addr) (c : Nat) : Prop :=
  all = got ++ xs ∧ all.length ≤ 1000 * i ∧ Wire wr g (.slice A xs.length c) false ∧ Own wr w.heap.size (.slice A xs.length c) xs ∧ Below w.heap.size w wr

set_option maxHeartbeats 4000000 in
set_option maxRecDepth 100000 in
theorem law_yes (A : Option Addr) (n c : Nat) (L : Nat → List Int) (A2 : Option Addr) (c2 : Nat) (l2 : List Int) (w : World) (hp : Pcs w A n L) (hr2 : Kd.C (Kd.int .i64) w A2 l2.length l2) (hn : n ≤ 30) (hn2 : l2.length ≤ 60) :
    Calls Try.prog 4 #[.slice A n c, .slice A2 l2.length c2] w fun e w' => e = .returned (.bool true) ∧ Below w.heap.size w w' := by
  have hu25 := Try.underlying25
  have d1 : ¬ 30 < (n : Int) := by omega
  have d2 : ¬ 60 < (l2.length : Int) := by omega
  have HP := hide hp
  have HR2 := hide hr2
  clear hp hr2
  go_enter Try.func4, Try.ntmps4
  go_wp2_with fail
  refine (carries_any _).mono ?_
  rintro e w1 ⟨rfl, hb⟩
  have HB := hide hb
  have z1 : w.heap.size ≤ w1.heap.size := hb.size
  clear hb
  go_wp2
  go_loopg [6, 7, 26] n (fun kq v6 v7 v26 wr => ∃ (i : Nat) (all got xs : List Int) (A0 : Option Addr) (c0 : Nat), v6 = .string (strOfNums all) ∧ v7 = .string (strOfNums got) ∧ v26 = .int .i64 (i : Int) ∧ Hid (i + kq = n) ∧ Hid (Rel w wr w1.heap.size i all got xs A0 c0))
  case atStart =>
    exact ⟨0, [], [], [], none, 0, rfl, rfl, rfl, Nat.zero_add _, rfl, by simp, blk_new _ _, Kd.R_nil _ _ _ _ _, below_alloc (unhide HB) _⟩
  case round =>
    obtain ⟨ko, rfl⟩ : ∃ k, k = gk := ⟨_, rfl⟩
    obtain ⟨wo, rfl⟩ : ∃ k, k = wr := ⟨_, rfl⟩
    obtain ⟨i, all, got, xs, A0, c0, rfl, rfl, rfl, HK, HREL⟩ := hrel
    obtain ⟨hall, hlen, hW, hO, hbel⟩ := unhide HREL
    by_cases hlt : i < n
    · obtain ⟨ad, pv, rfl, hx, Ai, ci, rfl, hci, hmi, hCi, hBi⟩ := (unhide HP) i hlt
      replace hx := (hbel.cell (World.block_lt_of_cell? w _ hx)).trans hx
      unfold maxLen at hmi
      generalize L i = p at hx hci hmi hCi hBi
      by_cases hbig : 1000 < p.length
      · have d3 : 1000 < (p.length : Int) := by omega
        have HBE := hide hbel
        clear hW hO hbel HREL hall
        go_wp2
        go_ret
        exact ⟨rfl, unhide HBE⟩
      · have d3 : ¬ 1000 < (p.length : Int) := by omega
        have HWi := hide hW
        have HO := hide hO
        have HBE := hide hbel
        have HC := hide hCi
        have HALL := hide hall
        have q1 : (([] : List Int).length + p.length) * 1 ≤ 140737488355328 := by simp; omega
        clear hW hO hbel HREL hCi hBi hall
        go_wp2_with (at_builtin; refine unhide ?_)
        refine hide ?_
        refine Kd.R_append_row (w0 := wo) (Value.int .u8) (0 : Int) wo.heap.size rfl (.tmp 34) (.tmp 35) 23 5 (.int .u8 0) 1 rfl Try.underlying23 info5 rfl (by decide) (.slice (some ⟨wo.heap.size, 0, none⟩) 0 0) [] p Ai _ ci (fun _ => True) rfl rfl (fun _ _ => trivial) (own_empty wo wo.heap.size (Nat.le_refl _)) (Kd.C_alloc (Kd.C_below (unhide HC) (unhide HBE)) _) (below_alloc (Below.refl _ _) _) (by simp) q1 ?_
        intro v1 w2 hR1 hB1 hg1 hat1
        rw [List.nil_append] at hR1
        obtain ⟨Am, cm, rfl⟩ := Kd.R_slice hR1
        have HW2 := hide ((unhide HWi).below hB1)
        have HO2 := hide (Kd.R_below (unhide HO) hB1)
        have HM := hide hR1
        have HB2 := hide (below_step (unhide HBE) hB1)
        have HLT := hide (Kd.R_lt (unhide HO))
        have HMB := hide (Kd.R_base hR1)
        have hz2 : wo.heap.size ≤ w2.heap.size := hB1.size
        have hzg := blk_lt (unhide HWi)
        have q2 : xs.length ≤ 30000 := by
          have h := congrArg List.length (unhide HALL)
          rw [List.length_append] at h
          omega
        have q3 : xs.length + p.length ≤ 131072 := by omega
        have q4 : w.heap.size ≤ w2.heap.size := (unhide HB2).size
        clear hR1 hB1 hg1 hat1 HWi HO HBE
        go_wp2_with fail
        refine (put_okn w1.heap.size w.heap.size (.slice A0 xs.length c0) xs Am cm p.length (xs.length + p.length) p w2 (unhide HW2) (unhide HO2) (own_reads (unhide HM)).2.2 q4 z1 rfl rfl q3).mono ?_
        rintro e w3 ⟨A3, c3, rfl, hW3, hO3, hB3, hK3, hat3⟩
        have HSEP : Hid (∀ k, (Value.slice Am p.length cm).ownBlock = some k → some k ≠ (Value.slice A3 (xs.length + p.length) c3).ownBlock) := by
          intro k hk he
          have h1 := unhide HMB k hk
          rcases hat3 with h2 | ⟨b, h2, h3⟩
          · have h4 := unhide HLT k (by rw [← h2, ← he])
            omega
          · have h4 := Kd.R_lt (unhide HM) k hk
            rw [h2] at he
            injection he with he
            omega
        have HM3 := hide (own_kept (unhide HM) hK3 (fun e => by have h1 := unhide HMB _ e.symm; omega) (fun k hk e => by
          have h1 := unhide HMB k hk
          have h2 := unhide HLT k e.symm
          omega))
        have HW3 := hide hW3
        have HO3 := hide hO3
        have HB3 := hide ((unhide HB2).trans hB3)
        clear hW3 hO3 hB3 hK3 hat3 HM HO2 HW2 HB2 HLT HMB
        go_wp2
        go_loopg [42] p.length (fun kq v42 wi => ∃ (k : Nat) (ms : List Int), v42 = .int .i64 (k : Int) ∧ Hid (k + kq = p.length) ∧ Hid (Own wi wo.heap.size (.slice Am p.length cm) ms) ∧ Hid (Wire wi w1.heap.size (.slice A3 (xs.length + p.length) c3) false) ∧ Hid (Own wi w.heap.size (.slice A3 (xs.length + p.length) c3) (xs ++ p)) ∧ Hid (Below w.heap.size w wi))
        case atStart => exact ⟨0, p, rfl, Nat.zero_add _, unhide HM3, unhide HW3, unhide HO3, unhide HB3⟩
        case round =>
          obtain ⟨k, ms, rfl, HK1, HMI, HWI, HOI, HBI⟩ := hrel
          clear HM3 HW3 HO3 HB3
          by_cases hk : k < p.length
          · obtain ⟨gm, rfl⟩ := own_at (unhide HMI) (by omega)
            obtain ⟨hc1, hf1⟩ := own_cell (unhide HMI) hk
            go_wp2
            go_roundg (gk - 1)
            case measure => have := unhide HK1; omega
            case rel =>
              have hs := unhide HSEP gm rfl
              have hgw : w1.heap.size ≠ gm := fun e => (unhide HWI).ne_ (unhide HMI) (by rw [e]; rfl)
              have hbg : w.heap.size ≤ gm := Nat.le_trans (Nat.le_trans z1 (Nat.le_of_lt hzg)) (Kd.R_base (unhide HMI) gm rfl)
              exact ⟨k + 1, _, by go_num, by have := unhide HK1; show k + 1 + (gk - 1) = p.length; omega, own_put (unhide HMI) k _, (unhide HWI).far hgw, own_far (unhide HOI) hs, below_set (unhide HBI) hbg⟩
          · have hcv := Kd.C_string (P := Try.prog) (c := ci) Try.underlying23 Try.underlying5 Try.underlying9 (Kd.C_below (unhide HC) (unhide HBI))
            have hsa := str_add all p
            have hsz : (strOfNums all).size + (strOfNums p).size ≤ 100000 := by rw [strOfNums_size, strOfNums_size]; omega
            have hal : got.length ≤ 30000 := by
              have h := congrArg List.length (unhide HALL)
              rw [List.length_append] at h
              omega
            by_cases ht : i < l2.length
            · obtain ⟨ad2, rfl, hx2⟩ := Kd.at_int (unhide HR2) (i : Int) (by omega) (by omega)
              replace hx2 := ((unhide HBI).cell (World.block_lt_of_cell? w _ hx2)).trans hx2
              rw [Int.toNat_natCast] at hx2
              generalize rd l2 (i : Int) = most at hx2
              have hXL : (xs ++ p).length = xs.length + p.length := List.length_append
              generalize hX : xs ++ p = X at HOI hXL
              have HXX := hide hX
              have hcm := came_as most (xs.length + p.length)
              obtain ⟨_, _, _, hcl⟩ := hcm
              generalize hm : came most (xs.length + p.length) = m at hcl
              have HT := hide (take_okn w1.heap.size w.heap.size (.slice A3 (xs.length + p.length) c3) false X most m wr (unhide HWI) (unhide HOI) (unhide HBI).size z1 (by omega) (by rw [hXL]; exact hm))
              rw [hXL] at HT
              have HM := hide hm
              have HXL := hide hXL
              clear hX hm hXL
              go_wp2_with fail
              refine (unhide HT).mono ?_
              rintro e w4 ⟨A4, c4, A5, c5, rfl, hO4, hW4, hO5, hB4, hK4, hsep⟩
              have HO4 := hide hO4
              have HW4 := hide hW4
              have HO5 := hide (Kd.R_lower hO5 (unhide HBI).size)
              have HB4 := hide ((unhide HBI).trans hB4)
              have hzr := hB4.size
              have hgr := blk_lt (unhide HWI)
              have HSEP2 := hide hsep
              have hcv2 := Kd.C_string (P := Try.prog) (c := c4) Try.underlying23 Try.underlying5 Try.underlying9 (own_reads hO4).2.2
              have hl4 : (X.take m).length = m := (own_len hO4).symm
              rw [hl4] at hcv2
              have hsa2 := str_add got (X.take m)
              have hsz2 : (strOfNums got).size + (strOfNums (X.take m)).size ≤ 200000 := by rw [strOfNums_size, strOfNums_size]; omega
              have HZ := hide (unhide HBI).size
              clear hO4 hW4 hO5 hB4 hK4 hsep HT hl4 HMI HWI HOI HBI
              go_wp2
              go_loopg [71] m (fun kq v71 wi => ∃ (k : Nat) (ms : List Int), v71 = .int .i64 (k : Int) ∧ Hid (k + kq = m) ∧ Hid (Own wi wr.heap.size (.slice A4 m c4) ms) ∧ Hid (Wire wi w1.heap.size (.slice A5 (xs.length + p.length - m) c5) false) ∧ Hid (Own wi w.heap.size (.slice A5 (xs.length + p.length - m) c5) (X.drop m)) ∧ Hid (Below w.heap.size w wi))
              case atStart => exact ⟨0, _, rfl, Nat.zero_add _, unhide HO4, unhide HW4, unhide HO5, unhide HB4⟩
              case round =>
                obtain ⟨k, ms, rfl, HK1, HMI, HWI, HOI, HBI⟩ := hrel
                clear HO4 HW4 HO5 HB4 hcv hcv2 hsa hsa2
                by_cases hk : k < m
                · obtain ⟨gm, rfl⟩ := own_at (unhide HMI) (by omega)
                  obtain ⟨hc1, hf1⟩ := own_cell (unhide HMI) hk
                  go_wp2
                  go_roundg (gk - 1)
                  case measure => have := unhide HK1; omega
                  case rel =>
                    have hs := unhide HSEP2 gm rfl
                    have hgw : w1.heap.size ≠ gm := fun e => (unhide HWI).ne_ (unhide HMI) (by rw [e]; rfl)
                    have hbg : w.heap.size ≤ gm := Nat.le_trans (unhide HZ) (Kd.R_base (unhide HMI) gm rfl)
                    exact ⟨k + 1, _, by go_num, by have := unhide HK1; show k + 1 + (gk - 1) = m; omega, own_put (unhide HMI) k _, (unhide HWI).far hgw, own_far (unhide HOI) hs, below_set (unhide HBI) hbg⟩
                · go_wp2
                  go_roundg (ko - 1)
                  case measure => have := unhide HK; omega
                  case rel =>
                    have hXL : (X.drop m).length = xs.length + p.length - m := by rw [List.length_drop, unhide HXL]
                    refine ⟨i + 1, all ++ p, got ++ X.take m, X.drop m, A5, c5, rfl, rfl, by go_num, by have := unhide HK; show i + 1 + (ko - 1) = n; omega, ?_, by rw [List.length_append]; omega, ?_, ?_, unhide HBI⟩
                    · rw [unhide HALL, List.append_assoc, List.append_assoc, List.take_append_drop, unhide HXX]
                    · rw [hXL]; exact unhide HWI
                    · rw [hXL]; exact unhide HOI
            · go_wp2
              go_roundg (ko - 1)
              case measure => have := unhide HK; omega
              case rel =>
                refine ⟨i + 1, all ++ p, got, xs ++ p, A3, c3, rfl, rfl, by go_num, by have := unhide HK; show i + 1 + (ko - 1) = n; omega, ?_⟩
                have hXL : (xs ++ p).length = xs.length + p.length := List.length_append
                refine ⟨by rw [unhide HALL, List.append_assoc], by rw [List.length_append]; omega, ?_, ?_, unhide HBI⟩
                · rw [hXL]; exact unhide HWI
                · rw [hXL]; exact unhide HOI
    · have HWi := hide hW
      have HO := hide hO
      have HBE := hide hbel
      have HALL := hide hall
      have hal : xs.length ≤ 30000 := by
        have h := congrArg List.length hall
        rw [List.length_append] at h
        have := unhide HK
        omega
      have hal2 : all.length ≤ 30000 := by have := unhide HK; omega
      clear hW hO hbel HREL hall
      go_wp2_with fail
      refine (shut_ok w1.heap.size _ false _ (unhide HWi)).mono ?_
      rintro e w' ⟨rfl, rfl⟩
      have HWs : Hid (Wire (wo.setCell ⟨w1.heap.size, 1, none⟩ (.bool true)) w1.heap.size (.slice A0 xs.length c0) true) := blk_put (unhide HWi) 1 _ rfl
      have HOs := hide ((unhide HWi).own (unhide HO) 1 (.bool true))
      have HBs := hide (below_set (g := w1.heap.size) (j := 1) (v := .bool true) (unhide HBE) z1)
      clear HWi HO HBE
      go_wp2
      go_loopg [7] xs.length (fun kq v7 wi => ∃ (got' ys : List Int) (A' : Option Addr) (c' : Nat), v7 = .string (strOfNums got') ∧ Hid (got' ++ ys = all) ∧ Hid (ys.length ≤ kq ∧ kq ≤ 30000) ∧ Hid (Wire wi w1.heap.size (.slice A' ys.length c') true) ∧ Hid (Own wi w.heap.size (.slice A' ys.length c') ys) ∧ Hid (Below w.heap.size w wi))
      case atStart => exact ⟨got, xs, A0, c0, rfl, (unhide HALL).symm, ⟨Nat.le_refl _, hal⟩, unhide HWs, unhide HOs, unhide HBs⟩
      case round =>
        obtain ⟨got', ys, A', c', rfl, HE, HL, HWI, HOI, HBI⟩ := hrel
        clear HWs HOs HBs
        go_wp2_with fail
        refine (len_ok w1.heap.size A' ys.length c' true _ (unhide HWI)).mono ?_
        rintro e w' ⟨rfl, rfl⟩
        by_cases hp : 0 < ys.length
        · have hp' : 0 < (ys.length : Int) := by omega
          have hly := unhide HL
          obtain ⟨_, _, _, hcl⟩ := came_as 7 ys.length
          have hc7 : 1 ≤ came 7 ys.length := by unfold came; split <;> omega
          generalize hm : came 7 ys.length = m at hcl hc7
          have HT := hide (take_okn w1.heap.size w.heap.size (.slice A' ys.length c') true ys 7 m wr (unhide HWI) (unhide HOI) (unhide HBI).size z1 (by omega) hm)
          have hgl : got'.length + ys.length ≤ 30000 := by
            have h := congrArg List.length (unhide HE)
            rw [List.length_append] at h
            omega
          clear hm hly
          go_wp2_with fail
          refine (unhide HT).mono ?_
          rintro e w4 ⟨A4, c4, A5, c5, rfl, hO4, hW4, hO5, hB4, hK4, hsep⟩
          have hcv2 := Kd.C_string (P := Try.prog) (c := c4) Try.underlying23 Try.underlying5 Try.underlying9 (own_reads hO4).2.2
          have hl4 : (ys.take m).length = m := (own_len hO4).symm
          rw [hl4] at hcv2
          have hsa2 := str_add got' (ys.take m)
          have hsz2 : (strOfNums got').size + (strOfNums (ys.take m)).size ≤ 200000 := by rw [strOfNums_size, strOfNums_size]; omega
          have HW4 := hide hW4
          have HO5 := hide (Kd.R_lower hO5 (unhide HBI).size)
          have HB4 := hide ((unhide HBI).trans hB4)
          clear hO4 hW4 hO5 hB4 hK4 hsep HT hl4 HWI HOI HBI
          go_wp2
          go_roundg (gk - 1)
          case measure => have := (unhide HL).1; omega
          case rel =>
            have hXL : (ys.drop m).length = ys.length - m := List.length_drop
            refine ⟨got' ++ ys.take m, ys.drop m, A5, c5, rfl, ?_, ?_, ?_, ?_, unhide HB4⟩
            · show (got' ++ ys.take m) ++ ys.drop m = all
              rw [List.append_assoc, List.take_append_drop]
              exact unhide HE
            · have := unhide HL
              show (ys.drop m).length ≤ gk - 1 ∧ gk - 1 ≤ 30000
              rw [hXL]
              omega
            · rw [hXL]; exact unhide HW4
            · rw [hXL]; exact unhide HO5
        · have hy : ys = [] := List.eq_nil_of_length_eq_zero (by omega)
          subst hy
          have he := unhide HE
          rw [List.append_nil] at he
          subst he
          have hp' : ¬ 0 < (0 : Int) := by omega
          go_wp2_with fail
          refine (ended_shut w1.heap.size A' 0 c' _ (unhide HWI)).mono ?_
          rintro e w' ⟨rfl, rfl⟩
          go_wp2_with fail
          refine (put_shut w1.heap.size (.slice A' 0 c') none 0 0 _ (unhide HWI)).mono ?_
          rintro e w' ⟨rfl, rfl⟩
          go_wp2
          go_ret
          exact ⟨rfl, unhide HBI⟩

theorem law_any (A : Option Addr) (n c : Nat) (L : Nat → List Int) (A2 : Option Addr) (c2 : Nat) (l2 : List Int) (w : World) (hp : Pcs w A n L) (hr2 : Kd.C (Kd.int .i64) w A2 l2.length l2) (hn : n ≤ maxLen) (hn2 : l2.length ≤ maxLen) :
    Calls Try.prog 4 #[.slice A n c, .slice A2 l2.length c2] w fun e w' => e = .returned (.bool true) ∧ Below w.heap.size w w' := by
  by_cases h1 : 30 < n
  · exact law_not A n c A2 _ c2 w hn hn2 (.inl h1)
  by_cases h2 : 60 < l2.length
  · exact law_not A n c A2 _ c2 w hn hn2 (.inr ⟨h1, h2⟩)
  exact law_yes A n c L A2 c2 l2 w hp hr2 (by omega) (by omega)
end Go.Proofs.Ytjdkeicjhmdcfaa.WiAll
